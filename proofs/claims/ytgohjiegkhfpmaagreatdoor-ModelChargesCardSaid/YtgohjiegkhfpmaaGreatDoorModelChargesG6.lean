/- Lemmas for the statement ModelCharges, part 6: rules of operations, walks through functions, plain laws. -/
import Derived.Test.YtgohjiegkhfpmaaGreatDoorModelChargesG5
set_option maxRecDepth 100000
set_option linter.all false
namespace Go.Proofs.YtgohjiegkhfpmaaGreatDoor
open Go
open Go.IntKind (i64 u64 u8 u32)
open List (replicate)
open Nat (beq blt)
open BitVec (ofInt)
variable {X X0:Cx} {now:Int} {L:List Ch} {lv lv':List Nat} {es:List Value} {c c' i j k m q r:Nat} {α:Type} {v':V} {x:Value} {w w' w0:World}
theorem Al{l:List Ob}(ho:∀o∈l,o.data.ok w0/\o.data.len<=1048576)(H:Hp w0 w [] L):∀o∈l,o.data.ok w/\o.data.len<=1048576:=fun o h=>⟨(ho o h).1.up H (fun _=>U9 _),(ho o h).2⟩
theorem Am{l:List Ob}{F:A6->Option RO}{n:Nat}(h:FD l F)(hn:l.length<=n)(m:List A6)(hm:m.Nodup)(hs:∀j∈m,(F j).isSome=true):m.length<=n:=by
 have h1:=BY (m:=l.map (·.of)) hm (fun x hx=>by
  have h2:=hs x hx
  have h3:(Z3 l x).isSome=true:=by rw[<-h x];cases hf:F x with
  |none=>rw[hf]at h2;cases h2
  |some v=>rfl
  obtain⟨s,hs'⟩:=iF.1 h3
  obtain⟨o,ho,e,_⟩:=yX hs'
  exact J6.2 ⟨o,ho,e⟩)
 rw[J7]at h1;omega
theorem An{l:List Ob}{F:A6->Option RO}{r:Bool}{R:List A6}(h:OL F r R)(hf:FD l F):RisA R/\∀k∈R,(Z3 l k).isSome=true:=⟨h.1,fun k hk=>by
 obtain⟨v,h1,_⟩:=(h.2 k).1 hk
 rw[<-hf k,h1];rfl⟩
theorem Ao(w0:World)(g:Gl Ob)(hg:g.ok uQ 33 w0)(ho:∀o∈g.l,o.data.ok w0/\o.data.len<=1048576)(hgm:g.len<=65536)(r:Gl A6)(hr:r.ok C2 32 w0)(hrm:r.len<=65536)(hT:HT g.l w0):
  Ret Tryz.prog 134 [g.v,r.v] w0 fun v w'=>∃a k R,(RisA R/\∀k∈R,(Z3 g.l k).isSome=true)/\v=.slice (hd a) R.length k/\Hp w0 w' [] [.own a R.length k (R.flatMap C2) 36 32]:=by
 refine T7 Tryz.func134 rfl Tryz.ntmps134 (by simp) ?_
 have H:=Hp.refl w0 []
 have hgl:=hg.ln
 have rN:=hr.ln
 refine rG ?_;refine aZ ?_;refine eN ?_
 refine rG ?_;refine B8 ?_;refine B8 ?_;refine A3 (N4 Tryz.func172 rfl rfl rfl (Ac _ g (hg.up H) (Al ho H) (by (try dsimp only);omega) r (hr.up H) (by (try dsimp only);omega) hT) ?_);rintro _ w ⟨b1,M2,c3,F4,rfl,hF5,hM6,hfo7,Hc⟩
 replace H:Hp _ w _ ([.obj b1 (B7 kA M2 c3)]):=H.call Hc
 clear Hc
 refine A3 (N4 Tryz.func171 rfl rfl rfl (Af _ b1 c3 M2 F4 true hF5 hM6 (H.has _ (E3 (i:=0) rfl)) (Am hfo7 zO)) ?_);rintro _ w ⟨a8,k9,R10,hth11,rfl,Hc⟩
 replace H:=H.callP (L1:=[.obj b1 (B7 kA M2 c3)]) (Lr:=[]) (LL:=[.obj b1 (B7 kA M2 c3)]) (.refl _) rfl Hc (.refl _)
 clear Hc
 replace H:Hp _ w _ ([_,.own a8 R10.length k9 ((R10).flatMap C2) 36 32]):=H
 refine aZ ?_;refine eN ?_
 refine o8 ?_
 refine w9 (v:=.slice (hd a8) R10.length k9) Tryz.results134 rfl ?_
 refine⟨_,rfl,?_⟩
 exact⟨_,_,_,An hth11 hfo7,rfl,H.sub (.cons _ (.cons_cons _ (P4 _)))⟩
theorem Ap(w0:World)(g:Gl Ob)(hg:g.ok uQ 33 w0)(ho:∀o∈g.l,o.data.ok w0/\o.data.len<=1048576)(hgm:g.len<=65536)(r:Gl A6)(hr:r.ok C2 32 w0)(hrm:r.len<=65536)(hT:HT g.l w0):
  Ret Tryz.prog 130 [g.v,r.v] w0 fun v w'=>∃a k R,(RisA R/\∀k∈R,(Z3 g.l k).isSome=true)/\v=.slice (hd a) R.length k/\Hp w0 w' [] [.own a R.length k (R.flatMap C2) 36 32]:=by
 refine T7 Tryz.func130 rfl Tryz.ntmps130 (by simp) ?_
 have H:=Hp.refl w0 []
 have hgl:=hg.ln
 have rN:=hr.ln
 refine rG ?_;refine aZ ?_;refine eN ?_
 refine rG ?_;refine B8 ?_;refine B8 ?_;refine A3 (N4 Tryz.func172 rfl rfl rfl (Ac _ g (hg.up H) (Al ho H) (by (try dsimp only);omega) r (hr.up H) (by (try dsimp only);omega) hT) ?_);rintro _ w ⟨b1,M2,c3,F4,rfl,hF5,hM6,hfo7,Hc⟩
 replace H:Hp _ w _ ([.obj b1 (B7 kA M2 c3)]):=H.call Hc
 clear Hc
 refine A3 (N4 Tryz.func171 rfl rfl rfl (Af _ b1 c3 M2 F4 false hF5 hM6 (H.has _ (E3 (i:=0) rfl)) (Am hfo7 zO)) ?_);rintro _ w ⟨a8,k9,R10,hth11,rfl,Hc⟩
 replace H:=H.callP (L1:=[.obj b1 (B7 kA M2 c3)]) (Lr:=[]) (LL:=[.obj b1 (B7 kA M2 c3)]) (.refl _) rfl Hc (.refl _)
 clear Hc
 replace H:Hp _ w _ ([_,.own a8 R10.length k9 ((R10).flatMap C2) 36 32]):=H
 refine aZ ?_;refine eN ?_
 refine o8 ?_
 refine w9 (v:=.slice (hd a8) R10.length k9) Tryz.results130 rfl ?_
 refine⟨_,rfl,?_⟩
 exact⟨_,_,_,An hth11 hfo7,rfl,H.sub (.cons _ (.cons_cons _ (P4 _)))⟩
theorem Aq{α:Type}{enc:α->List Value}{G:Nat->Nat->Ow}{b z:Nat}:∀(ys:List α) (o:Nat),(∀(i:Nat) y,ys[i]? =some y->(enc y).length=z/\FzAt G b (o+i*z) (enc y))->FzAt G b o (ys.flatMap enc)
|[],_,_=>fun k x h=>by simp at h
|y::ys,o,h=>fun k x hk=>by
  obtain⟨h1,h2⟩:=h 0 y rfl
  rw[iG]at hk
  by_cases hz:k<z
  ·rw[N5 zO]at hk
   have:=h2 k x hk
   rwa [Nat.zero_mul,t8]at this
  rw[L7 zO,h1]at hk
  have:=Aq ys (o+z) (fun i y' hy=>by
   obtain⟨h3,h4⟩:=h (i+1) y' hy
   exact⟨h3,by rw[G7,Nat.add_comm (i*z) z, <-O7]at h4;exact h4⟩) (k-z) x hk
  rwa [show o+z+(k-z)=o+k by omega]at this
theorem OO{α:Type}{enc:α->List Value}{hh:Nat->Nat->V}{t z n:Nat}{g:Nat->V}{Q:Nat->α->Prop}(H:Wd X0 X hh lv c w0 w)(hv:repv X lv' c' (.sl t z n g) x)(hd:∀i,i<n->∀es,rep X (g i) [] 2 es->es.length=z->∃y,enc y=es/\Q i y):
  ∃L:Gl α,x=L.v/\L.ok enc z w/\L.len=n/\(∀i,i<n->∃y,L.l[i]? =some y/\Q i y)/\(0<n->∃b o,L.a=some ⟨b,o,none⟩/\FzAt X.G b o (L.l.flatMap enc)/\(∀v∈L.l.flatMap enc,v.oneCell'=true)):=by
 obtain⟨hz,a,cap,e1,e2,e3,e4,e5,e6⟩:=hv
 have e1:x=.slice a n cap:=by simpa using e1
 by_cases hn:n=0
 ·subst hn
  exact⟨⟨a,0,cap,[]⟩,e1,⟨.inl rfl,rfl,e2,e3,fun c h=>by cases h⟩,rfl,fun i h=>absurd h zO,fun h=>absurd h zO⟩
 rcases e6 with⟨_,h2⟩|⟨b,o,rfl,hw,_⟩
 ·omega
 have build:∀m,m<=n->∃ys:List α,ys.length=m/\∀(i:Nat) y,ys[i]? =some y->Q i y/\(enc y).length=z/\(∀v∈enc y,v.oneCell'=true)/\FzAt X.G b (o+i*z) (enc y):=by
  intro m
  induction m with
 |zero=>intro _;exact⟨[],rfl,fun i p hp=>by simp at hp⟩
 |succ m ih=>
   intro hm
   obtain⟨ys,p1,p2⟩:=ih zO
   obtain⟨es,r1,r2,r3,r4⟩:=hw m zO
   obtain⟨y,rfl,hq⟩:=hd m zO es r1 r2
   refine⟨ys++[y],by simp[p1],fun i y' hp=>?_⟩
   by_cases hi:i<m
   ·rw[N5 zO]at hp;exact p2 i y' hp
   have:i=m:=by have:=(N1.1 hp).1;simp[p1]at this;omega
   subst this
   rw[L7 zO,p1,bP]at hp
   cases hp;exact⟨hq,r2,r8 r3 r1,r4⟩
 obtain⟨ys,p1,p2⟩:=build n (B2 _)
 have lN:∀y∈ys,∃i:Nat,ys[i]? =some y:=fun y hy=>CZ hy
 have dK:∀v∈ys.flatMap enc,v.oneCell'=true:=fun v hv=>by
  obtain⟨y,hy,h2⟩:=List.mem_flatMap.1 hv
  obtain⟨i,hi⟩:=lN y hy
  exact(p2 i y hi).2.2.1 v h2
 have W5:=Aq (G:=X.G) (b:=b) (z:=z) ys o fun i y hy=>⟨(p2 i y hy).2.1,(p2 i y hy).2.2.2⟩
 refine⟨⟨some ⟨b,o,none⟩,n,cap,ys⟩,e1,⟨H.rd dK W5,p1,e2,e3,fun y hy=>?_⟩,rfl,fun i hi=>?_,fun _=>⟨b,o,rfl,W5,dK⟩⟩
 ·obtain⟨i,hi⟩:=lN y hy
  exact(p2 i y hi).2.1
 have G9:ys[i]? =some ys[i]:=B6 zO
 exact⟨_,G9,(p2 i _ G9).1⟩
theorem Ar{m:MemPlace->Prop}(h:w.keptBut w' m)(h1:∀b i,¬ m (.cell b i))(h2:∀b,¬ m (.map b))(b:Nat)(hb:b<w.heap.size):w'.heap[b]? =w.heap[b]? :=by
 have:=h.2.2 b hb
 cases e:w.heap[b]? with
|none=>rw[e]at this;cases e':w'.heap[b]? <;>rw[e']at this<;>simp at this ⊢
|some O=>
  rw[e]at this
  cases e':w'.heap[b]? with
 |none=>rw[e']at this;cases O<;>simp at this
 |some O'=>
   rw[e']at this
   cases O<;>cases O'<;>simp only at this<;>try (exact this)
   ·obtain⟨q1,q2,q3,q4⟩:=this
    subst q1 q2
    congr 2
    exact JJ fun j=>q4 j (h1 b j)
   rcases this with q|⟨q1,q2⟩
   ·exact absurd q (h2 b)
   subst q1 q2;rfl
def Cx.only(X:Cx)(ν:Nat):Cx:=⟨fun b i=>match X.G b i with|.fz x=>.fz x|_=>.no,fun _ _=>none,fun _ _ _=>True,0,ν,false⟩
theorem uS{ν b:Nat} :(X.only ν).G b i=.fz x↔X.G b i=.fz x:=by
 show(match X.G b i with|.fz x=>Ow.fz x|_=>.no)=.fz x↔_
 cases X.G b i<;>simp
theorem zC{ν b:Nat}(h:(X.only ν).G b i≠ .no):∃x,X.G b i=.fz x:=by
 cases e:X.G b i with
|fz x=>exact⟨x,rfl⟩
|_=>exact absurd (show(match X.G b i with|.fz x=>Ow.fz x|_=>.no)=.no by rw[e]) h
theorem Ws{hh:Nat->Nat->V}(H:Wd X0 X hh lv c w0 w0)(hs:w0.heap.size<=w.heap.size)(hf:∀b,b<w0.heap.size->w.heap[b]? =w0.heap[b]?):Wd (X.only w.heap.size) (X.only w.heap.size) h0 [] 16 w w:=by
 have fz:∀b i x,(X.only w.heap.size).G b i=.fz x->FzOk (X.only w.heap.size) w b i x:=fun b i x h=>by
  have h:=uS.1 h
  have hb:=H.ex b i (by rw[h];simp)
  exact(H.fz b i x h).move (fun _ _ _ h=>uS.2 h) (by unfold World.cell?; rw[hf b hb]) (fun _ _ hm=>by rw[hf b hb];exact hm)
 exact { kb:=zS w _,tape:=rfl,fz0:=fun _ _ _ h=>h,no0:=fun _ _ _ h=>.inl h,mp0:=fun _ _ _ h=>h,ρ0:=fun _ _ _ h=>h
         ex:=fun b i h=>by obtain⟨x,hx⟩:=zC h;exact X7 (H.ex b i (by rw[hx];simp)) hs
         fz:=fz
         tp:=fun b i t h=>by obtain⟨x,hx⟩:=zC (by rw[h];simp);rw[uS.2 hx]at h;cases h
         rt:=fun _ _ _ _ _ h=>(by cases h)
         c2:=by omega,lvc:=fun _ h=>(by cases h),ρc:=fun _ _ _ h=>(by cases h),inv:=trivial,imo:=fun _ _ _ _ _ _ _ h=>h,κc:=L8 _,νe:=rfl,we:=rfl
         gz:=fun q hq=>by
          obtain⟨h1,C,T,fr,h2,h3⟩:=H.gz1 (X':=X.only w.heap.size) (fun _ _ _ h=>uS.2 h) q hq
          exact⟨h1,C,T,fr,by rw[hf q (Z4.1 h2).1];exact h2,h3⟩
         ν0:=B2 _,νs:=B2 _
         nf:=fun b hb ⟨i,hi⟩=>by
          obtain⟨x,hx⟩:=zC hi
          have h1:=H.ex b i (by rw[hx];simp)
          have:w.heap.size<=b:=hb
          omega}
theorem Wt{x:Itm}(h:rep X (I4 x) [] 2 es):∃y:It,nG y=es/\True:=by
 obtain⟨a3,d3,r3,⟨a2,d2,r2,⟨a1,d1,r1,⟨a0,d0,r0,hz,q0⟩,q1⟩,q2⟩,q3⟩:=h
 have hz:a0=[]:=hz
 have q0:d0=[.string ⟨x.name.toArray⟩]:=q0.1
 have q1:d1=[.int .i64 x.kind]:=q1.1
 have q2:x.of.length=32/\d2=x.of.map E9:=q2
 have q3:d3=[.int .i64 x.size]:=q3.1
 refine⟨⟨x.name,x.kind,⟨x.of,q2.1⟩,x.size⟩,?_,zT⟩
 have q2':=q2.2
 subst r3 r2 r1 r0 hz q0 q1 q2' q3
 simp[nG]
theorem Wu{hh:Nat->Nat->V}{d:By}{v:Value}(H:Wd X0 X hh lv c w0 w0)(hv:repv X [] 2 (.bl q d) v)(Hk:Hp w0 w [] L):Ret Tryz.prog 185 [v] w (II w0 w):=by
 have hf:∀b,b<w0.heap.size->w.heap[b]? =w0.heap[b]? :=fun b hb=>Hk.frame b hb (by simp)
 have W:=Ws H Hk.size hf
 have vR:repv (X.only w.heap.size) [] 16 (.bl 0 d) v:=by
  obtain⟨a,cap,h1,h2,h3,h4,h5,h6⟩:=hv
  exact⟨a,cap,h1,h2,h3,zO,fun e=>by omega,h6.imp (fun⟨_,q⟩=>⟨.inr rfl,q⟩) fun⟨b,o,q1,q2,_⟩=>⟨b,o,q1,fun k x hk=>uS.2 (q2 k x hk),fun ht=>by simp at ht⟩⟩
 refine(YS d (X.only w.heap.size) w [v] rfl (fun i u x h1 h2=>?_) ⟨fun _ _=>rfl,rfl,fun _ _ _ _=>trivial⟩ W (fun h=>by cases h)).mono fun x w' ⟨X',ho,A0,out,⟨_,l,e,eo,_,hl,_⟩,hr,W'⟩=>?_
 ·match i,h1,h2 with
 |0,h1,h2=>cases h1;cases h2;exact vR
 subst eo
 obtain⟨C,rfl,hC,hc⟩:=hr
 obtain⟨y0,y1,y2⟩:=hc 0 (by show 0<2;omega)
 obtain⟨z0,z1,z2⟩:=hc 1 (by show 1<2;omega)
 have hz:z0=.int .i64 e:=(M0 z2).1
 obtain⟨I,i1,i2,i3,_,i5⟩:=OO (enc:=nG) (Q:=fun _ _=>True) W' y2 fun i hi es iP _=>Wt iP
 have hCe:C= #[I.v,VI e]:=by
  have h2:C.toList.length=2:=hC
  apply U2
  match h:C.toList,h2 with
 |[p,q],_=>
   have e0:C.toList[0]? =some y0:=by rw[vE];exact y1
   have e1:C.toList[1]? =some z0:=by rw[vE];exact z1
   rw[h]at e0 e1
   simp only[PK,DC,F2]at e0 e1
   rw[e0,e1,i1,hz]
 have nm:∀b i,¬ EW (X.only w.heap.size) (.cell b i):=fun b i h=>by
  rcases h with⟨r,j,k,h⟩|⟨t,h⟩
  ·obtain⟨x,hx⟩:=zC (by rw[h];simp);rw[uS.2 hx]at h;cases h
  obtain⟨x,hx⟩:=zC (by rw[h];simp);rw[uS.2 hx]at h;cases h
 have bU:∀b,b<w.heap.size->w'.heap[b]? =w.heap[b]? :=Ar W'.kb nm fun b h=>by cases h.1
 have G3:w.heap.size<=w'.heap.size:=W'.νs
 have P2:Hp w w' [] []:=⟨W'.kb.1,W'.tape,W'.kb.2.1,G3,fun b hb _=>bU b hb,(by simp),(by simp),.nil⟩
 by_cases hn:l.length=0
 ·refine⟨I,e,[],by rw[hCe],i2.ln,zO,fun w2 L2 _ _=>?_,P2⟩
  have:I.l=[]:=l4.1 (by rw[i2.ln,i3];exact hn)
  exact⟨.inl (by rw[this];rfl),i2.ln,i2.le,i2.mx,i2.sz⟩
 obtain⟨b,o,ia,W5,dK⟩:=i5 zO
 have hpos:0<(I.l.flatMap nG).length:=by
  rw[yR i2.sz,i2.ln,i3];omega
 have h0:=W5 0 _ (B6 hpos)
 have kD:=W'.ex b _ (by rw[h0];simp)
 obtain⟨O,hO⟩:∃O,w'.heap[b]? =some O:=⟨_,zR kD⟩
 have stay:∀w2:World,w2.heap[b]? =some O->I.ok nG 35 w2:=fun w2 h2=>⟨by
  rcases i2.rd with h|⟨b',o',C',T',bR,h3,h4,h5⟩
  ·exact .inl h
  rw[ia]at h3
  cases h3
  exact .inr ⟨b,o,C',T',bR,ia,by rw[h2, <-hO];exact h4,h5⟩,i2.ln,i2.le,i2.mx,i2.sz⟩
 by_cases hb:b<w.heap.size
 ·have T4:b<w0.heap.size:=by
   have D5:(X.only w.heap.size).G b (o+0)≠ .no:=fun bV=>by
    rcases W'.no0 b _ hb bV with h|⟨t,h⟩
    ·rw[h]at h0;cases h0
    rw[h]at h0
    have:N9 t=(I.l.flatMap nG)[0]:=by injection h0
    exact pF (t:=t) (by rw[this];exact dK _ (eG _))
   obtain⟨x,hx⟩:=zC D5
   exact H.ex b _ (by rw[hx];simp)
  refine⟨I,e,[],by rw[hCe],i2.ln,zO,fun w2 L2 H2 _=>stay w2 ?_,P2⟩
  rw[H2.frame b T4 (by simp), <-hf b T4, <-bU b hb,hO]
 refine⟨I,e,[.obj b O],by rw[hCe],i2.ln,zO,fun w2 L2 H2 hs=>stay w2 (H2.has _ (hs.subset (O8.2 rfl))),⟨P2.os,P2.tape,P2.output,G3,P2.frame,fun c hc=>?_,fun c hc b' hk=>?_,List.pairwise_singleton _ _⟩⟩
 ·rw[O8.1 hc];exact hO
 rw[O8.1 hc]at hk
 have:b=b':=by simpa [Ch.key] using hk
 exact .inr zO
theorem Wv{x:Obj}(h:rep X (C3 x) [] 2 es):∃y:Ob,uQ y=es/\(y.of.1=x.of/\y.data.l=x.data/\repv X [] 2 (.bl 0 x.data) y.data.v/\y.data.len=x.data.length):=by
 obtain⟨a1,d1,r1,⟨a0,d0,r0,hz,q0⟩,q1⟩:=h
 have hz:a0=[]:=hz
 have q0:x.of.length=32/\d0=x.of.map E9:=q0
 have q1:rep X (.bl 0 x.data) [] 2 d1:=q1
 obtain⟨a,cap,e1,h2⟩:=q1
 have q0':=q0.2
 subst r1 r0 hz q0' e1
 exact⟨⟨⟨x.of,q0.1⟩,⟨a,x.data.length,cap,x.data⟩⟩,by simp[uQ,Sl.v],rfl,rfl,⟨a,cap,rfl,h2⟩,rfl⟩
theorem Ww{x:By}(h:rep X (eI x) [] 2 es):∃y:A6,C2 y=es/\True:=⟨⟨x,h.1⟩,h.2.symm,zT⟩
theorem IL{f:FuncId}(hf:∀(w0:World) (g:Gl Ob),g.ok uQ 33 w0->(∀o∈g.l,o.data.ok w0/\o.data.len<=1048576)->g.len<=65536->∀(r:Gl A6),r.ok C2 32 w0->r.len<=65536->HT g.l w0->
   Ret Tryz.prog f [g.v,r.v] w0 fun v w'=>∃a k R,(RisA R/\∀k∈R,(Z3 g.l k).isSome=true)/\v=.slice (hd a) R.length k/\Hp w0 w' [] [.own a R.length k (R.flatMap C2) 36 32])
  (n m:Nat)(g:Nat->Obj)(h:Nat->By)(hn:n<=65536)(hm:m<=65536)(hd:∀i,i<n->(g i).data.length<=100000):Sat Tryz.prog f [.sl 0 33 n fun i=>C3 (g i),.sl 0 32 m fun i=>eI (h i)] [] (fun out A0=>∃l:List By,out=B3 2 32 eI l/\A0=[2]/\l.length<=n/\∀x∈l,x∈(List.range n).map fun i=>(g i).of):=fun X w vs D7 aS hX H _=>by
 match vs,D7 with
|[x0,x1],_=>
 obtain⟨G,g1,g2,g3,g4,_⟩:=OO (enc:=uQ) H (aS 0 _ _ rfl rfl) fun i hi es iP _=>Wv iP
 obtain⟨R,r1,r2,r3,_⟩:=OO (enc:=C2) (Q:=fun _ _=>True) H (aS 1 _ _ rfl rfl) fun i hi es iP _=>Ww iP
 subst g1 r1
 have lN:∀o∈G.l,∃i,i<n/\(o.of.1=(g i).of/\o.data.l=(g i).data/\repv X [] 2 (.bl 0 (g i).data) o.data.v/\o.data.len=(g i).data.length):=fun o ho=>by
  obtain⟨i,hi⟩:=CZ ho
  have W3:i<n:=by have:=(N1.1 hi).1;rw[g2.ln,g3]at this;exact this
  obtain⟨y,h1,h2⟩:=g4 i W3
  rw[hi]at h1;cases h1;exact⟨i,W3,h2⟩
 refine(hf w G g2 (fun o ho=>?_) zO R r2 zO fun o ho w2 L Hk=>?_).mono fun v w' ⟨a,k,Q,⟨q1,q2⟩,q3,Hk⟩=>?_
 ·obtain⟨i,hi,e1,e2,e3,e4⟩:=lN o ho
  have hl:=hd i hi
  refine⟨?_,zO⟩
  obtain⟨a,cap,f1,f2,f3,f4⟩:=yG (lv:=[]) H (repv.mono (v:=.bl 0 (g i).data) (c:=2) (c':=16) (Cx.le.rfl' X [] 2) zO e3)
  have f1:Value.slice o.data.a o.data.len o.data.cap=.slice a (g i).data.length cap:=f1
  simp only[Value.slice.injEq]at f1
  obtain⟨k1,k2,k3⟩:=f1
  exact⟨by rw[e2,k1];exact f4,by rw[e2,e4],zO,by rw[e4];omega⟩
 ·obtain⟨i,hi,e1,e2,e3,e4⟩:=lN o ho
  exact Wu H e3 Hk
 obtain⟨X',w1,w2⟩:=Ah (nm:=2) H Hk (fun s hs=>by cases hs) (by rw[hX.κ];omega) zO
 subst q3
 have B1:=BY (m:=G.l.map (·.of)) q1.nd fun x hx=>by
  obtain⟨s,hs⟩:=iF.1 (q2 x hx)
  obtain⟨o,ho,e,_⟩:=yX hs
  exact J6.2 ⟨o,ho,e⟩
 rw[J7,g2.ln,g3]at B1
 exact⟨X',[],[2],_,⟨rfl,Q.map (·.1),rfl,rfl,by rw[J7];exact B1,fun x hx=>by
  obtain⟨y,hy,rfl⟩:=J6.1 hx
  obtain⟨s,hs⟩:=iF.1 (q2 y hy)
  obtain⟨o,ho,e,_⟩:=yX hs
  obtain⟨i,hi,e1,_⟩:=lN o ho
  exact J6.2 ⟨i,qQ.2 hi,by rw[<-e1,e]⟩⟩,w1,by
  have e:S6 ([]:List (Nat×V))=h0:=by funext r j;cases j<;>rfl
  rw[e];exact w2⟩
theorem Wx:type_of% (IL Ao):=IL Ao
theorem Wy:type_of% (IL Ap):=IL Ap
theorem Wz(n:Nat)(g:Nat->TenR)(hn:n<=1000000):SatM Tryz.prog false 53 [.sl 0 38 n fun i=>B4 (g i)] [] (fun out ho A0=>out=.os 16 38/\ho=[(16,.ar 38 n fun i=>B4 (g i))]/\A0=[16]):=by
 refine fM false Tryz.func53 fun X0 w0 hX hm=>?_
 refine mM fO true ?_;refine c0 (n) (fun h1=>?_) ?_
 ·subst h1
  exact yA (fn:=Tryz.f53) hX 38 (fun _=>.un) (fun i=>B4 (g i)) zK (⟨rfl,rfl,rfl⟩)
 refine cC (n*136<=140737488355328) ?_
 exact xW hX (.os 16 38) ⟨rfl,rfl,rfl⟩
theorem OP(n:Nat)(g:Nat->Obj)(hn:n<=1000000):SatM Tryz.prog false 56 [.sl 0 33 n fun i=>C3 (g i)] [] (fun out ho A0=>out=.os 16 33/\ho=[(16,.ar 33 n fun i=>C3 (g i))]/\A0=[16]):=by
 refine fM false Tryz.func56 fun X0 w0 hX hm=>?_
 refine mM fO true ?_;refine c0 (n) (fun h1=>?_) ?_
 ·subst h1
  exact yA (fn:=Tryz.f56) hX 33 (fun _=>.un) (fun i=>C3 (g i)) zK (⟨rfl,rfl,rfl⟩)
 refine cC (n*56<=140737488355328) ?_
 exact xW hX (.os 16 33) ⟨rfl,rfl,rfl⟩
theorem OQ(n:Nat)(g:Nat->Snp)(hn:n<=1000000):SatM Tryz.prog false 57 [.sl 0 36 n fun i=>C9 (g i)] [] (fun out ho A0=>out=.os 16 36/\ho=[(16,.ar 36 n fun i=>C9 (g i))]/\A0=[16]):=by
 refine fM false Tryz.func57 fun X0 w0 hX hm=>?_
 refine mM fO true ?_;refine c0 (n) (fun h1=>?_) ?_
 ·subst h1
  exact yA (fn:=Tryz.f57) hX 36 (fun _=>.un) (fun i=>C9 (g i)) zK (⟨rfl,rfl,rfl⟩)
 refine cC (n*72<=140737488355328) ?_
 exact xW hX (.os 16 36) ⟨rfl,rfl,rfl⟩
theorem IM(n:Nat)(g:Nat->Doo)(hn:n<=1000000):SatM Tryz.prog false 58 [.sl 0 33 n fun i=>E0 (g i)] [] (fun out ho A0=>out=.os 16 33/\ho=[(16,.ar 33 n fun i=>E0 (g i))]/\A0=[16]):=by
 refine fM false Tryz.func58 fun X0 w0 hX hm=>?_
 refine mM fO true ?_;refine c0 (n) (fun h1=>?_) ?_
 ·subst h1
  exact yA (fn:=Tryz.f58) hX 33 (fun _=>.un) (fun i=>E0 (g i)) zK (⟨rfl,rfl,rfl⟩)
 refine cC (n*40<=140737488355328) ?_
 exact xW hX (.os 16 33) ⟨rfl,rfl,rfl⟩
theorem Xa(n:Nat)(g:Nat->Ent)(hn:n<=1000000):SatM Tryz.prog false 55 [.sl 0 38 n fun i=>H8 (g i)] [] (fun out ho A0=>out=.os 16 38/\ho=[(16,.ar 38 n fun i=>H8 (g i))]/\A0=[16]):=by
 refine fM false Tryz.func55 fun X0 w0 hX hm=>?_
 refine mM fO true ?_;refine c0 (n) (fun h1=>?_) ?_
 ·subst h1
  exact yA (fn:=Tryz.f55) hX 38 (fun _=>.un) (fun i=>H8 (g i)) zK (⟨rfl,rfl,rfl⟩)
 refine cC (n*88<=140737488355328) ?_
 exact xW hX (.os 16 38) ⟨rfl,rfl,rfl⟩
theorem Xb(n:Nat)(g:Nat->Int)(hn:n<=1000000):SatM Tryz.prog false 54 [.sl 0 1 n fun i=>.i .u64 (g i)] [] (fun out ho A0=>out=.os 16 1/\ho=[(16,.ar 1 n fun i=>eU (g i))]/\A0=[16]):=by
 refine fM false Tryz.func54 fun X0 w0 hX hm=>?_
 refine mM fO true ?_;refine c0 (n) (fun h1=>?_) ?_
 ·subst h1
  exact yA (fn:=Tryz.f54) hX 1 (fun _=>.un) (fun i=>.i .u64 (g i)) zK (⟨rfl,rfl,rfl⟩)
 refine cC (n*8<=140737488355328) ?_
 exact xW hX (.os 16 1) ⟨rfl,rfl,rfl⟩
theorem bc{p:Prop}(h:p:=by first|omega|(simp only;omega)):p:=h
structure StB (s:StaR) (n:Nat) (tg:Nat->TenR):Prop where
 hn:n<=1000
 hr:s.nr<=100000
 hl:s.nl<=100000
 hb:∀i,i<n->(tg i).nb<=65536/\(tg i).ns<=65536/\(tg i).nd<=65536
 hd:∀i,i<n->∀j,j<(tg i).nb->((tg i).gb j).data.length<=100000
def Xc(a:Nat)(t:TenR):V:=A1 [.s t.name,.bs 32 t.key,.i .i64 t.quota,.i .i64 t.next,.os a 33,.os (a+1) 36,.os (a+2) 33]
def zD(a:Nat)(s:StaR):V:=A1 [.bs 32 s.root,.i .i64 s.delay,.i .u64 s.serial,.os a 38,.os (a+1) 1,.os (a+2) 38,.bs 32 s.head]
def Xd(a:Nat)(t:TenR):List (Nat×V):=[(a,.ar 33 t.nb fun i=>C3 (t.gb i)),(a+1,.ar 36 t.ns fun i=>C9 (t.gs i)),(a+2,.ar 33 t.nd fun i=>E0 (t.gd i))]
def zF(a:Nat)(T:V)(s:StaR):List (Nat×V):=[(a,T),(a+1,.ar 1 s.nr fun i=>eU (s.gr i)),(a+2,.ar 38 s.nl fun i=>H8 (s.gl i))]
def Xe(n:Nat)(tg:Nat->TenR)(i0 a:Nat):V:=.fo 38 (.ar 38 n fun i=>B4 (tg i)) i0 (Xc a (tg i0))
theorem As(s:StaR)(n:Nat)(tg:Nat->TenR)(i0:Nat)(hB:StB s n tg):SatM Tryz.prog false 26 [I9 (.sl 0 38 n fun i=>B4 (tg i)) s] [] (fun out ho A0=>(i0<n/\out=zD 16 s/\ho=zF 16 (Xe n tg i0 20) s++Xd 20 (tg i0)/\A0=[16,17,18,20,21,22])\/(n<=i0/\out=zD 16 s/\ho=zF 16 (.ar 38 n fun i=>B4 (tg i)) s/\A0=[16,17,18])):=by
 refine fM false Tryz.func26 fun X0 w0 hX hm=>?_
 have hn:=hB.hn
 have hr:=hB.hr
 have hl:=hB.hl
 refine mM fO true ?_;refine kO [] (Wz n (fun i=>(tg i)) (bc)) ?_;rintro out ho A0 ⟨rfl,rfl,rfl⟩
 refine kO [] (Xb s.nr (fun i=>(s.gr i)) (bc)) ?_;rintro out ho A0 ⟨rfl,rfl,rfl⟩
 refine kO [] (Xa s.nl (fun i=>(s.gl i)) (bc)) ?_;rintro out ho A0 ⟨rfl,rfl,rfl⟩
 refine Pt hX (fun(k:Nat)=>[(1,.pr 16 0 []),(2,.pr 80 0 []),(20,.i .i64 (n:Int)),(21,.i .i64 (k:Int)),(1000003,A2 [])]) (fun(k:Nat)=>[(16,A1 [.bs 32 s.root,.i .i64 s.delay,.i .u64 s.serial,.os 544 38,.os 672 1,.os 736 38,.bs 32 s.head]),(544,.ar 38 n fun i=>B4 (tg i)),(672,.ar 1 s.nr fun i=>.i .u64 (s.gr i)),(736,.ar 38 s.nl fun i=>H8 (s.gl i)),(80,A1 [.bs 32 (replicate 32 0),.i .i64 0,.i .u64 0,.sl 1 38 0 fun _=>.un,.sl 1 1 0 fun _=>.un,.sl 1 38 0 fun _=>.un,.bs 32 (replicate 32 0)])]) (fun(k:Nat)=>[(1,.pr 16 0 []),(2,.pr 80 0 []),(20,.i .i64 (n:Int)),(21,.i .i64 (k:Int)),(1000003,A2 [])]) (fun(k:Nat)=>[(16,A1 [.bs 32 s.root,.i .i64 s.delay,.i .u64 s.serial,.os 544 38,.os 672 1,.os 736 38,.bs 32 s.head]),(544,.fo 38 (.ar 38 n fun i=>B4 (tg i)) i0 (A1 [.s ((tg i0).name),.bs 32 ((tg i0).key),.i .i64 ((tg i0).quota),.i .i64 ((tg i0).next),.os 20 33,.os 21 36,.os 22 33])),(20,.ar 33 ((tg i0).nb) fun i=>C3 ((tg i0).gb i)),(21,.ar 36 ((tg i0).ns) fun i=>C9 ((tg i0).gs i)),(22,.ar 33 ((tg i0).nd) fun i=>E0 ((tg i0).gd i)),(672,.ar 1 s.nr fun i=>.i .u64 (s.gr i)),(736,.ar 38 s.nl fun i=>H8 (s.gl i)),(80,A1 [.bs 32 (replicate 32 0),.i .i64 0,.i .u64 0,.sl 1 38 0 fun _=>.un,.sl 1 1 0 fun _=>.un,.sl 1 38 0 fun _=>.un,.bs 32 (replicate 32 0)])]) (fun(p:Bool×Nat)=>(bif p.1 then i0<p.2 else p.2<=i0)/\p.2<=n) (fun(k:Nat)=>n-k) [(544,544),(672,672),(736,736)] [544,672,736] [20,21,22,544,672,736] 1360 0 (by dsimp only[cond_false];omega) ⟨v0,v0,v0,v0,v0,zT⟩ ⟨v0,v0,v0,v0,v0,zT⟩ ?_ ?_
 ·rintro k hI R hR hR2
  dsimp only[cond_false,cond_true]at hI
  by_cases he:k=i0
  ·refine cB ((k:Int)<(n:Int)) ?_ ?_<;>intro h1
   ·have hb:=hB.hb k zO
    have hd:=hB.hd k zO
    refine gR 544 (.ar 38 n fun i=>B4 (tg i)) (.fo 38 (.ar 38 n fun i=>B4 (tg i)) k (B4 (tg k))) (aG zO rfl) ?_;refine cC ((0:Int)<=(k:Int)/\(k:Int)<(n:Int)) ?_;refine cC (k=k) ?_;refine cC (k=k) ?_;refine cC (k=k) ?_;refine kO [] (OP ((tg k).nb) (fun i=>((tg k).gb i)) (bc)) ?_;rintro out ho A0 ⟨rfl,rfl,rfl⟩
    refine kO [] (OQ ((tg k).ns) (fun i=>((tg k).gs i)) (bc)) ?_;rintro out ho A0 ⟨rfl,rfl,rfl⟩
    refine kO [] (IM ((tg k).nd) (fun i=>((tg k).gd i)) (bc)) ?_;rintro out ho A0 ⟨rfl,rfl,rfl⟩
    refine cC (k=k) ?_;refine cC (k=k) ?_;refine cC (k=k) ?_;refine cC (k=k) ?_;refine cM hX (fun(j:Nat)=>[(1,.pr 16 0 []),(2,.pr 80 0 []),(4,.pr 544 0 [.e k 38 n]),(20,.i .i64 (n:Int)),(21,.i .i64 (k:Int)),(56,.i .i64 ((tg k).nb:Int)),(57,.i .i64 (j:Int)),(1000003,A2 [])]) (fun(j:Nat)=>[(16,A1 [.bs 32 s.root,.i .i64 s.delay,.i .u64 s.serial,.os 544 38,.os 672 1,.os 736 38,.bs 32 s.head]),(672,.ar 1 s.nr fun i=>.i .u64 (s.gr i)),(736,.ar 38 s.nl fun i=>H8 (s.gl i)),(80,A1 [.bs 32 (replicate 32 0),.i .i64 0,.i .u64 0,.sl 1 38 0 fun _=>.un,.sl 1 1 0 fun _=>.un,.sl 1 38 0 fun _=>.un,.bs 32 (replicate 32 0)]),(544,.fo 38 (.ar 38 n fun i=>B4 (tg i)) k (A1 [.s ((tg k).name),.bs 32 ((tg k).key),.i .i64 ((tg k).quota),.i .i64 ((tg k).next),.os 2848 33,.os 2912 36,.os 2976 33])),(2848,.ar 33 ((tg k).nb) fun i=>C3 ((tg k).gb i)),(2912,.ar 36 ((tg k).ns) fun i=>C9 ((tg k).gs i)),(2976,.ar 33 ((tg k).nd) fun i=>E0 ((tg k).gd i))]) (fun(j:Nat)=>j<=(tg k).nb) (fun(j:Nat)=>(tg k).nb-j) [544,672,736,2848,2912,2976] 3984 0 zO ?_;rintro j hJ R1 eP
    refine cB ((j:Int)<((tg k).nb:Int)) ?_ ?_<;>intro h2
    ·have hdj:=hd j zO
     refine gR 2848 (.ar 33 ((tg k).nb) fun i=>C3 ((tg k).gb i)) (.fo 33 (.ar 33 ((tg k).nb) fun i=>C3 ((tg k).gb i)) j (C3 ((tg k).gb j))) (aG zO rfl) ?_;refine cC (k=k) ?_;refine cC (k=k) ?_;refine cC ((0:Int)<=(j:Int)/\(j:Int)<((tg k).nb:Int)) ?_;refine cC (j=j) ?_;refine cK [] (uI (((tg k).gb j).data) bd) ?_;rintro out A0 ⟨rfl,rfl⟩
     refine cC ((0:Int)<=(j:Int)/\(j:Int)<((tg k).nb:Int)) ?_;refine cC (j=j) ?_;refine gR 2848 (.fo 33 (.ar 33 ((tg k).nb) fun i=>C3 ((tg k).gb i)) j (A1 [.bs 32 (((tg k).gb j).of),.bl 5010 (((tg k).gb j).data)])) (.ar 33 ((tg k).nb) fun i=>C3 ((tg k).gb i)) (fJ rfl rfl rfl) ?_;exact cA hX (eP (j+1) zO zO) (hS:=⟨v0,v0,v0,v0,v0,v0,(vS bd),v0,zT⟩)
    exact cA hX (hR2 (k+1) (by dsimp only[cond_false,cond_true];omega) zO) (hS:=⟨v0,v0,v0,(vS bd),v0,zT⟩) (hH:=⟨v0,(vT (u:=.fo 38 (.ar 38 n fun i=>B4 (tg i)) k (A1 [.s ((tg k).name),.bs 32 ((tg k).key),.i .i64 ((tg k).quota),.i .i64 ((tg k).next),.os 20 33,.os 21 36,.os 22 33])) (.of_eq (by rw[he]))),(vT (u:=.ar 33 ((tg k).nb) fun i=>C3 ((tg k).gb i)) (.of_eq (by rw[he]))),(vT (u:=.ar 36 ((tg k).ns) fun i=>C9 ((tg k).gs i)) (.of_eq (by rw[he]))),(vT (u:=.ar 33 ((tg k).nd) fun i=>E0 ((tg k).gd i)) (.of_eq (by rw[he]))),v0,v0,v0,zT⟩)
   exact xW hX (A1 [.bs 32 s.root,.i .i64 s.delay,.i .u64 s.serial,.os 16 38,.os 17 1,.os 18 38,.bs 32 s.head]) (.inr ⟨zO,rfl,rfl,rfl⟩)
  refine cB ((k:Int)<(n:Int)) ?_ ?_<;>intro h3
  ·have hb:=hB.hb k zO
   have hd:=hB.hd k zO
   refine gR 544 (.ar 38 n fun i=>B4 (tg i)) (.fo 38 (.ar 38 n fun i=>B4 (tg i)) k (B4 (tg k))) (aG zO rfl) ?_;refine cC ((0:Int)<=(k:Int)/\(k:Int)<(n:Int)) ?_;refine cC (k=k) ?_;refine cC (k=k) ?_;refine cC (k=k) ?_;refine kO [] (OP ((tg k).nb) (fun i=>((tg k).gb i)) (bc)) ?_;rintro out ho A0 ⟨rfl,rfl,rfl⟩
   refine kO [] (OQ ((tg k).ns) (fun i=>((tg k).gs i)) (bc)) ?_;rintro out ho A0 ⟨rfl,rfl,rfl⟩
   refine kO [] (IM ((tg k).nd) (fun i=>((tg k).gd i)) (bc)) ?_;rintro out ho A0 ⟨rfl,rfl,rfl⟩
   refine cC (k=k) ?_;refine cC (k=k) ?_;refine cC (k=k) ?_;refine cC (k=k) ?_;refine cM hX (fun(j:Nat)=>[(1,.pr 16 0 []),(2,.pr 80 0 []),(4,.pr 544 0 [.e k 38 n]),(20,.i .i64 (n:Int)),(21,.i .i64 (k:Int)),(56,.i .i64 ((tg k).nb:Int)),(57,.i .i64 (j:Int)),(1000003,A2 [])]) (fun(j:Nat)=>[(16,A1 [.bs 32 s.root,.i .i64 s.delay,.i .u64 s.serial,.os 544 38,.os 672 1,.os 736 38,.bs 32 s.head]),(672,.ar 1 s.nr fun i=>.i .u64 (s.gr i)),(736,.ar 38 s.nl fun i=>H8 (s.gl i)),(80,A1 [.bs 32 (replicate 32 0),.i .i64 0,.i .u64 0,.sl 1 38 0 fun _=>.un,.sl 1 1 0 fun _=>.un,.sl 1 38 0 fun _=>.un,.bs 32 (replicate 32 0)]),(544,.fo 38 (.ar 38 n fun i=>B4 (tg i)) k (A1 [.s ((tg k).name),.bs 32 ((tg k).key),.i .i64 ((tg k).quota),.i .i64 ((tg k).next),.os 2848 33,.os 2912 36,.os 2976 33])),(2848,.ar 33 ((tg k).nb) fun i=>C3 ((tg k).gb i)),(2912,.ar 36 ((tg k).ns) fun i=>C9 ((tg k).gs i)),(2976,.ar 33 ((tg k).nd) fun i=>E0 ((tg k).gd i))]) (fun(j:Nat)=>j<=(tg k).nb) (fun(j:Nat)=>(tg k).nb-j) [544,672,736,2848,2912,2976] 3984 0 zO ?_;rintro j hJ R1 eP
   refine cB ((j:Int)<((tg k).nb:Int)) ?_ ?_<;>intro h4
   ·have hdj:=hd j zO
    refine gR 2848 (.ar 33 ((tg k).nb) fun i=>C3 ((tg k).gb i)) (.fo 33 (.ar 33 ((tg k).nb) fun i=>C3 ((tg k).gb i)) j (C3 ((tg k).gb j))) (aG zO rfl) ?_;refine cC (k=k) ?_;refine cC (k=k) ?_;refine cC ((0:Int)<=(j:Int)/\(j:Int)<((tg k).nb:Int)) ?_;refine cC (j=j) ?_;refine cK [] (uI (((tg k).gb j).data) bd) ?_;rintro out A0 ⟨rfl,rfl⟩
    refine cC ((0:Int)<=(j:Int)/\(j:Int)<((tg k).nb:Int)) ?_;refine cC (j=j) ?_;refine gR 2848 (.fo 33 (.ar 33 ((tg k).nb) fun i=>C3 ((tg k).gb i)) j (A1 [.bs 32 (((tg k).gb j).of),.bl 5010 (((tg k).gb j).data)])) (.ar 33 ((tg k).nb) fun i=>C3 ((tg k).gb i)) (fJ rfl rfl rfl) ?_;exact cA hX (eP (j+1) zO zO) (hS:=⟨v0,v0,v0,v0,v0,v0,(vS bd),v0,zT⟩)
   refine gZ 2848 ?_
   refine gZ 2912 ?_;refine gZ 2976 ?_;refine gR 544 (.fo 38 (.ar 38 n fun i=>B4 (tg i)) k (A1 [.s ((tg k).name),.bs 32 ((tg k).key),.i .i64 ((tg k).quota),.i .i64 ((tg k).next),.sl 2848 33 ((tg k).nb) fun i=>C3 ((tg k).gb i),.sl 2912 36 ((tg k).ns) fun i=>C9 ((tg k).gs i),.sl 2976 33 ((tg k).nd) fun i=>E0 ((tg k).gd i)])) (.ar 38 n fun i=>B4 (tg i)) (fJ rfl rfl rfl) ?_;exact cA hX (hR (k+1) (by dsimp only[cond_false,cond_true];omega) zO) (hS:=⟨v0,v0,v0,(vS bd),v0,zT⟩)
  exact xW hX (A1 [.bs 32 s.root,.i .i64 s.delay,.i .u64 s.serial,.os 16 38,.os 17 1,.os 18 38,.bs 32 s.head]) (.inr ⟨zO,rfl,rfl,rfl⟩)
 rintro k hI R hR2
 dsimp only[cond_false,cond_true]at hI
 refine cB ((k:Int)<(n:Int)) ?_ ?_<;>intro h5
 ·have hb:=hB.hb k zO
  have hd:=hB.hd k zO
  refine gR 544 (.fo 38 (.ar 38 n fun i=>B4 (tg i)) i0 (A1 [.s ((tg i0).name),.bs 32 ((tg i0).key),.i .i64 ((tg i0).quota),.i .i64 ((tg i0).next),.os 20 33,.os 21 36,.os 22 33])) (.fo 38 (.fo 38 (.ar 38 n fun i=>B4 (tg i)) i0 (A1 [.s ((tg i0).name),.bs 32 ((tg i0).key),.i .i64 ((tg i0).quota),.i .i64 ((tg i0).next),.os 20 33,.os 21 36,.os 22 33])) k (B4 (tg k))) (Nx zO zO rfl) ?_;refine cC ((0:Int)<=(k:Int)/\(k:Int)<(n:Int)) ?_;refine cC (k=k) ?_;refine cC (k=k) ?_;refine cC (k=k) ?_;refine kO [] (OP ((tg k).nb) (fun i=>((tg k).gb i)) (bc)) ?_;rintro out ho A0 ⟨rfl,rfl,rfl⟩
  refine kO [] (OQ ((tg k).ns) (fun i=>((tg k).gs i)) (bc)) ?_;rintro out ho A0 ⟨rfl,rfl,rfl⟩
  refine kO [] (IM ((tg k).nd) (fun i=>((tg k).gd i)) (bc)) ?_;rintro out ho A0 ⟨rfl,rfl,rfl⟩
  refine cC (k=k) ?_;refine cC (k=k) ?_;refine cC (k=k) ?_;refine cC (k=k) ?_;refine cM hX (fun(j:Nat)=>[(1,.pr 16 0 []),(2,.pr 80 0 []),(4,.pr 544 0 [.e k 38 n]),(20,.i .i64 (n:Int)),(21,.i .i64 (k:Int)),(56,.i .i64 ((tg k).nb:Int)),(57,.i .i64 (j:Int)),(1000003,A2 [])]) (fun(j:Nat)=>[(16,A1 [.bs 32 s.root,.i .i64 s.delay,.i .u64 s.serial,.os 544 38,.os 672 1,.os 736 38,.bs 32 s.head]),(672,.ar 1 s.nr fun i=>.i .u64 (s.gr i)),(736,.ar 38 s.nl fun i=>H8 (s.gl i)),(80,A1 [.bs 32 (replicate 32 0),.i .i64 0,.i .u64 0,.sl 1 38 0 fun _=>.un,.sl 1 1 0 fun _=>.un,.sl 1 38 0 fun _=>.un,.bs 32 (replicate 32 0)]),(544,.fo 38 (.fo 38 (.ar 38 n fun i=>B4 (tg i)) i0 (A1 [.s ((tg i0).name),.bs 32 ((tg i0).key),.i .i64 ((tg i0).quota),.i .i64 ((tg i0).next),.os 20 33,.os 21 36,.os 22 33])) k (A1 [.s ((tg k).name),.bs 32 ((tg k).key),.i .i64 ((tg k).quota),.i .i64 ((tg k).next),.os 2848 33,.os 2912 36,.os 2976 33])),(20,.ar 33 ((tg i0).nb) fun i=>C3 ((tg i0).gb i)),(21,.ar 36 ((tg i0).ns) fun i=>C9 ((tg i0).gs i)),(22,.ar 33 ((tg i0).nd) fun i=>E0 ((tg i0).gd i)),(2848,.ar 33 ((tg k).nb) fun i=>C3 ((tg k).gb i)),(2912,.ar 36 ((tg k).ns) fun i=>C9 ((tg k).gs i)),(2976,.ar 33 ((tg k).nd) fun i=>E0 ((tg k).gd i))]) (fun(j:Nat)=>j<=(tg k).nb) (fun(j:Nat)=>(tg k).nb-j) [20,21,22,544,672,736,2848,2912,2976] 3984 0 zO ?_;rintro j hJ R1 eP
  refine cB ((j:Int)<((tg k).nb:Int)) ?_ ?_<;>intro h6
  ·have hdj:=hd j zO
   refine gR 2848 (.ar 33 ((tg k).nb) fun i=>C3 ((tg k).gb i)) (.fo 33 (.ar 33 ((tg k).nb) fun i=>C3 ((tg k).gb i)) j (C3 ((tg k).gb j))) (aG zO rfl) ?_;refine cC (k=k) ?_;refine cC (k=k) ?_;refine cC ((0:Int)<=(j:Int)/\(j:Int)<((tg k).nb:Int)) ?_;refine cC (j=j) ?_;refine cK [] (uI (((tg k).gb j).data) bd) ?_;rintro out A0 ⟨rfl,rfl⟩
   refine cC ((0:Int)<=(j:Int)/\(j:Int)<((tg k).nb:Int)) ?_;refine cC (j=j) ?_;refine gR 2848 (.fo 33 (.ar 33 ((tg k).nb) fun i=>C3 ((tg k).gb i)) j (A1 [.bs 32 (((tg k).gb j).of),.bl 5010 (((tg k).gb j).data)])) (.ar 33 ((tg k).nb) fun i=>C3 ((tg k).gb i)) (fJ rfl rfl rfl) ?_;exact cA hX (eP (j+1) zO zO) (hS:=⟨v0,v0,v0,v0,v0,v0,(vS bd),v0,zT⟩)
  refine gZ 2848 ?_
  refine gZ 2912 ?_;refine gZ 2976 ?_;refine gR 544 (.fo 38 (.fo 38 (.ar 38 n fun i=>B4 (tg i)) i0 (A1 [.s ((tg i0).name),.bs 32 ((tg i0).key),.i .i64 ((tg i0).quota),.i .i64 ((tg i0).next),.os 20 33,.os 21 36,.os 22 33])) k (A1 [.s ((tg k).name),.bs 32 ((tg k).key),.i .i64 ((tg k).quota),.i .i64 ((tg k).next),.sl 2848 33 ((tg k).nb) fun i=>C3 ((tg k).gb i),.sl 2912 36 ((tg k).ns) fun i=>C9 ((tg k).gs i),.sl 2976 33 ((tg k).nd) fun i=>E0 ((tg k).gd i)])) (.fo 38 (.ar 38 n fun i=>B4 (tg i)) i0 (A1 [.s ((tg i0).name),.bs 32 ((tg i0).key),.i .i64 ((tg i0).quota),.i .i64 ((tg i0).next),.os 20 33,.os 21 36,.os 22 33])) (Pu zO rfl rfl rfl rfl) ?_;exact cA hX (hR2 (k+1) (by dsimp only[cond_false,cond_true];omega) zO) (hS:=⟨v0,v0,v0,(vS bd),v0,zT⟩)
 exact xW hX (A1 [.bs 32 s.root,.i .i64 s.delay,.i .u64 s.serial,.os 16 38,.os 17 1,.os 18 38,.bs 32 s.head]) (.inl ⟨zO,rfl,rfl,rfl⟩)
def sN(a b c:Nat)(s:StaR):V:=A1 [.bs 32 s.root,.i .i64 s.delay,.i .u64 s.serial,.os a 38,.os b 1,.os c 38,.bs 32 s.head]
def tN(a b c:Nat)(t:TenR):V:=A1 [.s t.name,.bs 32 t.key,.i .i64 t.quota,.i .i64 t.next,.os a 33,.os b 36,.os c 33]
def wN(p:V)(o:OpT)(m:Int):V:=A1 [.pr 3 0 [],J4 o,p,.i .u64 m]
def rB(t:TenR):V:=.ar 33 t.nb fun i=>C3 (t.gb i)
def E1(t:TenR):V:=.ar 36 t.ns fun i=>C9 (t.gs i)
def rD(t:TenR):V:=.ar 33 t.nd fun i=>E0 (t.gd i)
def rR(s:StaR):V:=.ar 1 s.nr fun i=>.i .u64 (s.gr i)
def rL(s:StaR):V:=.ar 38 s.nl fun i=>H8 (s.gl i)
def rT(n:Nat)(tg:Nat->TenR):V:=.ar 38 n fun i=>B4 (tg i)
def fN(n:Nat)(tg:Nat->TenR)(i0:Nat)(v:V):V:=.fo 38 (rT n tg) i0 v
def hA(s:StaR)(o:OpT)(m:Int)(n:Nat)(tg:Nat->TenR)(i0:Nat)(v:V)(l:List (Nat×V)):List (Nat×V):=(2,wN (.pr 4 0 [.e i0 38 n]) o m)::(3,sN 4 5 6 s)::(4,fN n tg i0 v)::(5,rR s)::(6,rL s)::l
def t6(s:StaR)(o:OpT)(m:Int)(n:Nat)(tg:Nat->TenR)(i0:Nat)(t:TenR):List (Nat×V):=hA s o m n tg i0 (tN 7 8 9 t) [(7,rB t),(8,E1 t),(9,rD t)]
def fP(s:StaR)(o:OpT)(m:Int)(n:Nat)(tg:Nat->TenR)(i0:Nat)(t:TenR):V:=.pz (A1 [.pz (A1 [.bs 32 s.root,.i .i64 s.delay,.i .u64 s.serial,dY 38 (tZ 38 i0 (rT n tg) (B4 t)),.sl 0 1 s.nr fun i=>.i .u64 (s.gr i),.sl 0 38 s.nl fun i=>H8 (s.gl i),.bs 32 s.head]),J4 o,bif beq i0 i0 then .pz (B4 t) else .uk 1,.i .u64 m])
theorem Xf{s:StaR}{o:OpT}{m:Int}{n:Nat}{tg:Nat->TenR}{i0:Nat}{t:TenR}:VW (fP s o m n tg i0 t) (.pz (nA s o t m)):=VW.pz (VW.st ⟨VW.pz (VW.st ⟨VW.rfl,VW.rfl,VW.rfl,VW.uk VQ,VW.rfl,VW.rfl,VW.rfl,zT⟩),VW.rfl,VW.of_eq VP,VW.rfl,zT⟩)
theorem lB{s:StaR}{o:OpT}{m:Int}{n:Nat}{tg:Nat->TenR}{i0:Nat}{t:TenR}:VA (fP s o m n tg i0 t) (.pz (nA s o t m)):=VA.pz (VW.st ⟨VW.pz (VW.st ⟨VW.rfl,VW.rfl,VW.rfl,VW.uk VQ,VW.rfl,VW.rfl,VW.rfl,zT⟩),VW.rfl,VW.of_eq VP,VW.rfl,zT⟩)
theorem VA.fn1{f:FuncId}{v:V}(h:VA (.pz v) (.pz v')):VA (mY f [.pz v]) (mY f [.pz v']):=fun X x ⟨vs,q1,q2,q3⟩=>⟨vs,q1,q2,fun k hk=>by
 obtain⟨y,r1,r2⟩:=q3 k hk
 have lL:k=0:=Nat.lt_one_iff.1 hk
 subst lL
 exact⟨y,r1,h X y r2⟩⟩
theorem Au{z n:Nat}{e:α->V}{g:Nat->α}:VEq (.ar z n (hU (fun k=>e (g k)) i)) (.ar z n fun k=>e (bJ g i k)):=.an _ _ _ _ fun k _=>by
 show VEn (bif blt k i then e (g k) else e (g (k+1))) (e (bif blt k i then g k else g (k+1)))
 cases blt k i<;>exact .rfl _
theorem CM{z n:Nat}{e:α->V}{g:Nat->α}{v:V}{x:α}(h:VEn v (e x):=by exact .rfl _):VEq (.ar z n (U0 (fun k=>e (g k)) i v)) (.ar z n fun k=>e (Q2 g i x k)):=.an _ _ _ _ fun k _=>by
 show VEn (bif blt k i then e (g k) else bif beq k i then v else e (g (k-1))) (e (bif blt k i then g k else bif beq k i then x else g (k-1)))
 cases blt k i
 ·cases beq k i
  ·exact .rfl _
  exact h
 exact .rfl _
structure TB (t:TenR):Prop where
 nb:t.nb<=65536
 ns:t.ns<=65536
 nd:t.nd<=65536
 db:∀j,j<t.nb->(t.gb j).data.length<=100000
 ls:∀j,j<t.ns->(t.gs j).mani.label.length<=5000
 asc:AscK Doo.of t.nd t.gd
 mm:∀j,j<t.ns->S7 (t.gs j).mani=true
 us:(useN t:Int)<=t.quota
structure OB (o:OpT):Prop where
 hb:o.body.length<=4096
 ht:o.token.length<=50000
 hn:o.tenant.length<=16
 hq:0<=o.number
structure UsP (z:Nat) (o:OpT) (c:Int) (t t':TenR):Prop where
 nm:t'.name=t.name
 u0:z=0->useN t'=useN t
 u1:z=1->useN t'=useN t+if c=201 then o.body.length else 0
 u2:z=2->useN t'<=useN t
theorem UsP.same{z:Nat}{o:OpT}{c:Int}{t t':TenR}(h:t'.name=t.name)(hu:useN t'=useN t)(hz:c≠201\/z≠1):UsP z o c t t':=⟨h,fun _=>hu,fun e=>by rcases hz with q|q;rw[if_neg q];exact hu;exact absurd e q,fun _=>Nat.le_of_eq hu⟩
def MP(z:Nat)(o:OpT)(t t':TenR)(c:Int):Prop:=(c≠200->c≠201->t'=t)/\(TB t->TB t')/\UsP z o c t t'
theorem MP.rfl{z:Nat}{o:OpT}{t:TenR}{c:Int}(hz:c≠201\/z≠1:=by first|exact .inl (by decide)|exact .inr (by decide)):MP z o t t c:=⟨fun _ _=>Eq.refl _,id,.same (Eq.refl _) (Eq.refl _) hz⟩
theorem MP.of{z:Nat}{o:OpT}{t t':TenR}{c:Int}(hc:c=200\/c=201)(h:TB t->TB t')(hk:UsP z o c t t'):MP z o t t' c:=⟨fun h1 h2=>by rcases hc with h3|h3<;>contradiction,h,hk⟩
theorem UsP.doo{z:Nat}{o:OpT}{c:Int}{t:TenR}{d:Nat}{g:Nat->Doo}(hz:c≠201\/z≠1:=by first|exact .inl (by decide)|exact .inr (by decide)):UsP z o c t ⟨t.name,t.key,t.quota,t.next,t.nb,t.gb,t.ns,t.gs,d,g⟩:=.same (Eq.refl _) (Eq.refl _) hz
theorem UsP.add1{o:OpT}{t t':TenR}(h:t'.name=t.name)(hu:useN t'=useN t+o.body.length):UsP 1 o 201 t t':=⟨h,fun e=>absurd e (by decide),fun _=>hu,fun e=>absurd e (by decide)⟩
theorem uT{f f':Nat->Nat}:∀{n:Nat},(∀j,j<n->f j=f' j)->g8 f n=g8 f' n
|0,_=>rfl
|n+1,h=>by rw[g8,g8,uT fun j hj=>h j zO,h n zO]
theorem Av{f:Nat->Nat}{x:Nat}:∀{n i:Nat},i<=n->g8 (Q2 f i x) (n+1)=g8 f n+x
|0,i,h=>by
  have e:i=0:=by omega
  subst e
  show g8 (Q2 f 0 x) 0+Q2 f 0 x 0=g8 f 0+x
  rw[BZ];rfl
|n+1,i,h=>by
  rw[g8]
  by_cases e:i=n+1
  ·subst e;rw[BZ,uT (f':=f) fun j hj=>uK hj]
  rw[Av (n:=n) (i:=i) zO,CA zO,g8];omega
theorem Aw{f:Nat->Nat}{i:Nat}:∀{n:Nat},i<n->g8 (bJ f i) (n-1)<=g8 f n
|0,h=>absurd h (S4 _)
|n+1,h=>by
  by_cases e:i=n
  ·subst e;rw[show i+1-1=i by omega,g8,uT (f':=f) fun j hj=>HO hj];omega
  have ih:=Aw (f:=f) (i:=i) (n:=n) zO
  obtain⟨m,rfl⟩:∃m,n=m+1:=⟨n-1,zO⟩
  rw[show m+1-1=m by omega]at ih
  rw[show m+1+1-1=m+1 by omega]
  show g8 (bJ f i) m+bJ f i m<=g8 f (m+1)+f (m+1)
  rw[NW zO]
  omega
theorem Xg{g:Nat->Obj}{n:Nat}{x:Obj}(h:i<=n):Q3 (Q2 g i x) (n+1)=Q3 g n+x.data.length:=by
 have:=Av (f:=fun j=>(g j).data.length) (x:=x.data.length) h
 unfold Q3
 rw[<-this]
 exact uT fun j _=>by unfold Q2;cases blt j i<;>cases beq j i<;>rfl
theorem Xh{g:Nat->Obj}{n:Nat}(h:i<n):Q3 (bJ g i) (n-1)<=Q3 g n:=by
 have:=Aw (f:=fun j=>(g j).data.length) h
 unfold Q3
 refine J2 (Nat.le_of_eq (uT fun j _=>?_)) this
 unfold bJ;cases blt j i<;>rfl
theorem Ax{g:Nat->Snp}{n:Nat}{x:Snp}:X6 (J1 n g x) (n+1)=X6 g n+(43+x.mani.label.length):=by
 rw[CE,Tk]
 have:X6 (J1 n g x) n=X6 g n:=uT fun j hj=>by rw[Tj hj]
 rw[this]
theorem Xi{g:Nat->Snp}{n:Nat}{a c:Int}:X6 (F0 g i ⟨a,(g i).mani,c⟩) n=X6 g n:=uT fun j _=>by
 by_cases e:j=i
 ·subst e;rw[CB]
 rw[CC e]
theorem Xj{a:Int}(h:0<=a):i64.wrap a<=a:=by simp[IntKind.wrap,IntKind.bits,IntKind.signed];omega
theorem Ay{t:TenR}{x:Obj}(h:i<=t.nb):useN ⟨t.name,t.key,t.quota,t.next,t.nb+1,Q2 t.gb i x,t.ns,t.gs,t.nd,t.gd⟩=useN t+x.data.length:=by
 show Q3 (Q2 t.gb i x) (t.nb+1)+X6 t.gs t.ns=Q3 t.gb t.nb+X6 t.gs t.ns+x.data.length
 rw[Xg h];omega
theorem Az{t:TenR}{x:Int}(h:x<=i64.wrap (t.quota-(useN t:Int)))(hu:(useN t:Int)<=t.quota):(useN t:Int)+x<=t.quota:=by
 have:=Xj (a:=t.quota-(useN t:Int)) zO
 omega
theorem TB.doo{t:TenR}{d:Nat}{g:Nat->Doo}(h:d<=t.nd)(ha:AscK Doo.of t.nd t.gd->AscK Doo.of d g)(hB:TB t):TB ⟨t.name,t.key,t.quota,t.next,t.nb,t.gb,t.ns,t.gs,d,g⟩:=⟨hB.nb,hB.ns,J2 h hB.nd,hB.db,hB.ls,ha hB.asc,hB.mm,hB.us⟩
theorem OS{p:α->Prop}{n:Nat}{g:Nat->α}{x:α}(h:∀j,j<n->p (g j))(hx:p x):∀j,j<n+1->i<=n->p (Q2 g i x j):=fun j hj hi=>by
 unfold Q2
 cases h1:blt j i
 ·cases h2:beq j i
  ·have:¬ j<i:=fun e=>by rw[<-A8,h1]at e;cases e
   have:j≠i:=fun e=>by rw[e,P6]at h2;cases h2
   exact h _ zO
  exact hx
 rw[A8]at h1;exact h _ zO
theorem Xk{p:α->Prop}{n:Nat}{g:Nat->α}(h:∀j,j<n->p (g j)):∀j,j<n-1->p (bJ g i j):=fun j hj=>by
 unfold bJ
 cases blt j i
 ·exact h _ zO
 exact h _ zO
theorem Ba{p:α->Prop}{n:Nat}{g:Nat->α}{x:α}(h:∀j,j<n->p (g j))(hx:p x):∀j,j<n->p (F0 g i x j):=fun j hj=>by
 unfold F0
 cases beq j i
 ·exact h _ hj
 exact hx
theorem nH{p:α->Prop}{n:Nat}{g:Nat->α}{x:α}(h:∀j,j<n->p (g j))(hx:p x):∀j,j<n+1->p (J1 n g x j):=fun j hj=>by
 unfold J1
 cases h1:blt j n
 ·exact hx
 rw[A8]at h1;exact h _ h1
theorem jS{z n:Nat}{e:α->V}{g:Nat->α}{v:V}{x:α}(h:VEn v (e x):=by exact .rfl _):VEq (.ar z m (fun k=>bif blt k n then e (g k) else v)) (.ar z m fun k=>e (J1 n g x k)):=.an _ _ _ _ fun k _=>by
 show VEn (bif blt k n then e (g k) else v) (e (bif blt k n then g k else x))
 cases blt k n
 ·exact h
 exact .rfl _
theorem CN{v:V}(h:v.Flo):∀r,(lk [(16,v)] r).Flo:=fun r=>by
 simp only[lk]
 cases beq r 16
 ·trivial
 exact h
theorem Xl(lvi:List Nat)(n i:Nat)(g:Nat->V)(hi:i<n)(hn:n<=1000000):SatHM Tryz.prog false 157 [.os 2 33,.i .i64 (i:Int),.i .i64 (i64.wrap ((i:Int)+1))] lvi [(2,.ar 33 n g)] (fun out ho A0=>out=.os 16 33/\ho=[(16,.ar 33 (n-1) (hU g i))]/\A0=[]):=by
 rw[I8 ⟨zO,zO⟩];exact Uo lvi n i g hi
theorem Xm(lvi:List Nat)(n i:Nat)(g:Nat->V)(hi:i<n)(hn:n<=1000000):SatHM Tryz.prog false 135 [.os 2 33,.i .i64 (i:Int),.i .i64 (i64.wrap ((i:Int)+1))] lvi [(2,.ar 33 n g)] (fun out ho A0=>out=.os 16 33/\ho=[(16,.ar 33 (n-1) (hU g i))]/\A0=[]):=by
 rw[I8 ⟨zO,zO⟩];exact Um lvi n i g hi
theorem OT(s:StaR)(o:OpT)(t:TenR)(m:Int)(n:Nat)(tg:Nat->TenR)(i0:Nat)(x:By)(hd:t.nd<=100000):SatHM Tryz.prog false 113 [.pr 2 0 [],.bs 32 x] [4,5,6] (t6 s o m n tg i0 t) (fun out ho A0=>∃(d:Nat) (g:Nat->Doo),ho=hA s o m n tg i0 (tN 7 8 16 t) [(7,rB t),(8,E1 t),(9,.un),(16,.ar 33 d fun i=>E0 (g i))]/\A0=[4,5,6]/\d<=t.nd/\(AscK Doo.of t.nd t.gd->AscK Doo.of d g)):=by
 refine fH false Tryz.func113 fun X0 w0 hX hm=>?_
 refine mV 9 ?_;refine S0 (SatM.weak (ins':=[fP s o m n tg i0 t,.bs 32 x]) (YM s o t m x bd) ⟨lB,VA.rfl,zT⟩) ?_;rintro out A0 ⟨rfl,⟨K1,dP,rfl,oL,iS⟩⟩
 refine⟨rfl,?_⟩
 refine cb (dP) ?_ ?_<;>intro h1
 ·have hj:=(iS.ok h1).1
  refine cC (i0=i0) ?_;refine jA 2 5968 (fun(u:Unit)=>[]) (fun(u:Unit)=>[(2,wN (.pr 4 0 [.e i0 38 n]) o m),(3,sN 4 5 6 s),(5,rR s),(6,rL s),(4,fN n tg i0 (tN 7 8 1632 t)),(7,rB t),(8,E1 t),(1632,.ar 33 (t.nd-1) fun i=>hU (fun i=>E0 (t.gd i)) K1 i),(9,.un)]) (fun(u:Unit)=>True) [4,5,6] (fun R hR i hi=>?_) ?_
  ·revert i hi;refine f2 ?_ ?_<;>repeat' (first|(refine kH (e:=eE) [(16,2)] [16] (Xl [] t.nd K1 (fun i=>E0 (t.gd i)) bd bd) ?_;rintro out ho A0 ⟨rfl,rfl,rfl⟩)|refine cC (e:=eE) (i0=i0) ?_|exact cA hX (hR () zT))
  rintro u hJ
  exact xW hX (A2 []) ⟨_,(bJ t.gd K1),rfl,rfl,zO,AscK.del⟩ (hH:=⟨v0,v0,v0,v0,v0,v0,v0,v0,(vT (u:=.ar 33 (t.nd-1) fun i=>hU (fun i=>E0 (t.gd i)) K1 i) (Au)),zT⟩)
 exact xW hX (A2 []) ⟨_,t.gd,rfl,rfl,zO,id⟩ (hH:=⟨v0,v0,v0,v0,v0,v0,v0,v0,(vT (u:=rD t) (.rfl _)),zT⟩)
theorem Xn(s:StaR)(o:OpT)(t:TenR)(m:Int)(n:Nat)(tg:Nat->TenR)(i0:Nat)(hB:TB t)(hO:OB o):SatHM Tryz.prog false 72 [.pr 2 0 []] [4,5,6,7,8,9] (t6 s o m n tg i0 t) (fun out ho A0=>∃c t2,out=A1 [.i .i64 c,.bl 0 []]/\ho=hA s o m n tg i0 (tN 16 8 17 t2) [(7,.un),(8,E1 t2),(9,.un),(16,rB t2),(17,rD t2)]/\A0=[4,5,6]/\MP 1 o t t2 c):=by
 refine fH false Tryz.func72 fun X0 w0 hX hm=>?_
 have hb:=hO.hb
 have h1:=hB.nb
 have h2:=hB.ns
 have h3:=hB.nd
 have hs:=hB.ls
 have hM:=hB.mm
 have Z6:=hB.db
 refine mV 7 ?_;refine mV 9 ?_;refine S0 (SatM.weak (ins':=[fP s o m n tg i0 t,.bs 32 o.of]) (NZ s o t m o.of bd) ⟨lB,VA.rfl,zT⟩) ?_;rintro out A0 ⟨rfl,⟨K1,dP,rfl,oL,iS⟩⟩
 refine⟨rfl,?_⟩
 refine cB (4000<(o.body.length:Int)) ?_ ?_<;>intro h1
 ·refine cQ [] (E6 413) ?_
  exact xW hX (A1 [.i .i64 413,.bl 0 []]) ⟨_,⟨t.name,t.key,t.quota,t.next,t.nb,t.gb,t.ns,t.gs,t.nd,t.gd⟩,rfl,rfl,rfl,.rfl⟩ (hH:=⟨v0,v0,v0,v0,v0,v0,v0,v0,(vT (u:=rB t) (.rfl _)),(vT (u:=rD t) (.rfl _)),zT⟩)
 refine cC (i0=i0) ?_
 refine S0 (Sd t o.body bd) ?_;rintro out A0 ⟨rfl,⟨nm1,rfl⟩⟩
 refine⟨rfl,?_⟩
 refine cN (o.of=nm1) ?_ ?_<;>intro h2
 ·refine cQ [] (E6 400) ?_
  exact xW hX (A1 [.i .i64 400,.bl 0 []]) ⟨_,⟨t.name,t.key,t.quota,t.next,t.nb,t.gb,t.ns,t.gs,t.nd,t.gd⟩,rfl,rfl,rfl,.rfl⟩ (hH:=⟨v0,v0,v0,v0,v0,v0,v0,v0,(vT (u:=rB t) (.rfl _)),(vT (u:=rD t) (.rfl _)),zT⟩)
 refine cb (dP) ?_ ?_<;>intro h3
 ·refine gD [4,5,6] ?_
  refine kH [(2,2),(3,3),(4,4),(5,5),(6,6),(16,7),(8,8),(80,9)] [2,3,4,5,6,16,8,80] (OT s o t m n tg i0 o.of bc) ?_;rintro out ho A0 ⟨sd2,sg2,rfl,rfl,hsd2,hsa2⟩
  refine cQ [] (E6 200) ?_;exact xW hX (A1 [.i .i64 200,.bl 0 []]) ⟨_,⟨t.name,t.key,t.quota,t.next,t.nb,t.gb,t.ns,t.gs,sd2,sg2⟩,rfl,rfl,rfl,.of (.inl rfl) (TB.doo zO hsa2) .doo⟩ (hH:=⟨v0,v0,v0,v0,v0,v0,v0,v0,(vT (u:=rB t) (.rfl _)),(vT (u:=.ar 33 sd2 fun i=>E0 (sg2 i)) (.rfl _)),zT⟩)
 refine kW (SatM.weak (ins':=[fP s o m n tg i0 t,.i .i64 (o.body.length:Int)]) (YP s o t m (o.body.length:Int) bd bd hs hM Z6) ⟨lB,VA.rfl,zT⟩) ?_
 refine cn ((decide ((o.body.length:Int)<=(i64.wrap (t.quota-(useN t:Int)))))) ?_ ?_<;>intro h4
 ·refine cQ [] (E6 507) ?_
  exact xW hX (A1 [.i .i64 507,.bl 0 []]) ⟨_,⟨t.name,t.key,t.quota,t.next,t.nb,t.gb,t.ns,t.gs,t.nd,t.gd⟩,rfl,rfl,rfl,.rfl⟩ (hH:=⟨v0,v0,v0,v0,v0,v0,v0,v0,(vT (u:=rB t) (.rfl _)),(vT (u:=rD t) (.rfl _)),zT⟩)
 refine cC (i0=i0) ?_
 refine cB (1024<=(t.nb:Int)) ?_ ?_<;>intro h5
 ·refine cQ [] (E6 507) ?_
  exact xW hX (A1 [.i .i64 507,.bl 0 []]) (ho:=(hA s o m n tg i0 (tN 16 8 17 t) [(7,.un),(8,E1 t),(9,.un),(16,.ar 33 t.nb fun i=>C3 (t.gb i)),(17,.ar 33 t.nd fun i=>E0 (t.gd i))])) ⟨_,⟨t.name,t.key,t.quota,t.next,t.nb,t.gb,t.ns,t.gs,t.nd,t.gd⟩,rfl,rfl,rfl,.rfl⟩ (hH:=⟨v0,v0,v0,v0,v0,v0,v0,v0,(vT (u:=rB t) (.rfl _)),(vT (u:=rD t) (.rfl _)),zT⟩)
 refine cC (i0=i0) ?_
 refine jA 2 10128 (fun(u:Unit)=>[(2,.pr 144 0 [])]) (fun(u:Unit)=>[(144,A1 [.i .i64 0,.bl 1 []]),(2,wN (.pr 4 0 [.e i0 38 n]) o m),(3,sN 4 5 6 s),(5,rR s),(6,rL s),(4,fN n tg i0 (tN 5792 8 80 t)),(8,E1 t),(80,rD t),(5792,.ar 33 (t.nb+1) fun i=>U0 (fun i=>C3 (t.gb i)) K1 (A1 [.bs 32 o.of,.bl 0 o.body]) i),(7,.un),(9,.un)]) (fun(u:Unit)=>True) [4,5,6,8,80,5792] (fun R hR i hi=>?_) ?_
 ·match i,hi with
 |0,_=>
   refine cK [] (uI o.body bd) ?_;rintro out A0 ⟨rfl,rfl⟩
   refine kH [(16,2)] [16] (OF t.nb K1 (fun i=>C3 (t.gb i)) (A1 [.bs 32 o.of,.bl 0 o.body]) bd bd rfl) ?_;rintro out ho A0 ⟨rfl,rfl,rfl⟩
   refine cC (i0=i0) ?_;exact cA hX (hR () zT)
 |1,_=>
   refine cK [] (uI o.body bd) ?_;rintro out A0 ⟨rfl,rfl⟩
   refine L6 2 zK fun i hi=>?_
   match i,hi with
  |0,_=>
    refine kH [(16,2)] [16] (OF t.nb K1 (fun i=>C3 (t.gb i)) (A1 [.bs 32 o.of,.bl 0 o.body]) bd bd rfl) ?_;rintro out ho A0 ⟨rfl,rfl,rfl⟩
    refine cC (i0=i0) ?_;exact cA hX (hR () zT)
  |1,_=>
    refine L6 2 zK fun i hi=>?_
    match i,hi with
   |0,_|1,_=>
     refine kH [(16,2)] [16] (OF t.nb K1 (fun i=>C3 (t.gb i)) (A1 [.bs 32 o.of,.bl 0 o.body]) bd bd rfl) ?_;rintro out ho A0 ⟨rfl,rfl,rfl⟩
     refine cC (i0=i0) ?_;exact cA hX (hR () zT)
 rintro u hJ
 refine cQ [] (E6 201) ?_;exact xW hX (A1 [.i .i64 201,.bl 0 []]) ⟨_,⟨t.name,t.key,t.quota,t.next,(t.nb+1),(Q2 t.gb K1 ⟨o.of,o.body⟩),t.ns,t.gs,t.nd,t.gd⟩,rfl,rfl,rfl,.of (.inr rfl) (fun h=>⟨by dsimp only;omega,h.ns,h.nd,fun j hj=>OS (p:=fun x:Obj=>x.data.length<=100000) h.db (by dsimp only;omega) j hj zO,h.ls,h.asc,h.mm,by rw[Ay zO];exact Az (of_decide_eq_true (by assumption)) h.us⟩) (.add1 rfl (Ay zO))⟩ (hH:=⟨v0,v0,v0,v0,v0,v0,v0,v0,(vT (u:=.ar 33 (t.nb+1) fun i=>U0 (fun i=>C3 (t.gb i)) K1 (A1 [.bs 32 o.of,.bl 0 o.body]) i) (CM)),(vT (u:=rD t) (.rfl _)),zT⟩)
theorem Bb{t:TenR}{x:Snp}{e:Int}{d:Nat}{gd:Nat->Doo}:useN ⟨t.name,t.key,t.quota,e,t.nb,t.gb,t.ns+1,fun i=>J1 t.ns t.gs x i,d,gd⟩=useN t+(43+x.mani.label.length):=by
 show Q3 t.gb t.nb+X6 (J1 t.ns t.gs x) (t.ns+1)=Q3 t.gb t.nb+X6 t.gs t.ns+_
 rw[Ax];omega
theorem lC{a:Int}{m:Mani}{c:Int}:VEn (A1 [.i .i64 a,f8 m,.i .i64 c]).strip (C9 ⟨a,m,c⟩):=.st _ _ _ fun k hk=>match k,hk with
|0,_=>.rfl _
|1,_=>MU rfl
|2,_=>.rfl _
theorem CO(s:StaR)(o:OpT)(t:TenR)(m:Int)(n:Nat)(tg:Nat->TenR)(i0:Nat)(hn:t.nb<=100000):SatHM Tryz.prog false 118 [.pr 2 0 []] [4,5,6,7,8,9] (t6 s o m n tg i0 t) (fun out ho A0=>out=.sl 16 33 t.nb (fun i=>C3 (t.gb i))/\ho=t6 s o m n tg i0 t/\A0=[4,5,6,7,8,9,16]):=by
 refine fH false Tryz.func118 fun X0 w0 hX hm=>?_
 refine cC (i0=i0) ?_;refine cM hX (fun(k:Nat)=>[(3,.sl 24 33 k fun i=>C3 (t.gb i)),(12,.os 7 33),(13,.i .i64 (t.nb:Int)),(14,.i .i64 (k:Int))]) (fun(k:Nat)=>[(7,rB t),(2,wN (.pr 4 0 [.e i0 38 n]) o m),(3,sN 4 5 6 s),(5,rR s),(6,rL s),(4,fN n tg i0 (tN 7 8 9 t)),(8,E1 t),(9,rD t)]) (fun(k:Nat)=>k<=t.nb) (fun(k:Nat)=>t.nb-k) [4,5,6,7,8,9,24] 720 0 (by simp) ?_ (hS:=⟨(vT (vN (g:=fun _=>.un))),v0,v0,v0,zT⟩);rintro k hI R hR
 refine cB ((k:Int)<(t.nb:Int)) ?_ ?_<;>intro h1
 ·refine cC ((0:Int)<=(k:Int)/\(k:Int)<(t.nb:Int)) ?_
  refine gR 7 (rB t) (.fo 33 (rB t) k (C3 (t.gb k))) (aG zO rfl) ?_;refine cC (k=k) ?_;refine gR 7 (.fo 33 (rB t) k (C3 (t.gb k))) (rB t) (fJ rfl rfl rfl) ?_;refine cC ((k+1)*56<=140737488355328) ?_;exact cA hX (hR (k+1) bd zO) (hS:=⟨(vT VM),v0,v0,(vS bd),zT⟩)
 exact xW hX (.sl 16 33 k fun i=>C3 (t.gb i)) (by obtain rfl:k=t.nb:=oM;exact⟨rfl,rfl,rfl⟩)
theorem Bc(s:StaR)(o:OpT)(t:TenR)(m:Int)(n:Nat)(tg:Nat->TenR)(i0:Nat)(hn:t.ns<=100000):SatHM Tryz.prog false 131 [.pr 2 0 []] [4,5,6,7,8,9] (t6 s o m n tg i0 t) (fun out ho A0=>out=.sl 16 32 t.ns (fun i=>.bs 32 ((t.gs i).mani.root))/\ho=t6 s o m n tg i0 t/\A0=[4,5,6,7,8,9,16]):=by
 refine fH false Tryz.func131 fun X0 w0 hX hm=>?_
 refine cC (i0=i0) ?_;refine cM hX (fun(k:Nat)=>[(3,.sl 24 32 k fun i=>.bs 32 ((t.gs i).mani.root)),(12,.os 8 36),(13,.i .i64 (t.ns:Int)),(14,.i .i64 (k:Int))]) (fun(k:Nat)=>[(8,E1 t),(2,wN (.pr 4 0 [.e i0 38 n]) o m),(3,sN 4 5 6 s),(5,rR s),(6,rL s),(4,fN n tg i0 (tN 7 8 9 t)),(7,rB t),(9,rD t)]) (fun(k:Nat)=>k<=t.ns) (fun(k:Nat)=>t.ns-k) [4,5,6,7,8,9,24] 720 0 (by simp) ?_ (hS:=⟨(vT (vN (g:=fun _=>.un))),v0,v0,v0,zT⟩);rintro k hI R hR
 refine cB ((k:Int)<(t.ns:Int)) ?_ ?_<;>intro h1
 ·refine cC ((0:Int)<=(k:Int)/\(k:Int)<(t.ns:Int)) ?_
  refine gR 8 (E1 t) (.fo 36 (E1 t) k (C9 (t.gs k))) (aG zO rfl) ?_;refine cC (k=k) ?_;refine gR 8 (.fo 36 (E1 t) k (C9 (t.gs k))) (E1 t) (T8 lC (fun _ _=>rfl) rfl) ?_;refine cC ((k+1)*32<=140737488355328) ?_;exact cA hX (hR (k+1) bd zO) (hS:=⟨(vT VM),v0,v0,(vS bd),zT⟩)
 exact xW hX (.sl 16 32 k fun i=>.bs 32 ((t.gs i).mani.root)) (by obtain rfl:k=t.ns:=oM;exact⟨rfl,rfl,rfl⟩)
theorem Xo(s:StaR)(o:OpT)(t:TenR)(m:Int)(n:Nat)(tg:Nat->TenR)(i0:Nat)(hB:TB t):SatHM Tryz.prog false 73 [.pr 2 0 []] [4,5,6,7,8,9] (t6 s o m n tg i0 t) (fun out ho A0=>∃c b,out=A1 [.i .i64 c,.bl 0 b]/\(c=200\/b=[])/\ho=t6 s o m n tg i0 t/\A0=[4,5,6]/\b.length<=100000):=by
 refine fH false Tryz.func73 fun X0 w0 hX hm=>?_
 have P8:=hB.nb
 have U5:=hB.ns
 have z6:=hB.nd
 have hs:=hB.ls
 have hM:=hB.mm
 have Z6:=hB.db
 refine S0 (SatM.weak (ins':=[fP s o m n tg i0 t,.bs 32 o.of]) (NZ s o t m o.of bd) ⟨lB,VA.rfl,zT⟩) ?_;rintro out A0 ⟨rfl,⟨K1,dP,rfl,oL,iS⟩⟩
 refine⟨rfl,?_⟩
 refine cn (dP) ?_ ?_<;>intro h1
 ·refine cQ [] (E6 404) ?_
  exact xW hX (A1 [.i .i64 404,.bl 0 []]) ⟨_,_,rfl,by simp,rfl,rfl,by first|(simp;done)|omega⟩
 have hj:=(iS.ok (by simpa using h1)).1
 have hd:=hB.db K1 hj
 refine cC (i0=i0) ?_;refine cC ((0:Int)<=(K1:Int)/\(K1:Int)<(t.nb:Int)) ?_;refine gR 7 (rB t) (.fo 33 (rB t) K1 (C3 (t.gb K1))) (aG zO rfl) ?_;refine cC (K1=K1) ?_;refine gR 7 (.fo 33 (rB t) K1 (C3 (t.gb K1))) (rB t) (fJ rfl rfl rfl) ?_;refine cK [] (uI ((t.gb K1).data) bd) ?_;rintro out A0 ⟨rfl,rfl⟩
 refine cQ [] (kZ ((t.gb K1).data)) ?_;exact xW hX (A1 [.i .i64 200,.bl 0 ((t.gb K1).data)]) ⟨_,_,rfl,by simp,rfl,rfl,by first|(simp;done)|omega⟩
theorem Xp(s:StaR)(o:OpT)(t:TenR)(m:Int)(n:Nat)(tg:Nat->TenR)(i0:Nat)(hB:TB t):SatHM Tryz.prog false 75 [.pr 2 0 []] [4,5,6,7,8,9] (t6 s o m n tg i0 t) (fun out ho A0=>∃c b,out=A1 [.i .i64 c,.bl 0 b]/\(c=200\/b=[])/\ho=t6 s o m n tg i0 t/\A0=[4,5,6]/\b.length<=7000*65536):=by
 refine fH false Tryz.func75 fun X0 w0 hX hm=>?_
 have P8:=hB.nb
 have U5:=hB.ns
 have z6:=hB.nd
 have hs:=hB.ls
 have hM:=hB.mm
 have Z6:=hB.db
 refine cC (i0=i0) ?_ bd;refine cM hX (fun(p:Nat×By)=>[(2,.pr 16 0 []),(3,.bl 24 p.2),(13,.os 8 36),(14,.i .i64 (t.ns:Int)),(15,.i .i64 (p.1:Int))]) (fun(p:Nat×By)=>[(8,E1 t),(16,A1 [.i .i64 0,.bl 1 []]),(2,wN (.pr 4 0 [.e i0 38 n]) o m),(3,sN 4 5 6 s),(5,rR s),(6,rL s),(4,fN n tg i0 (tN 7 8 9 t)),(7,rB t),(9,rD t)]) (fun(p:Nat×By)=>p.1<=t.ns/\p.2.length<=7000*p.1) (fun(p:Nat×By)=>t.ns-p.1) [4,5,6,7,8,9,24] 720 (0,[]) ⟨by simp,by simp⟩ ?_;rintro⟨k,b⟩ hI R hR
 dsimp only at hI
 refine cB ((k:Int)<(t.ns:Int)) ?_ ?_<;>intro h1
 ·have hk:=hs k zO
  refine cC ((0:Int)<=(k:Int)/\(k:Int)<(t.ns:Int)) ?_ bd;refine gR 8 (E1 t) (.fo 36 (E1 t) k (C9 (t.gs k))) (aG zO rfl) ?_;refine cC (k=k) ?_ bd;refine gR 8 (.fo 36 (E1 t) k (C9 (t.gs k))) (E1 t) (T8 lC (fun _ _=>rfl) rfl) ?_;refine cK [] (HG ((t.gs k).number)) ?_;rintro out A0 ⟨rfl,⟨fZ,rfl,hf0⟩⟩
  refine cC (fZ.length+[32].length<=maxLen) ?_ bM;refine cK [] (HG (((t.gs k).mani).time)) ?_;rintro out A0 ⟨rfl,⟨sC,rfl,hf1⟩⟩
  refine cC ((fZ++[32]).length+sC.length<=maxLen) ?_ bM;refine cC (((fZ++[32])++sC).length+[32].length<=maxLen) ?_ bM;refine cK [] (HG ((t.gs k).doom)) ?_;rintro out A0 ⟨rfl,⟨Z7,rfl,hf2⟩⟩
  refine cC ((((fZ++[32])++sC)++[32]).length+Z7.length<=maxLen) ?_ bM;refine cC (((((fZ++[32])++sC)++[32])++Z7).length+[32].length<=maxLen) ?_ bM;refine cC ((((((fZ++[32])++sC)++[32])++Z7)++[32]).length+(((t.gs k).mani).label).length<=maxLen) ?_ bM;refine cC (((((((fZ++[32])++sC)++[32])++Z7)++[32])++(((t.gs k).mani).label)).length+[10].length<=maxLen) ?_ bM;refine cC ((b.length+(((((((fZ++[32])++sC)++[32])++Z7)++[32])++(((t.gs k).mani).label))++[10]).length)*1<=140737488355328) ?_ bd;exact cA hX (hR (k+1,(b++(((((((fZ++[32])++sC)++[32])++Z7)++[32])++(((t.gs k).mani).label))++[10]))) ⟨bd,bd⟩ (by dsimp only;omega)) (hS:=⟨v0,v0,v0,v0,(vS bd),zT⟩)
 refine cQ [] (kZ b) ?_
 exact xW hX (A1 [.i .i64 200,.bl 0 b]) ⟨_,_,rfl,.inl rfl,rfl,rfl,zO⟩
theorem Xq(s:StaR)(o:OpT)(t:TenR)(m:Int)(n:Nat)(tg:Nat->TenR)(i0:Nat)(hB:TB t)(hO:OB o):SatHM Tryz.prog true 74 [.pr 2 0 []] [4,5,6,7,8,9] (t6 s o m n tg i0 t) (fun out ho A0=>∃c b t2,out=A1 [.i .i64 c,.bl 0 b]/\ho=hA s o m n tg i0 (tN 7 16 17 t2) [(7,rB t2),(8,.un),(9,.un),(16,E1 t2),(17,rD t2)]/\A0=[4,5,6]/\MP 1 o t t2 c/\(c=201\/b=[])/\b.length<=100):=by
 refine fH true Tryz.func74 fun X0 w0 hX hm=>?_
 have hb:=hO.hb
 have P8:=hB.nb
 have U5:=hB.ns
 have z6:=hB.nd
 have hs:=hB.ls
 have hM:=hB.mm
 have Z6:=hB.db
 refine mV 8 ?_;refine mV 9 ?_;refine cK [] (Se o.body bd) ?_;rintro out A0 ⟨rfl,⟨sm0,se0,rfl,hsm0⟩⟩
 refine cB (se0≠0) ?_ ?_<;>intro h1
 ·refine cQ [] (E6 400) ?_
  exact xW hX (A1 [.i .i64 400,.bl 0 []]) ⟨_,_,⟨t.name,t.key,t.quota,t.next,t.nb,t.gb,t.ns,t.gs,t.nd,t.gd⟩,rfl,rfl,rfl,.rfl,.inr rfl,bd⟩ (hH:=⟨v0,v0,v0,v0,v0,v0,v0,v0,(vT (u:=E1 t) (.rfl _)),(vT (u:=rD t) (.rfl _)),zT⟩)
 have j5:=hsm0.2 (i7.1 h1)
 refine jA 2 5328 (fun(p:(List By)×Int)=>[(0,.pr 2 0 []),(2,.pr 144 0 []),(3,.pr 784 0 []),(4,.i .i64 p.2),(5,B3 4000 32 eI p.1)]) (fun(p:(List By)×Int)=>[(2,wN (.pr 4 0 [.e i0 38 n]) o m),(3,sN 4 5 6 s),(5,rR s),(6,rL s),(4,fN n tg i0 (tN 7 16 80 t)),(7,rB t),(16,E1 t),(80,rD t),(144,A1 [.i .i64 0,.bl 1 []]),(784,f8 sm0),(8,.un),(9,.un)]) (fun(p:(List By)×Int)=>p.1.length<=t.nb) [4,5,6,7,16,80,4000] (fun R hR i hi=>?_) ?_
 ·revert i hi;refine f2 ?_ ?_<;>repeat' (first|(refine kH (e:=eE) [(2,2),(3,3),(4,4),(5,5),(6,6),(7,7),(16,8),(80,9)] [2,3,4,5,6,7,16,80] (CO s o t m n tg i0 bc) ?_;rintro out ho A0 ⟨rfl,rfl,rfl⟩)|(refine kM (e:=eE) (fun _=>hm rfl) [] (Wr t.nb t.gb sm0.root zO hB.db) ?_;rintro out ho A0 ⟨cl2,ce2,rfl,rfl,hcl2,rfl⟩)|exact cA hX (hR (cl2,ce2) (by assumption)))
 rintro⟨cl,ce⟩ hI
 dsimp only at hI
 refine cB (ce=15) ?_ ?_<;>intro h2
 ·refine cQ [] (E6 409) ?_
  exact xW hX (A1 [.i .i64 409,.bl 0 []]) ⟨_,_,⟨t.name,t.key,t.quota,t.next,t.nb,t.gb,t.ns,t.gs,t.nd,t.gd⟩,rfl,rfl,rfl,.rfl,.inr rfl,bd⟩ (hH:=⟨v0,v0,v0,v0,v0,v0,v0,v0,(vT (u:=E1 t) (.rfl _)),(vT (u:=rD t) (.rfl _)),zT⟩)
 refine cB (ce≠0) ?_ ?_<;>intro h3
 ·refine cQ [] (E6 400) ?_
  exact xW hX (A1 [.i .i64 400,.bl 0 []]) ⟨_,_,⟨t.name,t.key,t.quota,t.next,t.nb,t.gb,t.ns,t.gs,t.nd,t.gd⟩,rfl,rfl,rfl,.rfl,.inr rfl,bd⟩ (hH:=⟨v0,v0,v0,v0,v0,v0,v0,v0,(vT (u:=E1 t) (.rfl _)),(vT (u:=rD t) (.rfl _)),zT⟩)
 refine kW (SatM.weak (ins':=[fP s o m n tg i0 t,.i .i64 (o.body.length:Int)]) (YP s o t m (o.body.length:Int) bd bd hs hM Z6) ⟨lB,VA.rfl,zT⟩) ?_
 refine cn ((decide ((o.body.length:Int)<=(i64.wrap (t.quota-(useN t:Int)))))) ?_ ?_<;>intro h4
 ·refine cQ [] (E6 507) ?_
  exact xW hX (A1 [.i .i64 507,.bl 0 []]) ⟨_,_,⟨t.name,t.key,t.quota,t.next,t.nb,t.gb,t.ns,t.gs,t.nd,t.gd⟩,rfl,rfl,rfl,.rfl,.inr rfl,bd⟩ (hH:=⟨v0,v0,v0,v0,v0,v0,v0,v0,(vT (u:=E1 t) (.rfl _)),(vT (u:=rD t) (.rfl _)),zT⟩)
 have hrm:=h4
 refine cC (i0=i0) ?_;refine cB (256<=(t.ns:Int)) ?_ ?_<;>intro h5
 ·refine cQ [] (E6 507) ?_
  exact xW hX (A1 [.i .i64 507,.bl 0 []]) ⟨_,_,⟨t.name,t.key,t.quota,t.next,t.nb,t.gb,t.ns,t.gs,t.nd,t.gd⟩,rfl,rfl,rfl,.rfl,.inr rfl,bd⟩ (hH:=⟨v0,v0,v0,v0,v0,v0,v0,v0,(vT (u:=E1 t) (.rfl _)),(vT (u:=rD t) (.rfl _)),zT⟩)
 refine cC (i0=i0) ?_
 refine cB (t.next=9223372036854775807) ?_ ?_<;>intro h6
 ·refine cQ [] (E6 507) ?_
  exact xW hX (A1 [.i .i64 507,.bl 0 []]) ⟨_,_,⟨t.name,t.key,t.quota,t.next,t.nb,t.gb,t.ns,t.gs,t.nd,t.gd⟩,rfl,rfl,rfl,.rfl,.inr rfl,bd⟩ (hH:=⟨v0,v0,v0,v0,v0,v0,v0,v0,(vT (u:=E1 t) (.rfl _)),(vT (u:=rD t) (.rfl _)),zT⟩)
 refine cC (i0=i0) ?_
 refine cC (i0=i0) ?_;refine cC (i0=i0) ?_;refine cC (i0=i0) ?_;refine cC ((t.ns+1)*72<=140737488355328) ?_;refine cC (i0=i0) ?_;refine cM hX (fun(p:Nat×Nat×(Nat->Doo))=>[(0,.pr 2 0 []),(2,.pr 144 0 []),(6,.i .i64 t.next),(104,B3 4000 32 eI cl),(105,.i .i64 (cl.length:Int)),(106,.i .i64 (p.1:Int))]) (fun(p:Nat×Nat×(Nat->Doo))=>[(2,wN (.pr 4 0 [.e i0 38 n]) o m),(3,sN 4 5 6 s),(5,rR s),(6,rL s),(4,fN n tg i0 (A1 [.s t.name,.bs 32 t.key,.i .i64 t.quota,.i .i64 (i64.wrap (t.next+1)),.os 7 33,.os 9872 36,.os 80 33])),(7,rB t),(80,.ar 33 p.2.1 fun i=>E0 (p.2.2 i)),(9872,.ar 36 (t.ns+1) fun i=>C9 (J1 t.ns t.gs ⟨t.next,sm0,0⟩ i)),(144,A1 [.i .i64 0,.bl 1 []])]) (fun(p:Nat×Nat×(Nat->Doo))=>p.1<=cl.length/\p.2.1<=t.nd/\(AscK Doo.of t.nd t.gd->AscK Doo.of p.2.1 p.2.2)) (fun(p:Nat×Nat×(Nat->Doo))=>cl.length-p.1) [4,5,6,4000] 10320 (0,t.nd,t.gd) ⟨by simp,by simp,id⟩ ?_ (hH:=⟨v0,v0,v0,v0,v0,v0,v0,(vT jS),v0,zT⟩);rintro⟨k,d,g⟩ hI R hR
 dsimp only at hI
 refine cB ((k:Int)<(cl.length:Int)) ?_ ?_<;>intro h7
 ·refine cC ((0:Int)<=(k:Int)/\(k:Int)<(cl.length:Int)) ?_
  refine kH [(2,2),(3,3),(4,4),(5,5),(6,6),(7,7),(9872,8),(80,9)] [2,3,4,5,6,7,9872,80] (OT s o (⟨t.name,t.key,t.quota,(i64.wrap (t.next+1)),t.nb,t.gb,(t.ns+1),(fun i=>(J1 t.ns t.gs ⟨t.next,sm0,0⟩ i)),d,g⟩) m n tg i0 (cl.getD k default) bc) ?_;rintro out ho A0 ⟨sd5,sg5,rfl,rfl,hsd5,hsa5⟩
  try dsimp only at hsd5 hsa5
  exact cA hX (hR (k+1,sd5,sg5) ⟨bd,bd,fun h=>hsa5 (hI.2.2 h)⟩ (by dsimp only;omega)) (hS:=⟨v0,v0,v0,v0,v0,(vS bd),zT⟩)
 refine cK [] (yQ 201 t.next) ?_
 rintro out A0 ⟨nb6,rfl,rfl,hnb6⟩
 exact xW hX (A1 [.i .i64 201,.bl 0 nb6]) ⟨_,_,⟨t.name,t.key,t.quota,(i64.wrap (t.next+1)),t.nb,t.gb,(t.ns+1),(fun i=>(J1 t.ns t.gs ⟨t.next,sm0,0⟩ i)),d,g⟩,rfl,rfl,rfl,.of (.inr rfl) (fun h=>⟨h.nb,by dsimp only;omega,by dsimp only;omega,h.db,fun j hj=>nH (p:=fun x:Snp=>x.mani.label.length<=5000) h.ls (by dsimp only;omega) j hj,hI.2.2 h.asc,nH (p:=fun x:Snp=>S7 x.mani=true) h.mm j5.1,by rw[Bb];dsimp only;have:=Az (of_decide_eq_true hrm) h.us;omega⟩) (.add1 rfl (by rw[Bb];dsimp only;omega)),.inl rfl,bd⟩ (hH:=⟨v0,v0,v0,v0,v0,v0,v0,v0,(vT (u:=.ar 36 (t.ns+1) fun i=>C9 (J1 t.ns t.gs ⟨t.next,sm0,0⟩ i)) (.rfl _)),(vT (u:=.ar 33 d fun i=>E0 (g i)) (.rfl _)),zT⟩)
theorem IN{t:TenR}{c:Int}:useN ⟨t.name,t.key,t.quota,t.next,t.nb,t.gb,t.ns,fun k=>F0 t.gs i ⟨(t.gs i).number,(t.gs i).mani,c⟩ k,t.nd,t.gd⟩=useN t:=by
 show Q3 t.gb t.nb+X6 (F0 t.gs i ⟨(t.gs i).number,(t.gs i).mani,c⟩) t.ns=_
 rw[Xi];rfl
theorem Bd{n:Nat}{g:Nat->Snp}{a c:Int}(h:∀j,j<n->S7 (g j).mani=true):∀j,j<n->S7 (F0 g i ⟨a,(g i).mani,c⟩ j).mani=true:=fun j hj=>by
 by_cases e:j=i
 ·subst e;rw[CB];exact h j hj
 rw[CC e];exact h j hj
theorem Be{g:Nat->Snp}{a:Int}{m:Mani}{c:Int}:VEn (A1 [.i .i64 a,f8 m,.i .i64 c]).strip (C9 (F0 g i ⟨a,m,c⟩ i)):=by
 rw[show F0 g i ⟨a,m,c⟩ i=⟨a,m,c⟩ by unfold F0;rw[P6];rfl];exact lC
theorem OU{l:List α}{d:α}(h:k<l.length):l.getD k d∈l:=by rw[l6,B6 h];exact eG h
theorem aJ{e:α->V}{g:Nat->α}{x:α}:∀j,j≠i->e (F0 g i x j)=e (g j):=fun j h=>by unfold F0;rw[GV h];rfl
theorem Xr(s:StaR)(o:OpT)(t:TenR)(m:Int)(n:Nat)(tg:Nat->TenR)(i0:Nat)(hB:TB t)(hO:OB o):SatHM Tryz.prog true 76 [.pr 2 0 []] [4,5,6,7,8,9] (t6 s o m n tg i0 t) (fun out ho A0=>∃c b t2,out=A1 [.i .i64 c,.bl 0 b]/\ho=hA s o m n tg i0 (tN 7 16 9 t2) [(7,rB t2),(8,.un),(9,rD t2),(16,E1 t2)]/\A0=[4,5,6]/\MP 0 o t t2 c/\(c=200\/b=[])/\b.length<=3000000000/\(o.do≠7->o.do≠8->t2=t)):=by
 refine fH true Tryz.func76 fun X0 w0 hX hm=>?_
 have hb:=hO.hb
 have P8:=hB.nb
 have U5:=hB.ns
 have z6:=hB.nd
 have hs:=hB.ls
 have hM:=hB.mm
 have Z6:=hB.db
 refine mV 8 ?_;refine cC (i0=i0) ?_;refine S0 (SatM.weak (ins':=[.sl 0 36 t.ns fun i=>C9 (t.gs i),mY 122 [.pz (fP s o m n tg i0 t)]]) (Tr t.ns t.gs bd s o t m) ⟨VA.rfl,(VA.fn1 (VA.pz Xf)),zT⟩) ?_;rintro out A0 ⟨rfl,⟨E4,rfl,hij0,hik0⟩⟩
 refine⟨rfl,?_⟩
 refine cB (E4<0) ?_ ?_<;>intro h1
 ·refine cQ [] (E6 404) ?_
  exact xW hX (A1 [.i .i64 404,.bl 0 []]) ⟨_,_,⟨t.name,t.key,t.quota,t.next,t.nb,t.gb,t.ns,t.gs,t.nd,t.gd⟩,rfl,rfl,rfl,.rfl,.inr rfl,bd,by first|exact fun _ _=>rfl|(intro _ _;contradiction)⟩ (hH:=⟨v0,v0,v0,v0,v0,v0,v0,v0,(vT (u:=E1 t) (.rfl _)),zT⟩)
 have hl:=hs (E4).toNat zO
 refine cC (i0=i0) ?_;refine cC ((0:Int)<=E4/\E4<(t.ns:Int)) ?_;refine gR 16 (E1 t) (.fo 36 (E1 t) ((E4).toNat) (C9 (t.gs (E4).toNat))) (aG zO rfl) ?_;refine cB (o.do=5) ?_ ?_<;>intro h2
 ·refine cC ((E4).toNat=(E4).toNat) ?_
  refine cK [] (XL ((t.gs (E4).toNat).mani) bd) ?_;rintro out A0 ⟨sb1,se1,rfl,rfl,hsb1⟩
  refine cQ [] (kZ sb1) ?_;refine gR 16 (.fo 36 (E1 t) ((E4).toNat) (C9 (t.gs (E4).toNat))) (E1 t) (T8 lC (fun _ _=>rfl) rfl) ?_;exact xW hX (A1 [.i .i64 200,.bl 0 sb1]) ⟨_,_,⟨t.name,t.key,t.quota,t.next,t.nb,t.gb,t.ns,t.gs,t.nd,t.gd⟩,rfl,rfl,rfl,.rfl,.inl rfl,bd,by first|exact fun _ _=>rfl|(intro _ _;contradiction)⟩ (hH:=⟨v0,v0,v0,v0,v0,v0,v0,v0,(vT (u:=E1 t) (.rfl _)),zT⟩)
 refine cB (o.do=7) ?_ ?_<;>intro h3
 ·refine cC ((E4).toNat=(E4).toNat) ?_
  refine cB ((t.gs (E4).toNat).doom=0) ?_ ?_<;>intro h4
  ·refine gR 16 (.fo 36 (E1 t) ((E4).toNat) (C9 (t.gs (E4).toNat))) (E1 t) (T8 lC (fun _ _=>rfl) rfl) ?_
   refine kW (SatM.weak (ins':=[fP s o m n tg i0 t]) (NY s o t m) ⟨lB,zT⟩) ?_;refine gR 16 (E1 t) (.fo 36 (E1 t) ((E4).toNat) (C9 (t.gs (E4).toNat))) (aG zO rfl) ?_;refine cC ((E4).toNat=(E4).toNat) ?_;refine cC ((E4).toNat=(E4).toNat) ?_;refine cK [] (yQ 200 (fL s.delay o.now)) ?_;rintro out A0 ⟨nb2,rfl,rfl,hnb2⟩
   refine gR 16 (.fo 36 (E1 t) ((E4).toNat) (A1 [.i .i64 ((t.gs (E4).toNat).number),f8 ((t.gs (E4).toNat).mani),.i .i64 (fL s.delay o.now)])) (.ar 36 t.ns fun i=>C9 (F0 t.gs (E4).toNat ⟨(t.gs (E4).toNat).number,((t.gs (E4).toNat).mani),(fL s.delay o.now)⟩ i)) (T8 Be aJ rfl) ?_;exact xW hX (A1 [.i .i64 200,.bl 0 nb2]) ⟨_,_,⟨t.name,t.key,t.quota,t.next,t.nb,t.gb,t.ns,(fun i=>(F0 t.gs (E4).toNat ⟨(t.gs (E4).toNat).number,((t.gs (E4).toNat).mani),(fL s.delay o.now)⟩ i)),t.nd,t.gd⟩,rfl,rfl,rfl,.of (.inl rfl) (fun h=>⟨h.nb,h.ns,h.nd,h.db,fun j hj=>Ba (p:=fun x:Snp=>x.mani.label.length<=5000) h.ls (by exact hl) j hj,h.asc,Bd h.mm,by rw[IN];exact h.us⟩) (.same rfl IN (.inr (by decide))),.inl rfl,bd,by first|exact fun _ _=>rfl|(intro _ _;contradiction)⟩ (hH:=⟨v0,v0,v0,v0,v0,v0,v0,v0,(vT (u:=.ar 36 t.ns fun i=>C9 (F0 t.gs (E4).toNat ⟨(t.gs (E4).toNat).number,((t.gs (E4).toNat).mani),(fL s.delay o.now)⟩ i)) (.rfl _)),zT⟩)
  refine cC ((E4).toNat=(E4).toNat) ?_
  refine cK [] (yQ 200 ((t.gs (E4).toNat).doom)) ?_;rintro out A0 ⟨nb3,rfl,rfl,hnb3⟩
  refine gR 16 (.fo 36 (E1 t) ((E4).toNat) (C9 (t.gs (E4).toNat))) (E1 t) (T8 lC (fun _ _=>rfl) rfl) ?_;exact xW hX (A1 [.i .i64 200,.bl 0 nb3]) ⟨_,_,⟨t.name,t.key,t.quota,t.next,t.nb,t.gb,t.ns,t.gs,t.nd,t.gd⟩,rfl,rfl,rfl,.rfl,.inl rfl,bd,by first|exact fun _ _=>rfl|(intro _ _;contradiction)⟩ (hH:=⟨v0,v0,v0,v0,v0,v0,v0,v0,(vT (u:=E1 t) (.rfl _)),zT⟩)
 refine cB (o.do=8) ?_ ?_<;>intro h5
 ·refine cC ((E4).toNat=(E4).toNat) ?_
  refine cQ [] (E6 200) ?_;refine gR 16 (.fo 36 (E1 t) ((E4).toNat) (A1 [.i .i64 ((t.gs (E4).toNat).number),f8 ((t.gs (E4).toNat).mani),.i .i64 0])) (.ar 36 t.ns fun i=>C9 (F0 t.gs (E4).toNat ⟨(t.gs (E4).toNat).number,((t.gs (E4).toNat).mani),0⟩ i)) (T8 Be aJ rfl) ?_;exact xW hX (A1 [.i .i64 200,.bl 0 []]) ⟨_,_,⟨t.name,t.key,t.quota,t.next,t.nb,t.gb,t.ns,(fun i=>(F0 t.gs (E4).toNat ⟨(t.gs (E4).toNat).number,((t.gs (E4).toNat).mani),0⟩ i)),t.nd,t.gd⟩,rfl,rfl,rfl,.of (.inl rfl) (fun h=>⟨h.nb,h.ns,h.nd,h.db,fun j hj=>Ba (p:=fun x:Snp=>x.mani.label.length<=5000) h.ls (by exact hl) j hj,h.asc,Bd h.mm,by rw[IN];exact h.us⟩) (.same rfl IN (.inr (by decide))),.inl rfl,bd,by first|exact fun _ _=>rfl|(intro _ _;contradiction)⟩ (hH:=⟨v0,v0,v0,v0,v0,v0,v0,v0,(vT (u:=.ar 36 t.ns fun i=>C9 (F0 t.gs (E4).toNat ⟨(t.gs (E4).toNat).number,((t.gs (E4).toNat).mani),0⟩ i)) (.rfl _)),zT⟩)
 refine gR 16 (.fo 36 (E1 t) ((E4).toNat) (C9 (t.gs (E4).toNat))) (E1 t) (T8 lC (fun _ _=>rfl) rfl) ?_
 refine jA 2 6736 (fun(p:(List Fil)×Int)=>[(2,.pr 144 0 []),(7,B3 4000 3 O6 p.1),(8,.i .i64 p.2)]) (fun(p:(List Fil)×Int)=>[(144,A1 [.i .i64 0,.bl 1 []]),(2,wN (.pr 4 0 [.e i0 38 n]) o m),(3,sN 4 5 6 s),(5,rR s),(6,rL s),(4,fN n tg i0 (tN 7 16 9 t)),(7,rB t),(9,rD t),(16,E1 t),(8,.un)]) (fun(p:(List Fil)×Int)=>p.1.length<=1024/\FOk p.1) [4,5,6,7,9,16,4000] (fun R hR i hi=>?_) ?_
 ·match i,hi with
 |0,_=>
   refine kH [(2,2),(3,3),(4,4),(5,5),(6,6),(7,7),(16,8),(9,9)] [2,3,4,5,6,7,16,9] (CO s o t m n tg i0 bc) ?_;rintro out ho A0 ⟨rfl,rfl,rfl⟩
   refine gR 16 (E1 t) (.fo 36 (E1 t) ((E4).toNat) (C9 (t.gs (E4).toNat))) (aG zO rfl) ?_;refine cC ((E4).toNat=(E4).toNat) ?_;refine gR 16 (.fo 36 (E1 t) ((E4).toNat) (C9 (t.gs (E4).toNat))) (E1 t) (T8 lC (fun _ _=>rfl) rfl) ?_;refine kM (fun _=>hm rfl) [] (Ak t.nb t.gb (((t.gs (E4).toNat).mani).root) zO hB.db) ?_;rintro out ho A0 ⟨fl5,fe5,rfl,rfl,hfl5,hfk5,rfl⟩
   exact cA hX (hR (fl5,fe5) ⟨by assumption,by assumption⟩)
 |1,_=>
   refine gR 16 (E1 t) (.fo 36 (E1 t) ((E4).toNat) (C9 (t.gs (E4).toNat))) (aG zO rfl) ?_;refine cC ((E4).toNat=(E4).toNat) ?_;refine gR 16 (.fo 36 (E1 t) ((E4).toNat) (C9 (t.gs (E4).toNat))) (E1 t) (T8 lC (fun _ _=>rfl) rfl) ?_;refine kH [(2,2),(3,3),(4,4),(5,5),(6,6),(7,7),(16,8),(9,9)] [2,3,4,5,6,7,16,9] (CO s o t m n tg i0 bc) ?_;rintro out ho A0 ⟨rfl,rfl,rfl⟩
   refine kM (fun _=>hm rfl) [] (Ak t.nb t.gb (((t.gs (E4).toNat).mani).root) zO hB.db) ?_;rintro out ho A0 ⟨fl7,fe7,rfl,rfl,hfl7,hfk7,rfl⟩
   exact cA hX (hR (fl7,fe7) ⟨by assumption,by assumption⟩)
 rintro⟨fl,fe⟩ hI
 dsimp only at hI
 have bY:=hI.2
 have dG:=hI.1
 refine cK [] ((VU [] (u64.wrap (fl.length:Int)) bd).full (ins':=[.bl 1 [],.i .u64 (u64.wrap (fl.length:Int))])) ?_;rintro out A0 ⟨l8,rfl,rfl,hl8⟩
 refine cM hX (fun(p:Nat×By)=>[(2,.pr 144 0 []),(9,.bl 24 p.2),(89,B3 4000 3 O6 fl),(90,.i .i64 (fl.length:Int)),(91,.i .i64 (p.1:Int))]) (fun(p:Nat×By)=>[(144,A1 [.i .i64 0,.bl 1 []]),(2,wN (.pr 4 0 [.e i0 38 n]) o m),(3,sN 4 5 6 s),(5,rR s),(6,rL s),(4,fN n tg i0 (tN 7 16 9 t)),(7,rB t),(9,rD t),(16,E1 t)]) (fun(p:Nat×By)=>p.1<=fl.length/\p.2.length<=20+1300000*p.1) (fun(p:Nat×By)=>fl.length-p.1) [4,5,6,7,9,16,24,4000] 7248 (0,l8) ⟨by simp,bd⟩ ?_;rintro⟨k,b⟩ hI R hR
 dsimp only at hI
 refine cB ((k:Int)<(fl.length:Int)) ?_ ?_<;>intro h6
 ·have hk:=bY _ (OU (d:=default) (by omega:k<fl.length))
  refine cC ((0:Int)<=(k:Int)/\(k:Int)<(fl.length:Int)) ?_;refine cb ((fl.getD k default).dir) ?_ ?_<;>intro h7
  ·refine cC ((b.length+[1].length)*1<=140737488355328) ?_ bd
   refine cK [] (uE (b++[1]) ((fl.getD k default).path) bd bd) ?_;rintro out A0 ⟨xl9,xe9,rfl,rfl,hx9,hy9⟩
   refine cK [] (uE xl9 ((fl.getD k default).data) bd bd) ?_;rintro out A0 ⟨xl10,xe10,rfl,rfl,hx10,hy10⟩
   exact cA hX (hR (k+1,xl10) ⟨bd,bd⟩ (by dsimp only;omega)) (hS:=⟨v0,v0,v0,v0,(vS bd),zT⟩)
  refine cC ((b.length+[0].length)*1<=140737488355328) ?_ bd
  refine cK [] (uE (b++[0]) ((fl.getD k default).path) bd bd) ?_;rintro out A0 ⟨xl11,xe11,rfl,rfl,hx11,hy11⟩
  refine cK [] (uE xl11 ((fl.getD k default).data) bd bd) ?_;rintro out A0 ⟨xl12,xe12,rfl,rfl,hx12,hy12⟩
  exact cA hX (hR (k+1,xl12) ⟨bd,bd⟩ (by dsimp only;omega)) (hS:=⟨v0,v0,v0,v0,(vS bd),zT⟩)
 refine cQ [] (kZ b) ?_
 exact xW hX (A1 [.i .i64 200,.bl 0 b]) ⟨_,_,⟨t.name,t.key,t.quota,t.next,t.nb,t.gb,t.ns,t.gs,t.nd,t.gd⟩,rfl,rfl,rfl,.rfl,.inl rfl,bd,by first|exact fun _ _=>rfl|(intro _ _;contradiction)⟩ (hH:=⟨v0,v0,v0,v0,v0,v0,v0,v0,(vT (u:=E1 t) (.rfl _)),zT⟩)
structure SnI (t:TenR) (now:Int) (k c a:Nat) (g:Nat->Snp):Prop where
 ak:a<=k
 ls:∀j,j<a->(g j).mani.label.length<=5000
 c4:c<=4
 mm:∀j,j<a->S7 (g j).mani=true
 us:X6 g a<=X6 t.gs k
theorem SnI.z{t:TenR}{g:Nat->Snp}:SnI t now 0 0 0 g:=⟨B2 _,fun j h=>absurd h (S4 _),by decide,fun j h=>absurd h (S4 _),B2 _⟩
theorem SnI.gone{t:TenR}{a:Nat}{g:Nat->Snp}(h:SnI t now k c a g)(hc:c<4):SnI t now (k+1) (c+1) a g:=⟨by have:=h.ak;omega,h.ls,hc,h.mm,by rw[CE];have:=h.us;omega⟩
theorem SnI.stay{t:TenR}{a:Nat}{g:Nat->Snp}(h:SnI t now k c a g)(hl:(t.gs k).mani.label.length<=5000)(hm:S7 (t.gs k).mani=true):SnI t now (k+1) c (a+1) (J1 a g (t.gs k)):=⟨by have:=h.ak;omega,nH (p:=fun x:Snp=>x.mani.label.length<=5000) h.ls hl,h.c4,nH (p:=fun x:Snp=>S7 x.mani=true) h.mm hm,by rw[Ax,CE];have:=h.us;omega⟩
structure BlI (t:TenR) (now:Int) (c e b:Nat) (gb:Nat->Obj) (d:Nat) (gd:Nat->Doo):Prop where
 bb:b<=t.nb
 dd:d<=t.nd
 e4:e<=4
 db:∀j,j<b->(gb j).data.length<=100000
 asc:AscK Doo.of d gd
 us:Q3 gb b<=Q3 t.gb t.nb
theorem BlI.z{t:TenR}(h:TB t)(hc:c<=4):BlI t now c c t.nb t.gb t.nd t.gd:=⟨B2 _,B2 _,hc,h.db,h.asc,B2 _⟩
theorem BlI.sp{t:TenR}{e b d d2:Nat}{gb:Nat->Obj}{gd gd2:Nat->Doo}(h:BlI t now c e b gb d gd)(hd:d2<=d)(ha:AscK Doo.of d gd->AscK Doo.of d2 gd2):BlI t now c e b gb d2 gd2:=⟨h.bb,J2 hd h.dd,h.e4,h.db,ha h.asc,h.us⟩
theorem BlI.up{t:TenR}{e b d:Nat}{gb:Nat->Obj}{gd:Nat->Doo}(h:BlI t now c e b gb d gd)(he:e<4):BlI t now c (e+1) b gb d gd:=⟨h.bb,h.dd,he,h.db,h.asc,h.us⟩
theorem BlI.del{t:TenR}{e b d:Nat}{gb:Nat->Obj}{gd:Nat->Doo}(h:BlI t now c e b gb d gd)(he:e<4)(hj:j<b):BlI t now c (e+1) (b-1) (bJ gb j) d gd:=⟨by have:=h.bb;omega,h.dd,he,Xk (p:=fun x:Obj=>x.data.length<=100000) h.db,h.asc,J2 (Xh hj) h.us⟩
theorem Bf{t:TenR}{e a b d:Nat}{g:Nat->Snp}{gb:Nat->Obj}{gd:Nat->Doo}(hs:SnI t now t.ns c a g)(hb:BlI t now c e b gb d gd):useN ⟨t.name,t.key,t.quota,t.next,b,gb,a,g,d,gd⟩<=useN t:=Nat.add_le_add hb.us hs.us
theorem UsP.swp{o:OpT}{t:TenR}{e a b d:Nat}{g:Nat->Snp}{gb:Nat->Obj}{gd:Nat->Doo}(hs:SnI t now t.ns c a g)(hb:BlI t now c e b gb d gd):UsP 2 o 200 t ⟨t.name,t.key,t.quota,t.next,b,gb,a,g,d,gd⟩:=⟨Eq.refl _,fun h=>absurd h (by decide),fun h=>absurd h (by decide),fun _=>Bf hs hb⟩
theorem TB.swp{t:TenR}{e a b d:Nat}{g:Nat->Snp}{gb:Nat->Obj}{gd:Nat->Doo}(hs:SnI t now t.ns c a g)(hb:BlI t now c e b gb d gd)(h:TB t):TB ⟨t.name,t.key,t.quota,t.next,b,gb,a,g,d,gd⟩:=
 ⟨J2 hb.bb h.nb,J2 hs.ak h.ns,J2 hb.dd h.nd,hb.db,hs.ls,hb.asc,hs.mm,Int.le_trans (Int.ofNat_le.2 (Bf hs hb)) h.us⟩
theorem AscK.insB{n:Nat}{g:Nat->Doo}{x:By}{q:Int}{p:Bool}(h:AscK Doo.of n g)(hb:BsP n (fun k=>Lib.compareBytes (g k).of x) j p)(hp:p=false):AscK Doo.of (n+1) (Q2 g j ⟨x,q⟩):=by
 subst hp
 exact h.ins (x:=⟨x,q⟩) hb.le (h.at hb).1 (h.at hb).2
theorem Xs{z:Nat}{e:α->V}{g:Nat->α}{g':Nat->V}:VEq (.ar z 0 g') (.ar z 0 fun k=>e (g k)):=.an _ _ _ _ fun k hk=>absurd hk (S4 k)
theorem Xt(s:StaR)(o:OpT)(t:TenR)(m:Int)(n:Nat)(tg:Nat->TenR)(i0:Nat)(hB:TB t)(hO:OB o):SatHM Tryz.prog false 83 [.pr 2 0 []] [4,5,6,7,8,9] (t6 s o m n tg i0 t) (fun out ho A0=>∃c b t2,out=A1 [.i .i64 c,.bl 0 b]/\ho=hA s o m n tg i0 (tN 7 8 16 t2) [(7,rB t2),(8,E1 t2),(9,.un),(16,rD t2)]/\A0=[4,5,6]/\MP 0 o t t2 c/\c=200/\b.length<=21):=by
 refine fH false Tryz.func83 fun X0 w0 hX hm=>?_
 have hb:=hO.hb
 have P8:=hB.nb
 have U5:=hB.ns
 have z6:=hB.nd
 have hs:=hB.ls
 have hM:=hB.mm
 have Z6:=hB.db
 refine mV 9 ?_;refine kH [(2,2),(3,3),(4,4),(5,5),(6,6),(7,7),(8,8),(16,9)] [2,3,4,5,6,7,8,16] (CO s o t m n tg i0 bc) ?_;rintro out ho A0 ⟨rfl,rfl,rfl⟩
 refine kH [(2,2),(3,3),(4,4),(5,5),(6,6),(7,7),(8,8),(16,9)] [2,3,4,5,6,7,8,16] (Bc s o t m n tg i0 bc) ?_;rintro out ho A0 ⟨rfl,rfl,rfl⟩
 refine cK [] (Wy t.nb t.ns t.gb (fun i=>(t.gs i).mani.root) bd bd hB.db) ?_;rintro out A0 ⟨rl,rfl,rfl,rN,hrk⟩
 refine cM hX (fun(p:Nat×Nat×(Nat->Doo)×Int)=>[(0,.pr 2 0 []),(2,.pr 80 0 []),(3,.i .i64 p.2.2.2),(12,B3 466 32 eI rl),(13,.i .i64 (rl.length:Int)),(14,.i .i64 (p.1:Int))]) (fun(p:Nat×Nat×(Nat->Doo)×Int)=>[(2,wN (.pr 4 0 [.e i0 38 n]) o m),(3,sN 4 5 6 s),(5,rR s),(6,rL s),(4,fN n tg i0 (tN 7 8 16 t)),(7,rB t),(8,E1 t),(16,.ar 33 p.2.1 fun i=>E0 (p.2.2.1 i)),(80,A1 [.i .i64 0,.bl 1 []])]) (fun(p:Nat×Nat×(Nat->Doo)×Int)=>p.1<=rl.length/\p.2.1<=65536/\(AscK Doo.of t.nd t.gd->AscK Doo.of p.2.1 p.2.2.1)) (fun(p:Nat×Nat×(Nat->Doo)×Int)=>rl.length-p.1) [4,5,6,7,8,16,466] 656 (0,t.nd,t.gd,0) ⟨by simp,z6,id⟩ ?_;rintro⟨k,d,g,c⟩ hI R hR
 dsimp only at hI
 refine cB ((k:Int)<(rl.length:Int)) ?_ ?_<;>intro h1
 ·refine cC ((0:Int)<=(k:Int)/\(k:Int)<(rl.length:Int)) ?_
  refine S0 (SatM.weak (ins':=[fP s o m n tg i0 (⟨t.name,t.key,t.quota,t.next,t.nb,t.gb,t.ns,t.gs,d,g⟩),.bs 32 (rl.getD k default)]) (YM s o (⟨t.name,t.key,t.quota,t.next,t.nb,t.gb,t.ns,t.gs,d,g⟩) m (rl.getD k default) bd) ⟨lB,VA.rfl,zT⟩) ?_;rintro out A0 ⟨rfl,⟨bj3,bp3,rfl,hbj3,hbp3⟩⟩
  dsimp only at hbj3 hbp3
  refine⟨rfl,?_⟩
  refine cb (bp3) ?_ ?_<;>intro h2
  ·exact cA hX (hR (k+1,d,g,c) ⟨bd,by dsimp only;omega,hI.2.2⟩ (by dsimp only;omega)) (hS:=⟨v0,v0,v0,v0,v0,(vS bd),zT⟩)
  refine cC (i0=i0) ?_
  refine cB (64<=(d:Int)) ?_ ?_<;>intro h3
  ·exact cA (R:=R) hX (hR (k+1,d,g,c) ⟨bd,by dsimp only;omega,hI.2.2⟩ (by dsimp only;omega)) (hS:=⟨v0,v0,v0,v0,v0,(vS bd),zT⟩) (hH:=⟨v0,v0,v0,v0,v0,v0,v0,v0,v0,zT⟩)
  refine cC (i0=i0) ?_
  refine jA 2 7696 (fun(u:Unit)=>[(0,.pr 2 0 []),(2,.pr 80 0 []),(3,.i .i64 c),(12,B3 466 32 eI rl),(13,.i .i64 (rl.length:Int)),(14,.i .i64 (k:Int))]) (fun(u:Unit)=>[(2,wN (.pr 4 0 [.e i0 38 n]) o m),(3,sN 4 5 6 s),(5,rR s),(6,rL s),(4,fN n tg i0 (tN 7 8 3360 t)),(7,rB t),(8,E1 t),(3360,.ar 33 (d+1) fun i=>U0 (fun i=>E0 (g i)) bj3 (A1 [.bs 32 (rl.getD k default),.i .i64 (fL s.delay o.now)]) i),(80,A1 [.i .i64 0,.bl 1 []]),(9,.un)]) (fun(u:Unit)=>True) [4,5,6,7,8,466,3360] (fun R hR i hi=>?_) ?_
  ·match i,hi with
  |0,_=>
    refine kW (SatM.weak (ins':=[fP s o m n tg i0 (⟨t.name,t.key,t.quota,t.next,t.nb,t.gb,t.ns,t.gs,d,g⟩)]) (NY s o (⟨t.name,t.key,t.quota,t.next,t.nb,t.gb,t.ns,t.gs,d,g⟩) m) ⟨lB,zT⟩) ?_;refine kH [(16,2)] [16] (OG d bj3 (fun i=>E0 (g i)) (A1 [.bs 32 (rl.getD k default),.i .i64 (fL s.delay o.now)]) bd bd rfl) ?_;rintro out ho A0 ⟨rfl,rfl,rfl⟩
    refine cC (i0=i0) ?_;exact cA hX (hR () zT)
  |1,_=>
    refine kW (SatM.weak (ins':=[fP s o m n tg i0 (⟨t.name,t.key,t.quota,t.next,t.nb,t.gb,t.ns,t.gs,d,g⟩)]) (NY s o (⟨t.name,t.key,t.quota,t.next,t.nb,t.gb,t.ns,t.gs,d,g⟩) m) ⟨lB,zT⟩) ?_;refine L6 2 zK fun i hi=>?_
    match i,hi with
   |0,_=>
     refine kH [(16,2)] [16] (OG d bj3 (fun i=>E0 (g i)) (A1 [.bs 32 (rl.getD k default),.i .i64 (fL s.delay o.now)]) bd bd rfl) ?_;rintro out ho A0 ⟨rfl,rfl,rfl⟩
     refine cC (i0=i0) ?_;exact cA hX (hR () zT)
   |1,_=>
     refine L6 2 zK fun i hi=>?_
     match i,hi with
    |0,_|1,_=>
      refine kH [(16,2)] [16] (OG d bj3 (fun i=>E0 (g i)) (A1 [.bs 32 (rl.getD k default),.i .i64 (fL s.delay o.now)]) bd bd rfl) ?_;rintro out ho A0 ⟨rfl,rfl,rfl⟩
      refine cC (i0=i0) ?_;exact cA hX (hR () zT)
  rintro u hJ
  exact cA hX (hR (k+1,(d+1),(Q2 g bj3 ⟨(rl.getD k default),(fL s.delay o.now)⟩),(i64.wrap (c+1))) ⟨bd,by dsimp only;omega,fun h=>(hI.2.2 h).insB hbp3 (by assumption)⟩ (by dsimp only;omega)) (hS:=⟨v0,v0,v0,v0,v0,(vS bd),zT⟩) (hH:=⟨v0,v0,v0,v0,v0,v0,v0,(vT CM),v0,zT⟩)
 refine cK [] (yQ 200 c) ?_
 rintro out A0 ⟨nb4,rfl,rfl,hnb4⟩
 exact xW hX (A1 [.i .i64 200,.bl 0 nb4]) ⟨_,_,⟨t.name,t.key,t.quota,t.next,t.nb,t.gb,t.ns,t.gs,d,g⟩,rfl,rfl,rfl,.of (.inl rfl) (fun h=>⟨h.nb,h.ns,by dsimp only;omega,h.db,h.ls,hI.2.2 h.asc,h.mm,h.us⟩) .doo,rfl,bd⟩ (hH:=⟨v0,v0,v0,v0,v0,v0,v0,v0,(vT (u:=.ar 33 d fun i=>E0 (g i)) (.rfl _)),zT⟩)
theorem Xu(s:StaR)(o:OpT)(t:TenR)(m:Int)(n:Nat)(tg:Nat->TenR)(i0:Nat)(hB:TB t)(hO:OB o):SatHM Tryz.prog true 84 [.pr 2 0 []] [4,5,6,7,8,9] (t6 s o m n tg i0 t) (fun out ho A0=>∃c b t2,out=A1 [.i .i64 c,.bl 0 b]/\ho=hA s o m n tg i0 (tN 16 17 18 t2) [(7,.un),(8,.un),(9,.un),(16,rB t2),(17,E1 t2),(18,rD t2)]/\A0=[4,5,6]/\MP 2 o t t2 c/\c=200/\b.length<=21):=by
 refine fH true Tryz.func84 fun X0 w0 hX hm=>?_
 have hb:=hO.hb
 have P8:=hB.nb
 have U5:=hB.ns
 have z6:=hB.nd
 have hs:=hB.ls
 have hM:=hB.mm
 have Z6:=hB.db
 refine mV 7 ?_;refine mV 8 ?_;refine mV 9 ?_;refine cC (i0=i0) ?_;refine gN 4 36 (fun _=>.un) (fun _=>.un) ?_;refine cM hX (fun(p:Nat×Nat×Nat×(Nat->Snp))=>[(0,.pr 2 0 []),(2,.pr 208 0 []),(3,.i .i64 (p.2.1:Int)),(4,.os 848 36),(20,.os 80 36),(21,.i .i64 (t.ns:Int)),(22,.i .i64 (p.1:Int))]) (fun(p:Nat×Nat×Nat×(Nat->Snp))=>[(2,wN (.pr 4 0 [.e i0 38 n]) o m),(3,sN 4 5 6 s),(5,rR s),(6,rL s),(4,fN n tg i0 (tN 16 80 144 t)),(16,rB t),(144,rD t),(80,E1 t),(208,A1 [.i .i64 0,.bl 1 []]),(848,.ar 36 p.2.2.1 fun i=>C9 (p.2.2.2 i))]) (fun(p:Nat×Nat×Nat×(Nat->Snp))=>p.1<=t.ns/\SnI t o.now p.1 p.2.1 p.2.2.1 p.2.2.2) (fun(p:Nat×Nat×Nat×(Nat->Snp))=>t.ns-p.1) [4,5,6,16,80,144,848] 1040 (0,0,0,fun _=>default) ⟨by simp,.z⟩ ?_ (hH:=⟨v0,v0,v0,v0,v0,v0,v0,v0,v0,(vT (u:=.ar 36 0 fun _=>.un) Xs),zT⟩);rintro⟨k,c,a,g⟩ hI R hR
 dsimp only at hI
 have w5:=hI.2
 have hc4:=w5.c4
 have hak:=w5.ak
 refine cB ((k:Int)<(t.ns:Int)) ?_ ?_<;>intro h1
 ·refine cC ((0:Int)<=(k:Int)/\(k:Int)<(t.ns:Int)) ?_
  refine gR 80 (E1 t) (.fo 36 (E1 t) k (C9 (t.gs k))) (aG zO rfl) ?_;refine cC (k=k) ?_;refine gR 80 (.fo 36 (E1 t) k (C9 (t.gs k))) (E1 t) (T8 lC (fun _ _=>rfl) rfl) ?_;refine cB ((c:Int)<4) ?_ ?_<;>intro h2
  ·refine cB ((t.gs k).doom≠0) ?_ ?_<;>intro h3
   ·refine cB ((t.gs k).doom<=o.now) ?_ ?_<;>intro h4
    ·exact cA hX (hR (k+1,c+1,a,g) ⟨bd,hI.2.gone zO⟩ (by dsimp only;omega)) (hS:=⟨v0,v0,(vS bd),v0,v0,v0,(vS bd),zT⟩)
    refine cC ((a+1)*72<=140737488355328) ?_
    exact cA hX (hR (k+1,c,a+1,J1 a g (t.gs k)) ⟨bd,hI.2.stay (hs k zO) (hM k zO)⟩ (by dsimp only;omega)) (hS:=⟨v0,v0,v0,v0,v0,v0,(vS bd),zT⟩) (hH:=⟨v0,v0,v0,v0,v0,v0,v0,v0,v0,(vT jS),zT⟩)
   refine cC ((a+1)*72<=140737488355328) ?_
   exact cA hX (hR (k+1,c,a+1,J1 a g (t.gs k)) ⟨bd,hI.2.stay (hs k zO) (hM k zO)⟩ (by dsimp only;omega)) (hS:=⟨v0,v0,v0,v0,v0,v0,(vS bd),zT⟩) (hH:=⟨v0,v0,v0,v0,v0,v0,v0,v0,v0,(vT jS),zT⟩)
  refine cC ((a+1)*72<=140737488355328) ?_
  exact cA hX (hR (k+1,c,a+1,J1 a g (t.gs k)) ⟨bd,hI.2.stay (hs k zO) (hM k zO)⟩ (by dsimp only;omega)) (hS:=⟨v0,v0,v0,v0,v0,v0,(vS bd),zT⟩) (hH:=⟨v0,v0,v0,v0,v0,v0,v0,v0,v0,(vT jS),zT⟩)
 obtain rfl:k=t.ns:=by omega
 refine cC (i0=i0) ?_;refine MQ (t:=201) (d:=57) ⟨0,((List.range t.nb).map fun i=>(t.gb i).of)⟩ fun cD=>?_
 refine kH [(2,2),(3,3),(4,4),(5,5),(6,6),(16,7),(848,8),(144,9)] [2,3,4,5,6,16,848,144] (CO s o (⟨t.name,t.key,t.quota,t.next,t.nb,t.gb,a,g,t.nd,t.gd⟩) m n tg i0 bc) ?_;rintro out ho A0 ⟨rfl,rfl,rfl⟩
 refine kH [(2,2),(3,3),(4,4),(5,5),(6,6),(16,7),(848,8),(144,9)] [2,3,4,5,6,16,848,144] (Bc s o (⟨t.name,t.key,t.quota,t.next,t.nb,t.gb,a,g,t.nd,t.gd⟩) m n tg i0 bc) ?_;rintro out ho A0 ⟨rfl,rfl,rfl⟩
 refine cK [] (Wx t.nb a t.gb (fun i=>(g i).mani.root) bd bd hB.db) ?_;rintro out A0 ⟨rl,rfl,rfl,rN,hrk⟩
 refine cM hX (fun(k:Nat)=>[(0,.pr 2 0 []),(2,.pr 208 0 []),(3,.i .i64 (c:Int)),(7,.mp cD 0 ⟨0,((List.range t.nb).map fun i=>(t.gb i).of)⟩),(62,B3 2002 32 eI rl),(63,.i .i64 (rl.length:Int)),(64,.i .i64 (k:Int))]) (fun(k:Nat)=>[(2,wN (.pr 4 0 [.e i0 38 n]) o m),(3,sN 4 5 6 s),(5,rR s),(6,rL s),(4,fN n tg i0 (tN 16 848 144 t)),(16,rB t),(144,rD t),(848,.ar 36 a fun i=>C9 (g i)),(208,A1 [.i .i64 0,.bl 1 []])]) (fun(k:Nat)=>k<=rl.length) (fun(k:Nat)=>rl.length-k) [4,5,6,16,144,848,2002] 2192 0 (by simp) ?_;rintro k hI R hR
 refine cB ((k:Int)<(rl.length:Int)) ?_ ?_<;>intro h5
 ·refine cC ((0:Int)<=(k:Int)/\(k:Int)<(rl.length:Int)) ?_
  refine jA 2 7056 (fun(u:Unit)=>[(0,.pr 2 0 []),(2,.pr 208 0 []),(3,.i .i64 (c:Int)),(7,.mp cD 0 ⟨0,((List.range t.nb).map fun i=>(t.gb i).of)⟩),(62,B3 2002 32 eI rl),(63,.i .i64 (rl.length:Int)),(64,.i .i64 (k:Int))]) (fun(u:Unit)=>[(2,wN (.pr 4 0 [.e i0 38 n]) o m),(3,sN 4 5 6 s),(5,rR s),(6,rL s),(4,fN n tg i0 (tN 16 848 144 t)),(16,rB t),(144,rD t),(848,.ar 36 a fun i=>C9 (g i)),(208,A1 [.i .i64 0,.bl 1 []]),(7,.un),(8,.un),(9,.un)]) (fun(u:Unit)=>True) [4,5,6,16,144,848,2002] (fun R hR i hi=>?_) ?_
  ·match i,hi with
  |0,_=>
    refine mL (t:=201) (kt:=36) (et:=3) (x:=.tmp 68) (y:=.tmp 69) (ok:=false) (d:=70) cD ⟨0,((List.range t.nb).map fun i=>(t.gb i).of)⟩ (rl.getD k default) gY ?_;rintro _ mp4 ⟨mn4,rfl⟩ hmk4
    refine mE (t:=201) (kt:=36) (et:=3) (x:=.tmp 68) (y:=.tmp 69) (d:=72) cD ⟨0,((List.range t.nb).map fun i=>(t.gb i).of)⟩ (rl.getD k default) gY (hm rfl) (hrk _ (OU zO)) ?_;rintro _ ms5 ⟨mn5,rfl⟩
    refine GU (t:=201) (et:=3) (x:=.tmp 68) (y:=.tmp 73) (z:=.tmp 71) cD ⟨0,((List.range t.nb).map fun i=>(t.gb i).of)⟩ ms5 ⟨0,((List.range t.nb).map fun i=>(t.gb i).of)⟩ (.i .i64 (i64.wrap (mn4+1))) (hm rfl) rfl ?_;exact cA hX (hR () zT)
  |1,_=>
    refine mE (t:=201) (kt:=36) (et:=3) (x:=.tmp 68) (y:=.tmp 69) (d:=72) cD ⟨0,((List.range t.nb).map fun i=>(t.gb i).of)⟩ (rl.getD k default) gY (hm rfl) (hrk _ (OU zO)) ?_;rintro _ ms6 ⟨mn6,rfl⟩
    refine mL (t:=201) (kt:=36) (et:=3) (x:=.tmp 68) (y:=.tmp 69) (ok:=false) (d:=70) cD ⟨0,((List.range t.nb).map fun i=>(t.gb i).of)⟩ (rl.getD k default) gY ?_;rintro _ mp7 ⟨mn7,rfl⟩ hmk7
    refine GU (t:=201) (et:=3) (x:=.tmp 68) (y:=.tmp 73) (z:=.tmp 71) cD ⟨0,((List.range t.nb).map fun i=>(t.gb i).of)⟩ ms6 ⟨0,((List.range t.nb).map fun i=>(t.gb i).of)⟩ (.i .i64 (i64.wrap (mn7+1))) (hm rfl) rfl ?_;exact cA hX (hR () zT)
  rintro u hJ
  exact cA hX (hR (k+1) bd zO) (hS:=⟨v0,v0,v0,v0,v0,v0,(vS bd),zT⟩)
 refine cC (i0=i0) ?_
 refine kB (IM t.nd t.gd (bc)) ?_;rintro out ho A0 ⟨rfl,rfl,rfl⟩
 refine⟨⟨rfl,CN (fun k _ j hj=>match j,hj with|0,_=>trivial|1,_=>trivial)⟩,?_⟩
 refine cM hX (fun(p:Nat×Nat×Nat×(Nat->Obj)×Nat×(Nat->Doo))=>[(0,.pr 2 0 []),(2,.pr 208 0 []),(3,.i .i64 (p.2.1:Int)),(7,.mp cD 0 ⟨0,((List.range t.nb).map fun i=>(t.gb i).of)⟩),(82,.os 2720 33),(83,.i .i64 (t.nd:Int)),(84,.i .i64 (p.1:Int))]) (fun(p:Nat×Nat×Nat×(Nat->Obj)×Nat×(Nat->Doo))=>[(2,wN (.pr 4 0 [.e i0 38 n]) o m),(3,sN 4 5 6 s),(5,rR s),(6,rL s),(4,fN n tg i0 (tN 16 848 144 t)),(16,.ar 33 p.2.2.1 fun i=>C3 (p.2.2.2.1 i)),(144,.ar 33 p.2.2.2.2.1 fun i=>E0 (p.2.2.2.2.2 i)),(848,.ar 36 a fun i=>C9 (g i)),(208,A1 [.i .i64 0,.bl 1 []]),(2720,rD t)]) (fun(p:Nat×Nat×Nat×(Nat->Obj)×Nat×(Nat->Doo))=>p.1<=t.nd/\BlI t o.now c p.2.1 p.2.2.1 p.2.2.2.1 p.2.2.2.2.1 p.2.2.2.2.2) (fun(p:Nat×Nat×Nat×(Nat->Obj)×Nat×(Nat->Doo))=>t.nd-p.1) [4,5,6] 2896 (0,c,t.nb,t.gb,t.nd,t.gd) ⟨by simp,.z hB hc4⟩ ?_;rintro⟨k,e,b,gb,d,gd⟩ hI R hR
 dsimp only at hI
 have he4:=hI.2.e4
 have O3:=hI.2.bb
 have hdd:=hI.2.dd
 refine cB ((k:Int)<(t.nd:Int)) ?_ ?_<;>intro h6
 ·refine cC ((0:Int)<=(k:Int)/\(k:Int)<(t.nd:Int)) ?_
  refine gR 2720 (rD t) (.fo 33 (rD t) k (E0 (t.gd k))) (aG zO rfl) ?_;refine cC (k=k) ?_;refine gR 2720 (.fo 33 (rD t) k (E0 (t.gd k))) (rD t) (fJ rfl rfl rfl) ?_;refine cB ((e:Int)=4) ?_ ?_<;>intro h7
  ·refine cK [] (yQ 200 (e:Int)) ?_
   rintro out A0 ⟨nb8,rfl,rfl,hnb8⟩
   exact xW hX (A1 [.i .i64 200,.bl 0 nb8]) ⟨_,_,⟨t.name,t.key,t.quota,t.next,b,gb,a,g,d,gd⟩,rfl,rfl,rfl,.of (.inl rfl) (.swp w5 hI.2) (.swp w5 hI.2),rfl,bd⟩ (hH:=⟨v0,v0,v0,v0,v0,v0,v0,v0,(vT (u:=.ar 33 b fun i=>C3 (gb i)) (.rfl _)),(vT (u:=.ar 36 a fun i=>C9 (g i)) (.rfl _)),(vT (u:=.ar 33 d fun i=>E0 (gd i)) (.rfl _)),zT⟩)
  refine cB (o.now<(t.gd k).doom) ?_ ?_<;>intro h8
  ·exact cA hX (hR (k+1,e,b,gb,d,gd) ⟨bd,hI.2⟩ (by dsimp only;omega)) (hS:=⟨v0,v0,v0,v0,v0,v0,(vS bd),zT⟩)
  refine kH [(2,2),(3,3),(4,4),(5,5),(6,6),(16,7),(848,8),(144,9)] [2,3,4,5,6,16,848,144] (OT s o (⟨t.name,t.key,t.quota,t.next,b,gb,a,g,d,gd⟩) m n tg i0 ((t.gd k).of) bc) ?_
  rintro out ho A0 ⟨sd9,sg9,rfl,rfl,hsd9,hsa9⟩
  try dsimp only at hsd9 hsa9
  refine mL (t:=201) (kt:=36) (et:=3) (x:=.tmp 102) (y:=.tmp 104) (ok:=false) (d:=105) cD ⟨0,((List.range t.nb).map fun i=>(t.gb i).of)⟩ ((t.gd k).of) gY ?_;rintro _ mp10 ⟨mn10,rfl⟩ hmk10
  refine cB (mn10=0) ?_ ?_<;>intro h9
  ·refine S0 (SatM.weak (ins':=[fP s o m n tg i0 (⟨t.name,t.key,t.quota,t.next,b,gb,a,g,sd9,sg9⟩),.bs 32 ((t.gd k).of)]) (NZ s o (⟨t.name,t.key,t.quota,t.next,b,gb,a,g,sd9,sg9⟩) m ((t.gd k).of) bd) ⟨lB,VA.rfl,zT⟩) ?_
   rintro out A0 ⟨rfl,⟨bj11,bp11,rfl,hbj11,hbp11⟩⟩
   dsimp only at hbj11 hbp11
   refine⟨rfl,?_⟩
   refine cb (bp11) ?_ ?_<;>intro K0
   ·have hj:=hbp11.ok (by assumption)
    refine cC (i0=i0) ?_;refine jA 2 10320 (fun(u:Unit)=>[(0,.pr 2 0 []),(2,.pr 208 0 []),(3,.i .i64 (e:Int)),(7,.mp cD 0 ⟨0,((List.range t.nb).map fun i=>(t.gb i).of)⟩),(82,.os 2720 33),(83,.i .i64 (t.nd:Int)),(84,.i .i64 (k:Int))]) (fun(u:Unit)=>[(2,wN (.pr 4 0 [.e i0 38 n]) o m),(3,sN 4 5 6 s),(5,rR s),(6,rL s),(4,fN n tg i0 (tN 5984 848 4064 t)),(848,.ar 36 a fun i=>C9 (g i)),(4064,.ar 33 sd9 fun i=>E0 (sg9 i)),(5984,.ar 33 (b-1) fun i=>hU (fun i=>C3 (gb i)) bj11 i),(208,A1 [.i .i64 0,.bl 1 []]),(2720,rD t),(7,.un),(8,.un),(9,.un)]) (fun(u:Unit)=>True) [4,5,6] (fun R hR i hi=>?_) ?_
    ·match i,hi with
    |0,_|1,_=>
      refine kH [(16,2)] [16] (Xm [] b bj11 (fun i=>C3 (gb i)) bd bd) ?_;rintro out ho A0 ⟨rfl,rfl,rfl⟩
      refine cC (i0=i0) ?_;exact cA hX (hR () zT)
    rintro u hJ
    exact cA hX (hR (k+1,e+1,(b-1),(bJ gb bj11),sd9,sg9) ⟨bd,(hI.2.sp hsd9 hsa9).del zO hj.1⟩ (by dsimp only;omega)) (hS:=⟨v0,v0,(vS bd),v0,v0,v0,(vS bd),zT⟩) (hH:=⟨v0,v0,v0,v0,v0,(vT Au),v0,v0,v0,v0,zT⟩)
   exact cA hX (hR (k+1,e+1,b,gb,sd9,sg9) ⟨bd,(hI.2.sp hsd9 hsa9).up zO⟩ (by dsimp only;omega)) (hS:=⟨v0,v0,(vS bd),v0,v0,v0,(vS bd),zT⟩)
  exact cA hX (hR (k+1,e,b,gb,sd9,sg9) ⟨bd,(hI.2.sp hsd9 hsa9)⟩ (by dsimp only;omega)) (hS:=⟨v0,v0,v0,v0,v0,v0,(vS bd),zT⟩)
 refine cK [] (yQ 200 (e:Int)) ?_
 rintro out A0 ⟨nb12,rfl,rfl,hnb12⟩
 exact xW hX (A1 [.i .i64 200,.bl 0 nb12]) ⟨_,_,⟨t.name,t.key,t.quota,t.next,b,gb,a,g,d,gd⟩,rfl,rfl,rfl,.of (.inl rfl) (.swp w5 hI.2) (.swp w5 hI.2),rfl,bd⟩ (hH:=⟨v0,v0,v0,v0,v0,v0,v0,v0,(vT (u:=.ar 33 b fun i=>C3 (gb i)) (.rfl _)),(vT (u:=.ar 36 a fun i=>C9 (g i)) (.rfl _)),(vT (u:=.ar 33 d fun i=>E0 (gd i)) (.rfl _)),zT⟩)
theorem Bg{n:Nat}{tg:Nat->TenR}{x:TenR}(hm:m<n+1)(hi:i<=n)(hu:useN x=0):(∃k,k<n/\Q2 tg i x m=tg k)\/useN (Q2 tg i x m)=0:=by
 rcases Nat.lt_trichotomy m i with q|q|q
 ·exact .inl ⟨m,zO,uK q⟩
 ·subst q;right;rw[BZ];exact hu
 exact .inl ⟨m-1,zO,by have:=CA (g:=tg) (x:=x) (i:=i) (j:=m-1) zO;rwa [show m-1+1=m by omega]at this⟩
theorem Bh{a b:By}(h:Op.bytesLess a b=false):¬ a<b:=fun h2=>by rw[(NV a b).2 h2]at h;cases h
theorem AscK.tenI{n:Nat}{tg:Nat->TenR}{x:TenR}(h:AscK TenR.name n tg)(U4:AscK TenR.name n tg->∀j,j<n->(tg j).name≠x.name)(hk:k<=n)(hl:∀j,j<k->(tg j).name<x.name)(hg:k=n\/¬ (tg k).name<x.name):AscK TenR.name (n+1) (Q2 tg k x):=h.ins hk hl fun j h1 h2=>by
 have h3:x.name<(tg k).name:=by
  rcases hg with e|e
  ·omega
  exact Decidable.byContradiction fun e2=>U4 h k zO (List.le_antisymm (nO.1 e2) (nO.1 e))
 by_cases e:j=k
 ·rw[e];exact h3
 exact List.lt_trans h3 (h k j zO h2)
def iB(s:StaR)(o:OpT)(m:Int)(n:Nat)(tg:Nat->TenR):List (Nat×V):=[(2,wN .np o m),(3,sN 4 5 6 s),(4,rT n tg),(5,rR s),(6,rL s)]
theorem Bi{z n:Nat}{g:Nat->Int}{x:Int}:VEq (.ar z n (U0 (fun k=>.i .u64 (g k)) i (.i .u64 x))) (.ar z n fun k=>.i .u64 (Q2 g i x k)):=CM (e:=fun x=>.i .u64 x)
theorem Xv(s:StaR)(o:OpT)(t:TenR)(m:Int)(n:Nat)(tg:Nat->TenR)(i0:Nat)(hO:OB o):SatHM Tryz.prog false 81 [.pr 2 0 []] [4,5,6,7,8,9] (t6 s o m n tg i0 t) (fun out ho A0=>∃c b e,out=A1 [.i .i64 c,.bl 0 b]/\ho=[(2,wN (.pr 4 0 [.e i0 38 n]) o m),(3,sN 4 5 6 (⟨s.root,s.delay,e,s.nr,s.gr,s.nl,s.gl,s.head⟩)),(4,fN n tg i0 (tN 7 8 9 t)),(5,rR s),(6,rL s),(7,rB t),(8,E1 t),(9,rD t)]/\A0=[4,5,6]/\(c=201\/e=s.serial/\b=[])/\b.length<=20000):=by
 refine fH false Tryz.func81 fun X0 w0 hX hm=>?_
 have hn:=hO.hn
 refine cB (o.rights=0) ?_ ?_<;>intro h1
 ·refine cQ [] (E6 400) ?_
  exact xW hX (A1 [.i .i64 400,.bl 0 []]) ⟨_,_,s.serial,rfl,rfl,rfl,.inr ⟨rfl,rfl⟩,bd⟩
 refine cB (4611686018427387903<=s.serial) ?_ ?_<;>intro h2
 ·refine cQ [] (E6 507) ?_
  exact xW hX (A1 [.i .i64 507,.bl 0 []]) ⟨_,_,s.serial,rfl,rfl,rfl,.inr ⟨rfl,rfl⟩,bd⟩
 refine jA 2 9100 (fun(p:Tok×Int)=>[(0,.pr 2 0 []),(2,.pr 16 0 []),(3,.pr 9000 0 []),(4,.i .i64 p.2)]) (fun(p:Tok×Int)=>[(2,wN (.pr 4 0 [.e i0 38 n]) o m),(3,sN 4 5 6 s),(5,rR s),(6,rL s),(4,fN n tg i0 (tN 7 8 9 t)),(7,rB t),(8,E1 t),(9,rD t),(16,A1 [.i .i64 0,.bl 1 []]),(9000,G1 p.1)]) (fun(p:Tok×Int)=>p.1.tenant.length<=16/\p.1.cavs=[]) [4,5,6,7,8,9] (fun R hR i hi=>?_) ?_
 ·match i,hi with
 |0,_|1,_=>
   refine cK [] (qD (ins':=[.bs 32 s.root,A1 [.i .u64 (u64.wrap (s.serial+1)),.s o.tenant,.i .u8 o.rights,.i .i64 o.now,.i .i64 o.until,.sl 1 2 0 fun _=>.un,.bs 32 (replicate 32 0)]]) (XH s.root ⟨(u64.wrap (s.serial+1)),o.tenant,o.rights,o.now,o.until,[],(replicate 32 0)⟩ bd (by simp)) ⟨.rfl _,C4 ⟨.rfl _,.rfl _,.rfl _,.rfl _,.rfl _,eA,.rfl _,zT⟩,zT⟩) ?_;rintro out A0 ⟨rfl,⟨L3,bZ,rfl,htk0,htc0⟩⟩
   exact cA hX (hR (L3,bZ) ⟨by dsimp only at *;omega,by assumption⟩)
 rintro⟨tk,ec⟩ hI
 dsimp only at hI
 refine cK [] (XG tk bd (by rw[hI.2];exact L8 _)) ?_;rintro out A0 ⟨tb2,tf2,rfl,rfl,htb2⟩
 exact xW hX (A1 [.i .i64 201,.bl 0 tb2]) ⟨_,_,(u64.wrap (s.serial+1)),rfl,rfl,rfl,.inl rfl,bd⟩
theorem Xw(s:StaR)(o:OpT)(t:TenR)(m:Int)(n:Nat)(tg:Nat->TenR)(i0:Nat)(hr:s.nr<=100000):SatHM Tryz.prog false 82 [.pr 2 0 []] [4,5,6,7,8,9] (t6 s o m n tg i0 t) (fun out ho A0=>∃c r g,out=A1 [.i .i64 c,.bl 0 []]/\ho=[(2,wN (.pr 4 0 [.e i0 38 n]) o m),(3,sN 4 16 6 (⟨s.root,s.delay,s.serial,r,g,s.nl,s.gl,s.head⟩)),(4,fN n tg i0 (tN 7 8 9 t)),(5,.un),(6,rL s),(7,rB t),(8,E1 t),(9,rD t),(16,.ar 1 r fun i=>.i .u64 (g i))]/\A0=[4,6]/\(c=200\/r=s.nr/\g=s.gr)/\r<=100000):=by
 refine fH false Tryz.func82 fun X0 w0 hX hm=>?_
 refine mV 5 ?_;refine S0 (CD s.nr s.gr (u64.wrap o.number) bd) ?_;rintro out A0 ⟨rfl,⟨K1,dP,rfl,oL,iS⟩⟩
 refine⟨rfl,?_⟩
 refine cB ((u64.wrap o.number)=0) ?_ ?_<;>intro h1
 ·refine cQ [] (E6 409) ?_
  exact xW hX (A1 [.i .i64 409,.bl 0 []]) ⟨_,_,s.gr,rfl,rfl,rfl,.inr ⟨rfl,rfl⟩,zO⟩
 refine cB (s.serial<(u64.wrap o.number)) ?_ ?_<;>intro h2
 ·refine cQ [] (E6 404) ?_
  exact xW hX (A1 [.i .i64 404,.bl 0 []]) ⟨_,_,s.gr,rfl,rfl,rfl,.inr ⟨rfl,rfl⟩,zO⟩
 refine cb (dP) ?_ ?_<;>intro h3
 ·refine cQ [] (E6 200) ?_
  exact xW hX (A1 [.i .i64 200,.bl 0 []]) ⟨_,_,s.gr,rfl,rfl,rfl,.inl rfl,zO⟩
 refine cB (256<=(s.nr:Int)) ?_ ?_<;>intro h4
 ·refine cQ [] (E6 507) ?_
  exact xW hX (A1 [.i .i64 507,.bl 0 []]) ⟨_,_,s.gr,rfl,rfl,rfl,.inr ⟨rfl,rfl⟩,zO⟩
 refine jA 2 8336 (fun(u:Unit)=>[(2,.pr 80 0 [])]) (fun(u:Unit)=>[(80,A1 [.i .i64 0,.bl 1 []]),(2,wN (.pr 4 0 [.e i0 38 n]) o m),(3,sN 4 4000 6 s),(6,rL s),(4000,.ar 1 (s.nr+1) fun i=>U0 (fun i=>.i .u64 (s.gr i)) K1 (.i .u64 (u64.wrap o.number)) i),(4,fN n tg i0 (tN 7 8 9 t)),(7,rB t),(8,E1 t),(9,rD t),(5,.un)]) (fun(u:Unit)=>True) [4,6,7,8,9,4000] (fun R hR i hi=>?_) ?_
 ·match i,hi with
 |0,_=>
   refine kH [(16,2)] [16] (IA s.nr K1 (fun i=>.i .u64 (s.gr i)) (.i .u64 (u64.wrap o.number)) bd bd rfl) ?_;rintro out ho A0 ⟨rfl,rfl,rfl⟩
   exact cA hX (hR () zT)
 |1,_=>
   refine L6 2 zK fun i hi=>?_
   match i,hi with
  |0,_|1,_=>
    refine kH [(16,2)] [16] (IA s.nr K1 (fun i=>.i .u64 (s.gr i)) (.i .u64 (u64.wrap o.number)) bd bd rfl) ?_;rintro out ho A0 ⟨rfl,rfl,rfl⟩
    exact cA hX (hR () zT)
 rintro u hJ
 refine cQ [] (E6 200) ?_;exact xW hX (A1 [.i .i64 200,.bl 0 []]) ⟨_,_,(Q2 s.gr K1 (u64.wrap o.number)),rfl,rfl,rfl,.inl rfl,zO⟩ (hH:=⟨v0,v0,v0,v0,v0,v0,v0,v0,(vT (u:=.ar 1 (s.nr+1) fun i=>U0 (fun i=>.i .u64 (s.gr i)) K1 (.i .u64 (u64.wrap o.number)) i) (Bi)),zT⟩)
theorem Xx(s:StaR)(o:OpT)(m:Int)(n:Nat)(tg:Nat->TenR)(hO:OB o):SatHM Tryz.prog false 81 [.pr 2 0 []] [4,5,6] (iB s o m n tg) (fun out ho A0=>∃c b e,out=A1 [.i .i64 c,.bl 0 b]/\ho=[(2,wN .np o m),(3,sN 4 5 6 (⟨s.root,s.delay,e,s.nr,s.gr,s.nl,s.gl,s.head⟩)),(4,rT n tg),(5,rR s),(6,rL s)]/\A0=[4,5,6]/\(c=201\/e=s.serial/\b=[])/\b.length<=20000):=by
 refine fH false Tryz.func81 fun X0 w0 hX hm=>?_
 have hn:=hO.hn
 refine cB (o.rights=0) ?_ ?_<;>intro h1
 ·refine cQ [] (E6 400) ?_
  exact xW hX (A1 [.i .i64 400,.bl 0 []]) ⟨_,_,s.serial,rfl,rfl,rfl,.inr ⟨rfl,rfl⟩,bd⟩
 refine cB (4611686018427387903<=s.serial) ?_ ?_<;>intro h2
 ·refine cQ [] (E6 507) ?_
  exact xW hX (A1 [.i .i64 507,.bl 0 []]) ⟨_,_,s.serial,rfl,rfl,rfl,.inr ⟨rfl,rfl⟩,bd⟩
 refine jA 2 9100 (fun(p:Tok×Int)=>[(0,.pr 2 0 []),(2,.pr 16 0 []),(3,.pr 9000 0 []),(4,.i .i64 p.2)]) (fun(p:Tok×Int)=>[(2,wN .np o m),(3,sN 4 5 6 s),(4,rT n tg),(5,rR s),(6,rL s),(16,A1 [.i .i64 0,.bl 1 []]),(9000,G1 p.1)]) (fun(p:Tok×Int)=>p.1.tenant.length<=16/\p.1.cavs=[]) [4,5,6] (fun R hR i hi=>?_) ?_
 ·match i,hi with
 |0,_|1,_=>
   refine cK [] (qD (ins':=[.bs 32 s.root,A1 [.i .u64 (u64.wrap (s.serial+1)),.s o.tenant,.i .u8 o.rights,.i .i64 o.now,.i .i64 o.until,.sl 1 2 0 fun _=>.un,.bs 32 (replicate 32 0)]]) (XH s.root ⟨(u64.wrap (s.serial+1)),o.tenant,o.rights,o.now,o.until,[],(replicate 32 0)⟩ bd (by simp)) ⟨.rfl _,C4 ⟨.rfl _,.rfl _,.rfl _,.rfl _,.rfl _,eA,.rfl _,zT⟩,zT⟩) ?_;rintro out A0 ⟨rfl,⟨L3,bZ,rfl,htk0,htc0⟩⟩
   exact cA hX (hR (L3,bZ) ⟨by dsimp only at *;omega,by assumption⟩)
 rintro⟨tk,ec⟩ hI
 dsimp only at hI
 refine cK [] (XG tk bd (by rw[hI.2];exact L8 _)) ?_;rintro out A0 ⟨tb2,tf2,rfl,rfl,htb2⟩
 exact xW hX (A1 [.i .i64 201,.bl 0 tb2]) ⟨_,_,(u64.wrap (s.serial+1)),rfl,rfl,rfl,.inl rfl,bd⟩
theorem Xy(s:StaR)(o:OpT)(m:Int)(n:Nat)(tg:Nat->TenR)(hr:s.nr<=100000):SatHM Tryz.prog false 82 [.pr 2 0 []] [4,5,6] (iB s o m n tg) (fun out ho A0=>∃c r g,out=A1 [.i .i64 c,.bl 0 []]/\ho=[(2,wN .np o m),(3,sN 4 16 6 (⟨s.root,s.delay,s.serial,r,g,s.nl,s.gl,s.head⟩)),(4,rT n tg),(5,.un),(6,rL s),(16,.ar 1 r fun i=>.i .u64 (g i))]/\A0=[4,6]/\(c=200\/r=s.nr/\g=s.gr)/\r<=100000):=by
 refine fH false Tryz.func82 fun X0 w0 hX hm=>?_
 refine mV 5 ?_;refine S0 (CD s.nr s.gr (u64.wrap o.number) bd) ?_;rintro out A0 ⟨rfl,⟨K1,dP,rfl,oL,iS⟩⟩
 refine⟨rfl,?_⟩
 refine cB ((u64.wrap o.number)=0) ?_ ?_<;>intro h1
 ·refine cQ [] (E6 409) ?_
  exact xW hX (A1 [.i .i64 409,.bl 0 []]) ⟨_,_,s.gr,rfl,rfl,rfl,.inr ⟨rfl,rfl⟩,zO⟩
 refine cB (s.serial<(u64.wrap o.number)) ?_ ?_<;>intro h2
 ·refine cQ [] (E6 404) ?_
  exact xW hX (A1 [.i .i64 404,.bl 0 []]) ⟨_,_,s.gr,rfl,rfl,rfl,.inr ⟨rfl,rfl⟩,zO⟩
 refine cb (dP) ?_ ?_<;>intro h3
 ·refine cQ [] (E6 200) ?_
  exact xW hX (A1 [.i .i64 200,.bl 0 []]) ⟨_,_,s.gr,rfl,rfl,rfl,.inl rfl,zO⟩
 refine cB (256<=(s.nr:Int)) ?_ ?_<;>intro h4
 ·refine cQ [] (E6 507) ?_
  exact xW hX (A1 [.i .i64 507,.bl 0 []]) ⟨_,_,s.gr,rfl,rfl,rfl,.inr ⟨rfl,rfl⟩,zO⟩
 refine jA 2 8336 (fun(u:Unit)=>[(2,.pr 80 0 [])]) (fun(u:Unit)=>[(80,A1 [.i .i64 0,.bl 1 []]),(2,wN .np o m),(3,sN 4 4000 6 s),(4,rT n tg),(6,rL s),(4000,.ar 1 (s.nr+1) fun i=>U0 (fun i=>.i .u64 (s.gr i)) K1 (.i .u64 (u64.wrap o.number)) i),(5,.un)]) (fun(u:Unit)=>True) [4,6,4000] (fun R hR i hi=>?_) ?_
 ·match i,hi with
 |0,_=>
   refine kH [(16,2)] [16] (IA s.nr K1 (fun i=>.i .u64 (s.gr i)) (.i .u64 (u64.wrap o.number)) bd bd rfl) ?_;rintro out ho A0 ⟨rfl,rfl,rfl⟩
   exact cA hX (hR () zT)
 |1,_=>
   refine L6 2 zK fun i hi=>?_
   match i,hi with
  |0,_|1,_=>
    refine kH [(16,2)] [16] (IA s.nr K1 (fun i=>.i .u64 (s.gr i)) (.i .u64 (u64.wrap o.number)) bd bd rfl) ?_;rintro out ho A0 ⟨rfl,rfl,rfl⟩
    exact cA hX (hR () zT)
 rintro u hJ
 refine cQ [] (E6 200) ?_;exact xW hX (A1 [.i .i64 200,.bl 0 []]) ⟨_,_,(Q2 s.gr K1 (u64.wrap o.number)),rfl,rfl,rfl,.inl rfl,zO⟩ (hH:=⟨v0,v0,v0,v0,v0,(vT (u:=.ar 1 (s.nr+1) fun i=>U0 (fun i=>.i .u64 (s.gr i)) K1 (.i .u64 (u64.wrap o.number)) i) (Bi)),zT⟩)
theorem Xz(s:StaR)(o:OpT)(m:Int)(n:Nat)(tg:Nat->TenR)(hn:n<=1000)(hO:OB o)(U4:AscK TenR.name n tg->∀j,j<n->(tg j).name≠o.tenant):SatHM Tryz.prog false 79 [.pr 2 0 []] [4,5,6] (iB s o m n tg) (fun out ho A0=>∃c n2 tg2,out=A1 [.i .i64 c,.bl 0 []]/\ho=[(2,wN .np o m),(3,sN 16 5 6 s),(4,.un),(5,rR s),(6,rL s),(16,rT n2 tg2)]/\A0=[5,6]/\(c=201\/n2=n/\tg2=tg)/\(n<=1000->n2<=1000)/\((∀i,i<n->TB (tg i))->∀i,i<n2->TB (tg2 i))/\(AscK TenR.name n tg->AscK TenR.name n2 tg2)/\(∀j,j<n->∃k,k<n2/\tg2 k=tg j)/\∀m,m<n2->(∃k,k<n/\tg2 m=tg k)\/useN (tg2 m)=0):=by
 refine fH false Tryz.func79 fun X0 w0 hX hm=>?_
 have hO1:=hO.hn
 refine mV 4 ?_;refine mM fV true ?_;refine cB (32<=(n:Int)) ?_ ?_<;>intro h1
 ·refine cQ [] (E6 507) ?_
  exact xW hX (A1 [.i .i64 507,.bl 0 []]) ⟨_,_,tg,rfl,rfl,rfl,.inr ⟨rfl,rfl⟩,id,id,id,fun j hj=>⟨j,hj,rfl⟩,fun m hm=>.inl ⟨m,hm,rfl⟩⟩
 refine jA 2 6100 (fun(kh:By)=>[(0,.pr 2 0 []),(2,.pr 80 0 []),(3,.pr 6000 0 []),(1000004,A2 [])]) (fun(kh:By)=>[(2,wN .np o m),(3,sN 16 5 6 s),(5,rR s),(6,rL s),(16,rT n tg),(80,A1 [.i .i64 0,.bl 1 []]),(6000,A1 [.s o.tenant,.bs 32 kh,.i .i64 o.number,.i .i64 1,B3 0 33 C3 [],B3 0 36 C9 [],B3 0 33 E0 []]),(4,.un)]) (fun(kh:By)=>True) [5,6,16] (fun R hR i hi=>?_) ?_
 ·match i,hi with
 |0,_=>
   refine L6 2 zK fun i hi=>?_
   match i,hi with
  |0,_=>
    refine MV (t:=69) (d:=51) (x0:=.tmp 42) (x1:=.tmp 45) (x2:=.tmp 50) [116,101,110,97,110,116] o.tenant 1 3024 (.vw 2 [.f 1 1,.f 9 40] 0 32) ?_
    refine S0 (uJ ((s.root.drop 0).take 32) 0 0 3 (fun i=>[.bl 1 [116,101,110,97,110,116],.bl 0 o.tenant,.bl 0 ((o.draw.drop 0).take 32)].getD i .un) (fun i hi=>match i,hi with|0,_=>⟨_,_,rfl,bd⟩|1,_=>⟨_,_,rfl,bd⟩|2,_=>⟨_,_,rfl,bd⟩) (by decide)) ?_;rintro out A0 ⟨rfl,⟨l7,rfl⟩⟩
    refine⟨rfl,?_⟩
    refine gR 1872 (A1 [.s o.tenant,.bs 32 (replicate 32 0),.i .i64 o.number,.i .i64 1,.sl 1 33 0 fun _=>.un,.sl 1 36 0 fun _=>.un,.sl 1 33 0 fun _=>.un]) (A1 [.s o.tenant,.bs 32 (replicate 32 0),.i .i64 o.number,.i .i64 1,B3 0 33 C3 [],B3 0 36 C9 [],B3 0 33 E0 []]) (yB (C4 ⟨.rfl _,.rfl _,.rfl _,.rfl _,eA,eA,eA,zT⟩) rfl) ?_;exact cA hX (hR l7 trivial)
  |1,_=>
    refine MV (t:=69) (d:=51) (x0:=.tmp 42) (x1:=.tmp 45) (x2:=.tmp 50) [116,101,110,97,110,116] o.tenant 1 2960 (.vw 2 [.f 1 1,.f 9 40] 0 32) ?_
    refine S0 (uJ ((s.root.drop 0).take 32) 0 0 3 (fun i=>[.bl 1 [116,101,110,97,110,116],.bl 0 o.tenant,.bl 0 ((o.draw.drop 0).take 32)].getD i .un) (fun i hi=>match i,hi with|0,_=>⟨_,_,rfl,bd⟩|1,_=>⟨_,_,rfl,bd⟩|2,_=>⟨_,_,rfl,bd⟩) (by decide)) ?_;rintro out A0 ⟨rfl,⟨hm1,rfl⟩⟩
    refine⟨rfl,?_⟩
    refine gR 1872 (A1 [.s o.tenant,.bs 32 (replicate 32 0),.i .i64 o.number,.i .i64 1,.sl 1 33 0 fun _=>.un,.sl 1 36 0 fun _=>.un,.sl 1 33 0 fun _=>.un]) (A1 [.s o.tenant,.bs 32 (replicate 32 0),.i .i64 o.number,.i .i64 1,B3 0 33 C3 [],B3 0 36 C9 [],B3 0 33 E0 []]) (yB (C4 ⟨.rfl _,.rfl _,.rfl _,.rfl _,eA,eA,eA,zT⟩) rfl) ?_;exact cA hX (hR hm1 trivial)
 |1,_=>
   refine MV (t:=69) (d:=51) (x0:=.tmp 42) (x1:=.tmp 45) (x2:=.tmp 50) [116,101,110,97,110,116] o.tenant 1 2896 (.vw 2 [.f 1 1,.f 9 40] 0 32) ?_
   refine S0 (uJ ((s.root.drop 0).take 32) 0 0 3 (fun i=>[.bl 1 [116,101,110,97,110,116],.bl 0 o.tenant,.bl 0 ((o.draw.drop 0).take 32)].getD i .un) (fun i hi=>match i,hi with|0,_=>⟨_,_,rfl,bd⟩|1,_=>⟨_,_,rfl,bd⟩|2,_=>⟨_,_,rfl,bd⟩) (by decide)) ?_;rintro out A0 ⟨rfl,⟨dL,rfl⟩⟩
   refine⟨rfl,?_⟩
   refine gR 1872 (A1 [.s o.tenant,.bs 32 (replicate 32 0),.i .i64 o.number,.i .i64 1,.sl 1 33 0 fun _=>.un,.sl 1 36 0 fun _=>.un,.sl 1 33 0 fun _=>.un]) (A1 [.s o.tenant,.bs 32 (replicate 32 0),.i .i64 o.number,.i .i64 1,B3 0 33 C3 [],B3 0 36 C9 [],B3 0 33 E0 []]) (yB (C4 ⟨.rfl _,.rfl _,.rfl _,.rfl _,eA,eA,eA,zT⟩) rfl) ?_;exact cA (R:=R) hX (hR dL trivial)
 rintro kh hJ
 refine cM hX (fun(k:Nat)=>[(0,.pr 2 0 []),(2,.pr 80 0 []),(3,.pr 6000 0 []),(4,.i .i64 (k:Int)),(1000004,A2 [])]) (fun(k:Nat)=>[(2,wN .np o m),(3,sN 16 5 6 s),(5,rR s),(6,rL s),(16,rT n tg),(80,A1 [.i .i64 0,.bl 1 []]),(6000,A1 [.s o.tenant,.bs 32 kh,.i .i64 o.number,.i .i64 1,B3 0 33 C3 [],B3 0 36 C9 [],B3 0 33 E0 []])]) (fun(k:Nat)=>k<=n/\∀j,j<k->(tg j).name<o.tenant) (fun(k:Nat)=>n-k) [5,6,16] 6164 0 ⟨by simp,fun j hj=>absurd hj (S4 j)⟩ ?_;rintro k hI R hR
 refine cB ((k:Int)<(n:Int)) ?_ ?_<;>intro h2
 ·refine cC ((0:Int)<=(k:Int)/\(k:Int)<(n:Int)) ?_
  refine gR 16 (rT n tg) (.fo 38 (rT n tg) k (B4 (tg k))) (aG zO rfl) ?_;refine cC (k=k) ?_;refine gR 16 (.fo 38 (rT n tg) k (B4 (tg k))) (rT n tg) (fJ rfl rfl rfl) ?_;refine cb ((Op.bytesLess ((tg k).name) o.tenant)) ?_ ?_<;>intro h3
  ·exact cA (R:=R) hX (hR (k+1) ⟨zO,fun j hj=>(qW.1 hj).elim (hI.2 j) fun e=>by rw[e];exact(NV _ _).1 (by assumption)⟩ zO) (hS:=⟨v0,v0,v0,(vS bd),v0,zT⟩)
  refine jA 2 13076 (fun(u:Unit)=>[(2,.pr 80 0 []),(1000004,A2 [])]) (fun(u:Unit)=>[(80,A1 [.i .i64 0,.bl 1 []]),(2,wN .np o m),(3,sN 8740 5 6 s),(5,rR s),(6,rL s),(8740,.ar 38 (n+1) fun i=>U0 (fun i=>B4 (tg i)) k (A1 [.s o.tenant,.bs 32 kh,.i .i64 o.number,.i .i64 1,B3 0 33 C3 [],B3 0 36 C9 [],B3 0 33 E0 []]) i),(4,.un)]) (fun(u:Unit)=>True) [5,6,8740] (fun R hR i hi=>?_) ?_
  ·match i,hi with
  |0,_=>
    refine kH [(16,2)] [16] (HZ n k (fun i=>B4 (tg i)) (A1 [.s o.tenant,.bs 32 kh,.i .i64 o.number,.i .i64 1,B3 0 33 C3 [],B3 0 36 C9 [],B3 0 33 E0 []]) bd bd rfl) ?_;rintro out ho A0 ⟨rfl,rfl,rfl⟩
    exact cA hX (hR () zT)
  |1,_=>
    refine L6 2 zK fun i hi=>?_
    match i,hi with
   |0,_|1,_=>
     refine kH [(16,2)] [16] (HZ n k (fun i=>B4 (tg i)) (A1 [.s o.tenant,.bs 32 kh,.i .i64 o.number,.i .i64 1,B3 0 33 C3 [],B3 0 36 C9 [],B3 0 33 E0 []]) bd bd rfl) ?_;rintro out ho A0 ⟨rfl,rfl,rfl⟩
     exact cA hX (hR () zT)
  rintro u hJ
  refine cQ [] (E6 201) ?_;exact xW hX (A1 [.i .i64 201,.bl 0 []]) (ho:=[(2,wN .np o m),(3,sN 16 5 6 s),(4,.un),(5,rR s),(6,rL s),(16,.ar 38 (n+1) fun i=>B4 ((Q2 tg k (⟨o.tenant,kh,o.number,1,0,fun i=>[].getD i default,0,fun i=>[].getD i default,0,fun i=>[].getD i default⟩:TenR)) i))]) ⟨_,_,(Q2 tg k (⟨o.tenant,kh,o.number,1,0,fun i=>[].getD i default,0,fun i=>[].getD i default,0,fun i=>[].getD i default⟩:TenR)),rfl,rfl,rfl,.inl rfl,fun _=>by omega,fun h=>fun j hj=>OS (p:=TB) h ⟨L8 _,L8 _,L8 _,fun j hj=>absurd hj (S4 j),fun j hj=>absurd hj (S4 j),.mk0,fun j hj=>absurd hj (S4 j),(by exact hO.hq)⟩ j hj zO,fun h=>h.tenI U4 zO hI.2 (by first|exact .inl zO|exact .inr (Bh (by assumption))),fun j hj=>YE zO hj,fun m hm=>Bg hm zO rfl⟩ (hH:=⟨v0,v0,v0,v0,v0,(vT (u:=.ar 38 (n+1) fun i=>U0 (fun i=>B4 (tg i)) k (A1 [.s o.tenant,.bs 32 kh,.i .i64 o.number,.i .i64 1,B3 0 33 C3 [],B3 0 36 C9 [],B3 0 33 E0 []]) i) ((CM (x:=(⟨o.tenant,kh,o.number,1,0,fun i=>[].getD i default,0,fun i=>[].getD i default,0,fun i=>[].getD i default⟩:TenR))))),zT⟩)
 refine jA 2 12180 (fun(u:Unit)=>[(2,.pr 80 0 []),(1000004,A2 [])]) (fun(u:Unit)=>[(80,A1 [.i .i64 0,.bl 1 []]),(2,wN .np o m),(3,sN 7844 5 6 s),(5,rR s),(6,rL s),(7844,.ar 38 (n+1) fun i=>U0 (fun i=>B4 (tg i)) k (A1 [.s o.tenant,.bs 32 kh,.i .i64 o.number,.i .i64 1,B3 0 33 C3 [],B3 0 36 C9 [],B3 0 33 E0 []]) i),(4,.un)]) (fun(u:Unit)=>True) [5,6,7844] (fun R hR i hi=>?_) ?_
 ·match i,hi with
 |0,_=>
   refine kH [(16,2)] [16] (HZ n k (fun i=>B4 (tg i)) (A1 [.s o.tenant,.bs 32 kh,.i .i64 o.number,.i .i64 1,B3 0 33 C3 [],B3 0 36 C9 [],B3 0 33 E0 []]) bd bd rfl) ?_;rintro out ho A0 ⟨rfl,rfl,rfl⟩
   exact cA hX (hR () zT)
 |1,_=>
   refine L6 2 zK fun i hi=>?_
   match i,hi with
  |0,_|1,_=>
    refine kH [(16,2)] [16] (HZ n k (fun i=>B4 (tg i)) (A1 [.s o.tenant,.bs 32 kh,.i .i64 o.number,.i .i64 1,B3 0 33 C3 [],B3 0 36 C9 [],B3 0 33 E0 []]) bd bd rfl) ?_;rintro out ho A0 ⟨rfl,rfl,rfl⟩
    exact cA hX (hR () zT)
 rintro u hJ
 refine cQ [] (E6 201) ?_;exact xW hX (A1 [.i .i64 201,.bl 0 []]) ⟨_,_,(Q2 tg k (⟨o.tenant,kh,o.number,1,0,fun i=>[].getD i default,0,fun i=>[].getD i default,0,fun i=>[].getD i default⟩:TenR)),rfl,rfl,rfl,.inl rfl,fun _=>by omega,fun h=>fun j hj=>OS (p:=TB) h ⟨L8 _,L8 _,L8 _,fun j hj=>absurd hj (S4 j),fun j hj=>absurd hj (S4 j),.mk0,fun j hj=>absurd hj (S4 j),(by exact hO.hq)⟩ j hj zO,fun h=>h.tenI U4 zO hI.2 (by first|exact .inl zO|exact .inr (Bh (by assumption))),fun j hj=>YE zO hj,fun m hm=>Bg hm zO rfl⟩ (hH:=⟨v0,v0,v0,v0,v0,(vT (u:=.ar 38 (n+1) fun i=>U0 (fun i=>B4 (tg i)) k (A1 [.s o.tenant,.bs 32 kh,.i .i64 o.number,.i .i64 1,B3 0 33 C3 [],B3 0 36 C9 [],B3 0 33 E0 []]) i) ((CM (x:=(⟨o.tenant,kh,o.number,1,0,fun i=>[].getD i default,0,fun i=>[].getD i default,0,fun i=>[].getD i default⟩:TenR))))),zT⟩)
theorem Ya(s:StaR)(o:OpT)(t:TenR)(m:Int)(n:Nat)(tg:Nat->TenR)(i0:Nat):SatHM Tryz.prog false 79 [.pr 2 0 []] [4,5,6,7,8,9] (t6 s o m n tg i0 t) (fun out ho A0=>out=A1 [.i .i64 409,.bl 0 []]/\ho=t6 s o m n tg i0 t/\A0=[4,5,6]):=by
 refine fH false Tryz.func79 fun X0 w0 hX hm=>?_
 refine cQ [] (E6 409) ?_;exact xW hX (A1 [.i .i64 409,.bl 0 []]) ⟨rfl,rfl,rfl⟩
def lD(d:Int):Prop:=d=2\/d=4\/d=5\/d=6\/d=9\/d=16\/d=17
def UsD(o:OpT)(c:Int)(t t':TenR):Prop:=(o.do=15/\t.name=o.tenant->useN t'<=useN t)/\(¬ (o.do=15/\t.name=o.tenant)->useN t'=useN t+if t.name=o.tenant/\(o.do=1\/o.do=3)/\c=201 then o.body.length else 0)
structure ChP (o:OpT) (c:Int) (n n2:Nat) (tg tg2:Nat->TenR):Prop where
 fw:∀k,k<n->∃m,m<n2/\(tg2 m).name=(tg k).name/\UsD o c (tg k) (tg2 m)
 bk:∀m,m<n2->(∃k,k<n/\(tg2 m).name=(tg k).name)\/useN (tg2 m)=0
 pr:(o.do=1\/o.do=3)->c=201->∃k,k<n/\(tg k).name=o.tenant
theorem UsD.same{o:OpT}{c:Int}{t t':TenR}(h:useN t'=useN t)(hc:¬ (t.name=o.tenant/\(o.do=1\/o.do=3)/\c=201)):UsD o c t t':=⟨fun _=>Nat.le_of_eq h,fun _=>by rw[if_neg hc];exact h⟩
theorem ChP.all{o:OpT}{c:Int}{n n2:Nat}{tg tg2:Nat->TenR}(hc:¬ ((o.do=1\/o.do=3)/\c=201))(h:∀k,k<n->∃m,m<n2/\tg2 m=tg k)(hb:∀m,m<n2->(∃k,k<n/\tg2 m=tg k)\/useN (tg2 m)=0):ChP o c n n2 tg tg2:=⟨fun k hk=>by
 obtain⟨m,h1,h2⟩:=h k hk
 exact⟨m,h1,by rw[h2],by rw[h2];exact .same rfl fun q=>hc q.2⟩,fun m hm=>(hb m hm).imp (fun⟨k,h1,h2⟩=>⟨k,h1,by rw[h2]⟩) id,fun h1 h2=>absurd ⟨h1,h2⟩ hc⟩
structure DoP (o:OpT) (s s2:StaR) (n n2:Nat) (tg tg2:Nat->TenR) (c:Int) (b:By):Prop where
 ref:c=200\/c=201\/(s2=s/\n2=n/\(∀k,k<n->tg2 k=tg k)/\b=[])
 rd:lD o.do->s2=s/\n2=n/\∀k,k<n->tg2 k=tg k
 nb:n<=1000->n2<=1000
 tb:(∀i,i<n->TB (tg i))->∀i,i<n2->TB (tg2 i)
 nr:s.nr<=100000->s2.nr<=100000
 eq:s2.root=s.root/\s2.delay=s.delay/\s2.nl=s.nl/\s2.gl=s.gl/\s2.head=s.head
 bl:b.length<=4000000000/\(o.do=12->b.length<=20000)
 ch:AscK TenR.name n tg->ChP o c n n2 tg tg2
 asc:AscK TenR.name n tg->AscK TenR.name n2 tg2
theorem IP{tg:Nat->TenR}{t:TenR}(h:t=tg i):∀k,F0 tg i t k=tg k:=fun k=>by
 unfold F0
 cases e:beq k i
 ·rfl
 rw[A5 e];exact h
theorem DoP.t{z:Nat}{o:OpT}{s:StaR}{n:Nat}{tg:Nat->TenR}{t t2:TenR}{c:Int}{b:By}(ht:t=tg i)(hm:MP z o t t2 c)(hb:c=200\/c=201\/b=[])(hr:lD o.do->t2=t:=by intro h;first|rfl|(exfalso;unfold lD at h;omega))(hl:b.length<=4000000000:=by first|omega|(simp;done)|(simp;omega))(h12:o.do=12->b.length<=20000:=by intro h;first|omega|(simp;done))(hz:(z=0/\o.do≠1/\o.do≠3/\o.do≠15)\/(z=1/\(o.do=1\/o.do=3))\/(z=2/\o.do=15):=by first|exact .inl ⟨rfl,zO,zO,zO⟩|exact .inr (.inl ⟨rfl,zO⟩)|exact .inr (.inr ⟨rfl,zO⟩))(hi:i<n:=by assumption)(K3:t.name=o.tenant:=by assumption):DoP o s s n n tg (F0 tg i t2) c b:=
 ⟨by
  by_cases h0:c=200
  ·exact .inl h0
  by_cases h1:c=201
  ·exact .inr (.inl h1)
  ·exact .inr (.inr ⟨rfl,rfl,fun k _=>IP ((hm.1 h0 h1).trans ht) k,by rcases hb with h|h|h<;>first|contradiction|exact h⟩),fun h=>⟨rfl,rfl,fun k _=>IP ((hr h).trans ht) k⟩,id,fun h j hj=>by
  unfold F0
  cases e:beq j i
  ·exact h j hj
  ·have:=A5 e
   subst this
   exact hm.2.1 (ht▸h j hj),id,⟨rfl,rfl,rfl,rfl,rfl⟩,⟨hl,h12⟩,fun ha=>⟨fun k hk=>⟨k,hk,by
  by_cases e:k=i
  ·subst e
   rw[CB, <-ht]
   refine⟨hm.2.2.nm,?_⟩
   rcases hz with⟨rfl,h1,h3,dN⟩|⟨rfl,h1⟩|⟨rfl,h1⟩
   ·exact .same (hm.2.2.u0 rfl) fun q=>by omega
   ·refine⟨fun q=>by omega,fun _=>?_⟩
    rw[hm.2.2.u1 rfl]
    by_cases hc:c=201
    ·rw[if_pos hc,if_pos ⟨K3,h1,hc⟩]
    rw[if_neg hc,if_neg fun q=>hc q.2.2]
   exact⟨fun _=>hm.2.2.u2 rfl,fun q=>absurd ⟨h1,K3⟩ q⟩
  ·rw[CC e]
   exact⟨rfl,.same rfl fun q=>e (ha.inj hk hi (by rw[q.1, <-ht,K3]))⟩⟩,fun m hm'=>.inl ⟨m,hm',by
  by_cases e:m=i
  ·subst e;rw[CB, <-ht];exact hm.2.2.nm
  ·rw[CC e]⟩,fun _ _=>⟨i,hi,by rw[<-ht];exact K3⟩⟩,fun h a b U4 hb=>by
  have nm:∀k,(F0 tg i t2 k).name=(tg k).name:=fun k=>by
   by_cases e:k=i
   ·rw[e,CB,hm.2.2.nm,ht]
   rw[CC e]
  rw[nm,nm]
  exact h a b U4 hb⟩
theorem DoP.s{o:OpT}{s:StaR}{n:Nat}{e:Int}{g:Nat->Int}{tg tg2:Nat->TenR}{c:Int}{b:By}(ht:∀k,k<n->tg2 k=tg k)(hb:c=200\/c=201\/(e=s.serial/\r=s.nr/\g=s.gr)/\b=[])(hn:s.nr<=100000->r<=100000)(hr:lD o.do->(e=s.serial/\r=s.nr/\g=s.gr):=by intro h;exfalso;unfold lD at h;omega)(hz:o.do≠1/\o.do≠3:=by omega)(hl:b.length<=4000000000:=by first|omega|(simp;done)|(simp;omega))(h12:o.do=12->b.length<=20000:=by intro h;first|omega|(simp;done)):DoP o s ⟨s.root,s.delay,e,r,g,s.nl,s.gl,s.head⟩ n n tg tg2 c b:=
 ⟨hb.imp id (.imp id fun⟨⟨h1,h2,h3⟩,h4⟩=>⟨by rw[h1,h2,h3],rfl,ht,h4⟩),fun h=>by obtain⟨h1,h2,h3⟩:=hr h;exact⟨by rw[h1,h2,h3],rfl,ht⟩,id,fun h j hj=>by rw[ht j hj];exact h j hj,hn,⟨rfl,rfl,rfl,rfl,rfl⟩,⟨hl,h12⟩,fun _=>.all zO (fun k hk=>⟨k,hk,ht k hk⟩) fun k hk=>.inl ⟨k,hk,ht k hk⟩,fun h a b U4 hb=>by rw[ht b hb,ht a zO];exact h a b U4 hb⟩
theorem Yb{u t v:V}(h:u.nz=v:=by rfl):(bif beq i i then u else t).nz=v:=by rw[P6];exact h
theorem cY{tg:Nat->TenR}{i:Nat}{t:TenR}{l:List V}(h:l.map V.strip=[.s t.name,.bs 32 t.key,.i .i64 t.quota,.i .i64 t.next,.sl 0 33 t.nb fun i=>C3 (t.gb i),.sl 0 36 t.ns fun i=>C9 (t.gs i),.sl 0 33 t.nd fun i=>E0 (t.gd i)]):VEn (A1 l).strip (B4 (F0 tg i t i)):=by
 rw[show F0 tg i t i=t by unfold F0;rw[P6];rfl];exact MU h
theorem IQ(l:By)(h0:l.length≠0)(hl:l.length<=1000000):SatM Tryz.prog false 78 [.bl 0 l] [] (fun out ho A0=>out=.os 16 1/\ho=[(16,.bs l.length l)]/\A0=[16]):=by
 refine fM false Tryz.func78 fun X0 w0 hX hm=>?_
 refine mM fO true ?_;refine c0 (l.length) (fun h1=>?_) ?_
 ·exact absurd h1 h0
 refine cC (l.length*1<=140737488355328) ?_
 exact xW hX (.os 16 1) ⟨rfl,rfl,rfl⟩
theorem Bj(n:Nat)(g:Nat->Ent)(hn:n<=4096)(hg:∀i,i<n->(g i).tenant.length<=100):SatHM Tryz.prog false 85 [.os 2 38] [2] [(2,.ar 38 n fun i=>H8 (g i))] (fun out ho A0=>∃l c,out=A2 [.bl 16 l,.i .i64 c]/\ho=[(2,.ar 38 n fun i=>H8 (g i))]/\A0=[2,16]/\l.length<=900000):=by
 refine fH false Tryz.func85 fun X0 w0 hX hm=>?_
 refine S0 (Sh n (fun i=>(g i)) bd hg) ?_;rintro out A0 ⟨rfl,⟨lm0,le0,rfl⟩⟩
 refine⟨rfl,?_⟩
 refine cB (le0≠0) ?_ ?_<;>intro h1
 ·exact xW hX (A2 [.bl 16 [],.i .i64 le0]) ⟨_,_,rfl,rfl,rfl,bd⟩
 refine cK [] ((nB [76,49] (u64.wrap (n:Int)) 8 bd bd).full (ins':=[.bl 1 [76,49],.i .u64 (u64.wrap (n:Int)),.i .i64 8])) ?_
 rintro out A0 ⟨mA,pe1,rfl,rfl,hp1,hq1⟩
 refine cM hX (fun(p:Nat×By)=>[(6,.bl 24 p.2),(29,.os 2 38),(30,.i .i64 (n:Int)),(31,.i .i64 (p.1:Int))]) (fun(p:Nat×By)=>[(2,.ar 38 n fun i=>H8 (g i))]) (fun(p:Nat×By)=>p.1<=n/\p.2.length<=20+200*p.1) (fun(p:Nat×By)=>n-p.1) [2,24] 1680 (0,mA) ⟨bd,bd⟩ ?_;rintro⟨k,l⟩ hI R hR
 dsimp only at hI
 refine cB ((k:Int)<(n:Int)) ?_ ?_<;>intro h2
 ·have hk:=hg k zO
  refine cC ((0:Int)<=(k:Int)/\(k:Int)<(n:Int)) ?_;refine gR 2 (.ar 38 n fun i=>H8 (g i)) (.fo 38 (.ar 38 n fun i=>H8 (g i)) k (H8 (g k))) (aG zO rfl) ?_;refine cC (k=k) ?_;refine gR 2 (.fo 38 (.ar 38 n fun i=>H8 (g i)) k (H8 (g k))) (.ar 38 n fun i=>H8 (g i)) (fJ rfl rfl rfl) ?_;refine cK [] (XN (g k) bd) ?_;rintro out A0 ⟨al2,ae2,rfl,rfl,ha2⟩
  refine cC ((l.length+al2.length)*1<=140737488355328) ?_;exact cA hX (hR (k+1,(l++al2)) ⟨bd,bd⟩ (by dsimp only;omega)) (hS:=⟨v0,v0,v0,(vS bd),zT⟩)
 exact xW hX (A2 [.bl 16 l,.i .i64 0]) ⟨_,_,rfl,rfl,rfl,bd⟩
theorem Yc(s:StaR)(o:OpT)(t:TenR)(m:Int)(n:Nat)(tg:Nat->TenR)(i0:Nat)(hB:TB t)(hO:OB o)(ht:t=tg i0)(hi:i0<n)(K3:t.name=o.tenant)(hk:t.key.length=32/\s.head.length=32)(hr:s.nr<=100000)(hl:s.nl<=4096)(hg:∀i,i<s.nl->(s.gl i).tenant.length<=100):SatHM Tryz.prog true 30 [.pr 2 0 []] [4,5,6,7,8,9] (t6 s o m n tg i0 t) (fun out ho A0=>∃c b s2 tg2,out=A1 [.i .i64 c,.bl 0 b]/\ho=[(2,wN (.pr 4 0 [.e i0 38 n]) o m),(3,sN 4 16 6 s2),(4,rT n tg2),(5,.un),(6,rL s2),(7,.un),(8,.un),(9,.un),(16,rR s2)]/\A0=[6]/\DoP o s s2 n n tg tg2 c b):=by
 refine fH true Tryz.func30 fun X0 w0 hX hm=>?_
 have P8:=hB.nb
 have U5:=hB.ns
 have z6:=hB.nd
 have hs:=hB.ls
 have hM:=hB.mm
 have Z6:=hB.db
 refine mV 5 ?_;refine mV 7 ?_;refine mV 8 ?_;refine mV 9 ?_;refine mM fV true ?_;refine cB (o.do=1) ?_ ?_<;>intro h1
 ·refine kH [(2,2),(3,3),(4,4),(16,5),(6,6),(80,7),(144,8),(208,9)] [2,3,4,16,6,80,144,208] (Xn s o t m n tg i0 hB hO) ?_
  rintro out ho A0 ⟨c0,u0,rfl,rfl,rfl,l7⟩
  refine gZ 864 ?_;refine gZ 144 ?_;refine gZ 865 ?_;refine gR 4 (fN n tg i0 (A1 [.s u0.name,.bs 32 u0.key,.i .i64 u0.quota,.i .i64 u0.next,.sl 864 33 u0.nb fun i=>C3 (u0.gb i),.sl 144 36 u0.ns fun i=>C9 (u0.gs i),.sl 865 33 u0.nd fun i=>E0 (u0.gd i)])) (.ar 38 n fun i=>B4 (F0 tg i0 u0 i)) (T8 (cY (t:=u0) rfl) aJ rfl) ?_;exact xW hX (A1 [.i .i64 c0,.bl 0 []]) ⟨_,_,s,F0 tg i0 u0,rfl,rfl,rfl,.t ht l7 (.inr (.inr rfl))⟩
 refine cB (o.do=2) ?_ ?_<;>intro h2
 ·refine kH [(2,2),(3,3),(4,4),(16,5),(6,6),(80,7),(144,8),(208,9)] [2,3,4,16,6,80,144,208] (Xo s o t m n tg i0 hB) ?_
  rintro out ho A0 ⟨c1,b1,rfl,hc1,rfl,rfl,P8⟩
  refine gZ 80 ?_;refine gZ 144 ?_;refine gZ 208 ?_;refine gR 4 (fN n tg i0 (A1 [.s t.name,.bs 32 t.key,.i .i64 t.quota,.i .i64 t.next,.sl 80 33 t.nb fun i=>C3 (t.gb i),.sl 144 36 t.ns fun i=>C9 (t.gs i),.sl 208 33 t.nd fun i=>E0 (t.gd i)])) (.ar 38 n fun i=>B4 (F0 tg i0 t i)) (T8 (cY (t:=t) rfl) aJ rfl) ?_;exact xW hX (A1 [.i .i64 c1,.bl 0 b1]) ⟨_,_,s,F0 tg i0 t,rfl,rfl,rfl,.t (z:=0) ht .rfl (hc1.imp id .inr)⟩
 refine cB (o.do=3) ?_ ?_<;>intro h3
 ·refine gV (fun _=>hm rfl) [(2,2),(3,3),(4,4),(16,5),(6,6),(80,7),(144,8),(208,9)] [2,3,4,16,6,80,144,208] (Xq s o t m n tg i0 hB hO) ?_
  rintro out ho A0 ⟨c2,b2,u2,rfl,rfl,rfl,dL,W4,wD⟩
  refine gZ 80 ?_;refine gZ 1120 ?_;refine gZ 1121 ?_;refine gR 4 (fN n tg i0 (A1 [.s u2.name,.bs 32 u2.key,.i .i64 u2.quota,.i .i64 u2.next,.sl 80 33 u2.nb fun i=>C3 (u2.gb i),.sl 1120 36 u2.ns fun i=>C9 (u2.gs i),.sl 1121 33 u2.nd fun i=>E0 (u2.gd i)])) (.ar 38 n fun i=>B4 (F0 tg i0 u2 i)) (T8 (cY (t:=u2) rfl) aJ rfl) ?_;exact xW hX (A1 [.i .i64 c2,.bl 0 b2]) ⟨_,_,s,F0 tg i0 u2,rfl,rfl,rfl,.t ht dL (.inr W4)⟩
 refine cB (o.do=4) ?_ ?_<;>intro h4
 ·refine kH [(2,2),(3,3),(4,4),(16,5),(6,6),(80,7),(144,8),(208,9)] [2,3,4,16,6,80,144,208] (Xp s o t m n tg i0 hB) ?_
  rintro out ho A0 ⟨c3,b3,rfl,hc3,rfl,rfl,z6⟩
  refine gZ 80 ?_;refine gZ 144 ?_;refine gZ 208 ?_;refine gR 4 (fN n tg i0 (A1 [.s t.name,.bs 32 t.key,.i .i64 t.quota,.i .i64 t.next,.sl 80 33 t.nb fun i=>C3 (t.gb i),.sl 144 36 t.ns fun i=>C9 (t.gs i),.sl 208 33 t.nd fun i=>E0 (t.gd i)])) (.ar 38 n fun i=>B4 (F0 tg i0 t i)) (T8 (cY (t:=t) rfl) aJ rfl) ?_;exact xW hX (A1 [.i .i64 c3,.bl 0 b3]) ⟨_,_,s,F0 tg i0 t,rfl,rfl,rfl,.t (z:=0) ht .rfl (hc3.imp id .inr)⟩
 refine jB (o.do=5) 5392 (fun(q:Bool)=>[(0,.pr 2 0 []),(2,.pr 272 0 []),(9,.i .i64 o.do),(26,.b q),(1000004,A2 [])]) (fun(q:Bool)=>[(2,wN (.pr 4 0 [.e i0 38 n]) o m),(3,sN 4 16 6 s),(6,rL s),(16,rR s),(4,fN n tg i0 (tN 80 144 208 t)),(80,rB t),(144,E1 t),(208,rD t),(272,A1 [.i .i64 0,.bl 1 []]),(5,.un),(7,.un),(8,.un),(9,.un)]) (fun(q:Bool)=>(q=true->5<=o.do/\o.do<=8)/\(q=false->¬(5<=o.do/\o.do<=8))) [4,6,16,80,144,208] (fun R hR=>⟨fun h5=>?_,fun h5=>?_⟩) ?_
 ·exact cA hX (hR (decide (o.do=5)) ⟨by intro hq;simp at hq;omega,by intro hq;simp at hq;omega⟩)
 ·refine cB (o.do=6) ?_ ?_<;>intro h6
  ·exact cA hX (hR (decide (o.do=6)) ⟨by intro hq;simp at hq;omega,by intro hq;simp at hq;omega⟩)
  refine cB (o.do=7) ?_ ?_<;>intro h7
  ·exact cA hX (hR (decide (o.do=7)) ⟨by intro hq;simp at hq;omega,by intro hq;simp at hq;omega⟩)
  exact cA hX (hR (decide (o.do=8)) ⟨by intro hq;simp at hq;omega,by intro hq;simp at hq;omega⟩)
 rintro q hJ
 refine cb (q) ?_ ?_<;>intro h8
 ·refine gV (fun _=>hm rfl) [(2,2),(3,3),(4,4),(16,5),(6,6),(80,7),(144,8),(208,9)] [2,3,4,16,6,80,144,208] (Xr s o t m n tg i0 hB hO) ?_
  rintro out ho A0 ⟨c4,b4,u4,rfl,rfl,rfl,hm4,hc4,hb4,hr4⟩
  refine gZ 80 ?_;refine gZ 5472 ?_;refine gZ 208 ?_;refine gR 4 (fN n tg i0 (A1 [.s u4.name,.bs 32 u4.key,.i .i64 u4.quota,.i .i64 u4.next,.sl 80 33 u4.nb fun i=>C3 (u4.gb i),.sl 5472 36 u4.ns fun i=>C9 (u4.gs i),.sl 208 33 u4.nd fun i=>E0 (u4.gd i)])) (.ar 38 n fun i=>B4 (F0 tg i0 u4 i)) (T8 (cY (t:=u4) rfl) aJ rfl) ?_;exact xW hX (A1 [.i .i64 c4,.bl 0 b4]) ⟨_,_,s,F0 tg i0 u4,rfl,rfl,rfl,.t ht hm4 (hc4.imp id .inr) (fun h=>hr4 (by unfold lD at h;omega) (by unfold lD at h;omega)) (h12:=fun h=>absurd (hJ.1 (by assumption)) zO) (hz:=.inl ⟨rfl,by have:=hJ.1 (by assumption);omega,by have:=hJ.1 (by assumption);omega,by have:=hJ.1 (by assumption);omega⟩)⟩
 refine cB (o.do=9) ?_ ?_<;>intro h9
 ·refine kB (SatM.weak (ins':=[(bif beq i0 i0 then .bl 0 ((t.key.drop 0).take 32) else .uk 1:V).nz]) (IQ ((t.key.drop 0).take 32) (by simp only[F7,K4];omega) bd) ⟨(VA.of_eq Yb),zT⟩) ?_
  rintro out ho A0 ⟨rfl,rfl,rfl⟩
  refine⟨⟨rfl,CN trivial⟩,?_⟩
  refine gZ 5984 ?_;refine cQ [] (kZ ((t.key.drop 0).take 32)) ?_;refine gZ 80 ?_;refine gZ 144 ?_;refine gZ 208 ?_;refine gR 4 (fN n tg i0 (A1 [.s t.name,.bs 32 t.key,.i .i64 t.quota,.i .i64 t.next,.sl 80 33 t.nb fun i=>C3 (t.gb i),.sl 144 36 t.ns fun i=>C9 (t.gs i),.sl 208 33 t.nd fun i=>E0 (t.gd i)])) (.ar 38 n fun i=>B4 (F0 tg i0 t i)) (T8 (cY (t:=t) rfl) aJ rfl) ?_;exact xW hX (A1 [.i .i64 200,.bl 0 ((t.key.drop 0).take 32)]) ⟨_,_,s,F0 tg i0 t,rfl,rfl,rfl,.t (z:=0) ht .rfl (.inl rfl)⟩
 refine cB (o.do=10) ?_ ?_<;>intro K0
 ·refine kH [(2,2),(3,3),(4,4),(16,5),(6,6),(80,7),(144,8),(208,9)] [2,3,4,16,6,80,144,208] (Ya s o t m n tg i0) ?_
  rintro out ho A0 ⟨rfl,rfl,rfl⟩
  refine gZ 80 ?_;refine gZ 144 ?_;refine gZ 208 ?_;refine gR 4 (fN n tg i0 (A1 [.s t.name,.bs 32 t.key,.i .i64 t.quota,.i .i64 t.next,.sl 80 33 t.nb fun i=>C3 (t.gb i),.sl 144 36 t.ns fun i=>C9 (t.gs i),.sl 208 33 t.nd fun i=>E0 (t.gd i)])) (.ar 38 n fun i=>B4 (F0 tg i0 t i)) (T8 (cY (t:=t) rfl) aJ rfl) ?_;exact xW hX (A1 [.i .i64 409,.bl 0 []]) ⟨_,_,s,F0 tg i0 t,rfl,rfl,rfl,.t (z:=0) ht .rfl (.inr (.inr rfl))⟩
 refine cB (o.do=11) ?_ ?_<;>intro P9
 ·refine cC (i0=i0) ?_
  refine kW (YO ⟨t.name,t.key,t.quota,t.next,t.nb,t.gb,t.ns,t.gs,t.nd,t.gd⟩ bd bd hs hM Z6) ?_;refine cB (o.number<(useN ⟨t.name,t.key,t.quota,t.next,t.nb,t.gb,t.ns,t.gs,t.nd,t.gd⟩:Int)) ?_ ?_<;>intro h12
  ·refine cQ [] (E6 409) ?_
   refine gZ 80 ?_;refine gZ 144 ?_;refine gZ 208 ?_;refine gR 4 (fN n tg i0 (A1 [.s t.name,.bs 32 t.key,.i .i64 t.quota,.i .i64 t.next,.sl 80 33 t.nb fun i=>C3 (t.gb i),.sl 144 36 t.ns fun i=>C9 (t.gs i),.sl 208 33 t.nd fun i=>E0 (t.gd i)])) (.ar 38 n fun i=>B4 (F0 tg i0 t i)) (T8 (cY (t:=t) rfl) aJ rfl) ?_;exact xW hX (A1 [.i .i64 409,.bl 0 []]) ⟨_,_,s,F0 tg i0 t,rfl,rfl,rfl,.t (z:=0) ht .rfl (.inr (.inr rfl))⟩
  refine cC (i0=i0) ?_
  refine cQ [] (E6 200) ?_;refine gZ 80 ?_;refine gZ 144 ?_;refine gZ 208 ?_;refine gR 4 (fN n tg i0 (A1 [.s t.name,.bs 32 t.key,.i .i64 o.number,.i .i64 t.next,.sl 80 33 t.nb fun i=>C3 (t.gb i),.sl 144 36 t.ns fun i=>C9 (t.gs i),.sl 208 33 t.nd fun i=>E0 (t.gd i)])) (.ar 38 n fun i=>B4 (F0 tg i0 (⟨t.name,t.key,o.number,t.next,t.nb,t.gb,t.ns,t.gs,t.nd,t.gd⟩) i)) (T8 (cY (t:=⟨t.name,t.key,o.number,t.next,t.nb,t.gb,t.ns,t.gs,t.nd,t.gd⟩) rfl) aJ rfl) ?_;exact xW hX (A1 [.i .i64 200,.bl 0 []]) ⟨_,_,s,F0 tg i0 (⟨t.name,t.key,o.number,t.next,t.nb,t.gb,t.ns,t.gs,t.nd,t.gd⟩),rfl,rfl,rfl,.t ht (.of (.inl rfl) (fun h=>⟨h.nb,h.ns,h.nd,h.db,h.ls,h.asc,h.mm,(by exact Int.not_lt.1 (by assumption))⟩) (.same (z:=0) rfl rfl (.inr (by decide)))) (.inl rfl)⟩
 refine cB (o.do=12) ?_ ?_<;>intro w6
 ·refine kH [(2,2),(3,3),(4,4),(16,5),(6,6),(80,7),(144,8),(208,9)] [2,3,4,16,6,80,144,208] (Xv s o t m n tg i0 hO) ?_
  rintro out ho A0 ⟨c6,b6,e6,rfl,rfl,rfl,hc6,hb6⟩
  refine gZ 80 ?_;refine gZ 144 ?_;refine gZ 208 ?_;refine gR 4 (fN n tg i0 (A1 [.s t.name,.bs 32 t.key,.i .i64 t.quota,.i .i64 t.next,.sl 80 33 t.nb fun i=>C3 (t.gb i),.sl 144 36 t.ns fun i=>C9 (t.gs i),.sl 208 33 t.nd fun i=>E0 (t.gd i)])) (.ar 38 n fun i=>B4 (F0 tg i0 t i)) (T8 (cY (t:=t) rfl) aJ rfl) ?_;exact xW hX (A1 [.i .i64 c6,.bl 0 b6]) ⟨_,_,⟨s.root,s.delay,e6,s.nr,s.gr,s.nl,s.gl,s.head⟩,F0 tg i0 t,rfl,rfl,rfl,.s (fun k _=>IP ht k) (.inr (hc6.imp id fun h=>⟨⟨h.1,rfl,rfl⟩,h.2⟩)) id⟩
 refine cB (o.do=13) ?_ ?_<;>intro dM
 ·refine kH [(2,2),(3,3),(4,4),(16,5),(6,6),(80,7),(144,8),(208,9)] [2,3,4,16,6,80,144,208] (Xw s o t m n tg i0 hr) ?_
  rintro out ho A0 ⟨c7,r7,g7,rfl,rfl,rfl,hc7,hr7⟩
  refine gZ 80 ?_;refine gZ 144 ?_;refine gZ 208 ?_;refine gR 4 (fN n tg i0 (A1 [.s t.name,.bs 32 t.key,.i .i64 t.quota,.i .i64 t.next,.sl 80 33 t.nb fun i=>C3 (t.gb i),.sl 144 36 t.ns fun i=>C9 (t.gs i),.sl 208 33 t.nd fun i=>E0 (t.gd i)])) (.ar 38 n fun i=>B4 (F0 tg i0 t i)) (T8 (cY (t:=t) rfl) aJ rfl) ?_;exact xW hX (A1 [.i .i64 c7,.bl 0 []]) ⟨_,_,⟨s.root,s.delay,s.serial,r7,g7,s.nl,s.gl,s.head⟩,F0 tg i0 t,rfl,rfl,rfl,.s (fun k _=>IP ht k) (hc7.imp id fun h=>.inr ⟨⟨rfl,h⟩,rfl⟩) (fun _=>hr7)⟩
 refine cB (o.do=14) ?_ ?_<;>intro dN
 ·refine kH [(2,2),(3,3),(4,4),(16,5),(6,6),(80,7),(144,8),(208,9)] [2,3,4,16,6,80,144,208] (Xt s o t m n tg i0 hB hO) ?_
  rintro out ho A0 ⟨c8,b8,u8,rfl,rfl,rfl,hm8,hc8,hb8⟩
  refine gZ 80 ?_;refine gZ 144 ?_;refine gZ 6240 ?_;refine gR 4 (fN n tg i0 (A1 [.s u8.name,.bs 32 u8.key,.i .i64 u8.quota,.i .i64 u8.next,.sl 80 33 u8.nb fun i=>C3 (u8.gb i),.sl 144 36 u8.ns fun i=>C9 (u8.gs i),.sl 6240 33 u8.nd fun i=>E0 (u8.gd i)])) (.ar 38 n fun i=>B4 (F0 tg i0 u8 i)) (T8 (cY (t:=u8) rfl) aJ rfl) ?_;exact xW hX (A1 [.i .i64 c8,.bl 0 b8]) ⟨_,_,s,F0 tg i0 u8,rfl,rfl,rfl,.t ht hm8 (.inl hc8)⟩
 refine cB (o.do=15) ?_ ?_<;>intro K6
 ·refine gV (fun _=>hm rfl) [(2,2),(3,3),(4,4),(16,5),(6,6),(80,7),(144,8),(208,9)] [2,3,4,16,6,80,144,208] (Xu s o t m n tg i0 hB hO) ?_
  rintro out ho A0 ⟨c9,b9,u9,rfl,rfl,rfl,hm9,hc9,hb9⟩
  refine gZ 6368 ?_;refine gZ 6369 ?_;refine gZ 6370 ?_;refine gR 4 (fN n tg i0 (A1 [.s u9.name,.bs 32 u9.key,.i .i64 u9.quota,.i .i64 u9.next,.sl 6368 33 u9.nb fun i=>C3 (u9.gb i),.sl 6369 36 u9.ns fun i=>C9 (u9.gs i),.sl 6370 33 u9.nd fun i=>E0 (u9.gd i)])) (.ar 38 n fun i=>B4 (F0 tg i0 u9 i)) (T8 (cY (t:=u9) rfl) aJ rfl) ?_;exact xW hX (A1 [.i .i64 c9,.bl 0 b9]) ⟨_,_,s,F0 tg i0 u9,rfl,rfl,rfl,.t ht hm9 (.inl hc9)⟩
 refine cB (o.do=16) ?_ ?_<;>intro h17
 ·refine kH [(6,2)] [6] (Bj s.nl s.gl bd hg) ?_
  rintro out ho A0 ⟨xb10,xe10,rfl,rfl,rfl,hxb10⟩
  refine cQ [] (kZ xb10) ?_;refine gZ 80 ?_;refine gZ 144 ?_;refine gZ 208 ?_;refine gR 4 (fN n tg i0 (A1 [.s t.name,.bs 32 t.key,.i .i64 t.quota,.i .i64 t.next,.sl 80 33 t.nb fun i=>C3 (t.gb i),.sl 144 36 t.ns fun i=>C9 (t.gs i),.sl 208 33 t.nd fun i=>E0 (t.gd i)])) (.ar 38 n fun i=>B4 (F0 tg i0 t i)) (T8 (cY (t:=t) rfl) aJ rfl) ?_;exact xW hX (A1 [.i .i64 200,.bl 0 xb10]) ⟨_,_,s,F0 tg i0 t,rfl,rfl,rfl,.t (z:=0) ht .rfl (.inl rfl)⟩
 refine kB (IQ ((s.head.drop 0).take 32) (by simp only[F7,K4];omega) bd) ?_
 rintro out ho A0 ⟨rfl,rfl,rfl⟩
 refine⟨⟨rfl,CN trivial⟩,?_⟩
 refine gZ 6880 ?_;refine cQ [] (kZ ((s.head.drop 0).take 32)) ?_;refine gZ 80 ?_;refine gZ 144 ?_;refine gZ 208 ?_;refine gR 4 (fN n tg i0 (A1 [.s t.name,.bs 32 t.key,.i .i64 t.quota,.i .i64 t.next,.sl 80 33 t.nb fun i=>C3 (t.gb i),.sl 144 36 t.ns fun i=>C9 (t.gs i),.sl 208 33 t.nd fun i=>E0 (t.gd i)])) (.ar 38 n fun i=>B4 (F0 tg i0 t i)) (T8 (cY (t:=t) rfl) aJ rfl) ?_;exact xW hX (A1 [.i .i64 200,.bl 0 ((s.head.drop 0).take 32)]) ⟨_,_,s,F0 tg i0 t,rfl,rfl,rfl,.t (z:=0) ht .rfl (.inl rfl)⟩
theorem DoP.n{o:OpT}{s:StaR}{n n2:Nat}{tg tg2:Nat->TenR}{c:Int}(hc:c=201\/n2=n/\tg2=tg)(hn:n<=1000->n2<=1000)(ht:(∀i,i<n->TB (tg i))->∀i,i<n2->TB (tg2 i))(ha:AscK TenR.name n tg->AscK TenR.name n2 tg2)(hk:∀k,k<n->∃m,m<n2/\tg2 m=tg k)(hb:∀m,m<n2->(∃k,k<n/\tg2 m=tg k)\/useN (tg2 m)=0)(hr:¬ lD o.do:=by unfold lD;omega)(hz:o.do≠1/\o.do≠3:=by omega):DoP o s s n n2 tg tg2 c []:=
 ⟨.inr (hc.imp id fun h=>⟨rfl,h.1,fun k _=>by rw[h.2],rfl⟩),fun h=>absurd h hr,hn,ht,id,⟨rfl,rfl,rfl,rfl,rfl⟩,⟨by simp,fun _=>by simp⟩,fun _=>.all zO hk hb,ha⟩
theorem Bk(s:StaR)(o:OpT)(m:Int)(n:Nat)(tg:Nat->TenR)(hn:n<=1000)(hO:OB o)(hd:o.do=10\/o.do=12\/o.do=13\/o.do=16\/o.do=17)(U4:AscK TenR.name n tg->∀j,j<n->(tg j).name≠o.tenant)(hk:s.head.length=32)(hr:s.nr<=100000)(hl:s.nl<=4096)(hg:∀i,i<s.nl->(s.gl i).tenant.length<=100):SatHM Tryz.prog true 30 [.pr 2 0 []] [4,5,6] (iB s o m n tg) (fun out ho A0=>∃c b s2 n2 tg2,out=A1 [.i .i64 c,.bl 0 b]/\ho=[(2,wN .np o m),(3,sN 17 16 6 s2),(4,.un),(5,.un),(6,rL s2),(16,rR s2),(17,rT n2 tg2)]/\A0=[6]/\DoP o s s2 n n2 tg tg2 c b):=by
 refine fH true Tryz.func30 fun X0 w0 hX hm=>?_
 refine mV 5 ?_;refine mV 4 ?_;refine mM fV true ?_;refine cB (o.do=1) ?_ ?_<;>intro h1
 ·exact absurd hd zO
 refine cB (o.do=2) ?_ ?_<;>intro h2
 ·exact absurd hd zO
 refine cB (o.do=3) ?_ ?_<;>intro h3
 ·exact absurd hd zO
 refine cB (o.do=4) ?_ ?_<;>intro h4
 ·exact absurd hd zO
 refine cB (o.do=5) ?_ ?_<;>intro h5
 ·exact absurd hd zO
 refine cB (o.do=6) ?_ ?_<;>intro h6
 ·exact absurd hd zO
 refine cB (o.do=7) ?_ ?_<;>intro h7
 ·exact absurd hd zO
 refine cB (o.do=8) ?_ ?_<;>intro h8
 ·exact absurd hd zO
 refine cB (o.do=9) ?_ ?_<;>intro h9
 ·exact absurd hd zO
 refine cB (o.do=10) ?_ ?_<;>intro K0
 ·refine kH [(2,2),(3,3),(80,4),(16,5),(6,6)] [2,3,80,16,6] (Xz s o m n tg hn hO U4) ?_
  rintro out ho A0 ⟨c0,n0,tg0,rfl,rfl,rfl,oB,hn0,n9,ha0,lL,Q7⟩
  exact xW hX (A1 [.i .i64 c0,.bl 0 []]) ⟨_,_,s,n0,tg0,rfl,rfl,rfl,.n oB hn0 n9 ha0 lL Q7⟩
 refine cB (o.do=11) ?_ ?_<;>intro P9
 ·exact absurd hd zO
 refine cB (o.do=12) ?_ ?_<;>intro h12
 ·refine kH [(2,2),(3,3),(80,4),(16,5),(6,6)] [2,3,80,16,6] (Xx s o m n tg hO) ?_
  rintro out ho A0 ⟨c1,b1,e1,rfl,rfl,rfl,hc1,P8⟩
  exact xW hX (A1 [.i .i64 c1,.bl 0 b1]) ⟨_,_,⟨s.root,s.delay,e1,s.nr,s.gr,s.nl,s.gl,s.head⟩,n,tg,rfl,rfl,rfl,.s (fun _ _=>rfl) (.inr (hc1.imp id fun h=>⟨⟨h.1,rfl,rfl⟩,h.2⟩)) id⟩
 refine cB (o.do=13) ?_ ?_<;>intro w6
 ·refine kH [(2,2),(3,3),(80,4),(16,5),(6,6)] [2,3,80,16,6] (Xy s o m n tg hr) ?_
  rintro out ho A0 ⟨c2,r2,g2,rfl,rfl,rfl,W4,dH⟩
  exact xW hX (A1 [.i .i64 c2,.bl 0 []]) ⟨_,_,⟨s.root,s.delay,s.serial,r2,g2,s.nl,s.gl,s.head⟩,n,tg,rfl,rfl,rfl,.s (fun _ _=>rfl) (W4.imp id fun h=>.inr ⟨⟨rfl,h⟩,rfl⟩) (fun _=>dH)⟩
 refine cB (o.do=14) ?_ ?_<;>intro dM
 ·exact absurd hd zO
 refine cB (o.do=15) ?_ ?_<;>intro dN
 ·exact absurd hd zO
 refine cB (o.do=16) ?_ ?_<;>intro K6
 ·refine kH [(6,2)] [6] (Bj s.nl s.gl bd hg) ?_
  rintro out ho A0 ⟨xb3,xe3,rfl,rfl,rfl,hxb3⟩
  refine cQ [] (kZ xb3) ?_;exact xW hX (A1 [.i .i64 200,.bl 0 xb3]) ⟨_,_,s,n,tg,rfl,rfl,rfl,.s (fun _ _=>rfl) (.inl rfl) id (fun _=>⟨rfl,rfl,rfl⟩)⟩
 refine kB (IQ ((s.head.drop 0).take 32) (by simp only[F7,K4];omega) bd) ?_
 rintro out ho A0 ⟨rfl,rfl,rfl⟩
 refine⟨⟨rfl,CN trivial⟩,?_⟩
 refine gZ 3040 ?_;refine cQ [] (kZ ((s.head.drop 0).take 32)) ?_;exact xW hX (A1 [.i .i64 200,.bl 0 ((s.head.drop 0).take 32)]) ⟨_,_,s,n,tg,rfl,rfl,rfl,.s (fun _ _=>rfl) (.inl rfl) id (fun _=>⟨rfl,rfl,rfl⟩)⟩
theorem lE{n:Nat}{tg:Nat->TenR}{x:By}{p:Bool}(h:AscK TenR.name n tg)(hb:BsP n (fun k=>Lib.compareBytes (tg k).name x) j p)(hp:p=false):∀k,k<n->(tg k).name≠x:=fun k hk e=>by
 subst hp
 obtain⟨h1,h2⟩:=h.at hb
 by_cases q:k<j
 ·exact absurd (h1 k q) (by rw[e];exact List.lt_irrefl _)
 exact absurd (h2 k zO hk) (by rw[e];exact List.lt_irrefl _)
theorem VA.row{t z n:Nat}{g:Nat->V}{v:V}(h:VW v (g i))(hm:(g i).mem=true):VA (.sl t z n fun k=>bif beq k i then v else g k) (.sl t z n g):=fun X x ⟨h0,a,cap,q1,q2,q3,q4,q5,q6⟩=>
 ⟨h0,a,cap,q1,q2,q3,q4,q5,q6.imp id fun⟨b,o,r1,r2,r3⟩=>⟨b,o,r1,fun k hk=>by
  obtain⟨es,s1,s2,s3,s4⟩:=r2 k hk
  dsimp only at s1 s3
  cases e:beq k i
  ·rw[e]at s1 s3;exact⟨es,s1,s2,s3,s4⟩
  have:=A5 e
  subst this
  rw[e]at s1 s3;exact⟨es,h X es s1,s2,hm,s4⟩,r3⟩⟩
theorem Yd{n i0:Nat}{tg:Nat->TenR}{t:TenR}(hi:i0<n)(ht:t=tg i0):VA (dY 38 (tZ 38 i0 (rT n tg) (B4 t))).nz (.sl 0 38 n fun k=>B4 (tg k)):=by
 unfold rT
 rw[Pv hi rfl]
 exact VA.row (g:=fun k=>B4 (tg k)) (VW.of_eq (by rw[ht])) rfl
def IR(p:V)(s:StaR)(o:OpT)(m:Int)(n:Nat)(tg:Nat->TenR)(i0:Nat)(t:TenR):List (Nat×V):=[(2,wN p o m),(3,sN 4 5 6 s),(4,fN n tg i0 (tN 7 8 9 t)),(5,rR s),(6,rL s),(7,rB t),(8,E1 t),(9,rD t)]
def HN(o:OpT):Prop:=o.do=10\/o.do=12\/o.do=13\/o.do=16\/o.do=17
theorem Ye(s:StaR)(o:OpT)(t:TenR)(m:Int)(n:Nat)(tg:Nat->TenR)(i0:Nat)(hO:o.token.length<=50000)(hn:n<=1000)(hi:i0<n)(h0:i0=yU n tg o.tenant)(ht:t=tg i0)(hr:s.nr<=100000):SatHM Tryz.prog false 29 [.pr 2 0 []] [4,5,6,7,8,9] (IR .np s o m n tg i0 t) (fun out ho A0=>∃c m2,out=A1 [.i .i64 c,.bl 0 []]/\A0=[4,5,6,7,8,9]/\((c≠0/\c≠201/\ho=IR .np s o m2 n tg i0 t)\/(c=0/\t.name=o.tenant/\ho=IR (.pr 4 0 [.e i0 38 n]) s o m2 n tg i0 t)\/(c=0/\HN o/\(AscK TenR.name n tg->∀j,j<n->(tg j).name≠o.tenant)/\ho=IR .np s o m2 n tg i0 t))):=by
 refine fH false Tryz.func29 fun X0 w0 hX hm=>?_
 have hbs:=NX n tg o.tenant bd
 rw[<-h0]at hbs
 refine cB ((o.token.length:Int)=0) ?_ ?_<;>intro h1
 ·refine cQ [] (E6 401) ?_
  exact xW hX (A1 [.i .i64 401,.bl 0 []]) ⟨_,m,rfl,rfl,.inl ⟨by decide,by decide,rfl⟩⟩
 refine cK [] (XJ o.token bd) ?_
 rintro out A0 ⟨rfl,⟨L3,bZ,rfl,htk0,htc0⟩⟩
 refine cB (bZ≠0) ?_ ?_<;>intro h2
 ·refine cQ [] (E6 401) ?_
  exact xW hX (A1 [.i .i64 401,.bl 0 []]) ⟨_,m,rfl,rfl,.inl ⟨by decide,by decide,rfl⟩⟩
 refine cK [] (XI s.root L3 o.now bd bd) ?_
 rintro out A0 ⟨rfl,⟨ck1,rfl⟩⟩
 refine cB (ck1≠0) ?_ ?_<;>intro h3
 ·refine cQ [] (E6 401) ?_
  exact xW hX (A1 [.i .i64 401,.bl 0 []]) ⟨_,m,rfl,rfl,.inl ⟨by decide,by decide,rfl⟩⟩
 refine S0 (CD s.nr s.gr L3.serial bd) ?_
 rintro out A0 ⟨rfl,⟨bj2,bp2,rfl,hbj2,hbp2⟩⟩
 refine⟨rfl,?_⟩
 refine cb (bp2) ?_ ?_<;>intro h4
 ·refine cQ [] (E6 401) ?_
  exact xW hX (A1 [.i .i64 401,.bl 0 []]) ⟨_,m,rfl,rfl,.inl ⟨by decide,by decide,rfl⟩⟩
 refine cK [] (WW o.do) ?_
 rintro out A0 ⟨rfl,⟨nd3,ne3,rfl⟩⟩
 refine cK [] (NP L3 bd) ?_;rintro out A0 ⟨rfl,⟨er4,eu4,rfl⟩⟩
 refine cK [] (WX er4 nd3) ?_;rintro out A0 ⟨rfl,⟨cv5,rfl⟩⟩
 refine cn (cv5) ?_ ?_<;>intro h5
 ·refine cQ [] (E6 403) ?_
  exact xW hX (A1 [.i .i64 403,.bl 0 []]) ⟨_,L3.serial,rfl,rfl,.inl ⟨by decide,by decide,rfl⟩⟩
 refine jb (!(decide (L3.tenant=[]))) 9744 (fun(q:Bool)=>[(0,.pr 2 0 []),(2,.pr 16 0 []),(111,.b q)]) (fun(q:Bool)=>[(2,wN .np o (L3.serial)),(3,sN 4 5 6 s),(4,fN n tg i0 (tN 7 8 9 t)),(7,rB t),(8,E1 t),(9,rD t),(5,rR s),(6,rL s),(16,A1 [.i .i64 0,.bl 1 []])]) (fun(q:Bool)=>True) [4,5,6,7,8,9] (fun R hR=>⟨fun h6=>?_,fun h6=>?_⟩) ?_
 ·replace h6:=XF h6
  replace h6:=of_decide_eq_false h6
  refine cK [] (NK o.do) ?_;rintro out A0 ⟨rfl,⟨pr6,rfl⟩⟩
  refine cb (pr6) ?_ ?_<;>intro h7
  ·exact cA hX (hR true trivial) (hS:=⟨v0,v0,(vT (.bc true)),zT⟩)
  exact cA hX (hR (!(decide (L3.tenant=o.tenant))) zT)
 ·replace h6:=jP h6
  replace h6:=of_decide_eq_true h6
  exact cA hX (hR false trivial) (hS:=⟨v0,v0,(vT (.bc false)),zT⟩)
 rintro q hJ
 refine cb (q) ?_ ?_<;>intro h8
 ·refine cQ [] (E6 403) ?_
  exact xW hX (A1 [.i .i64 403,.bl 0 []]) ⟨_,L3.serial,rfl,rfl,.inl ⟨by decide,by decide,rfl⟩⟩
 refine S0 (SatM.weak (ins':=[(dY 38 (tZ 38 i0 (rT n tg) (A1 [.s t.name,.bs 32 t.key,.i .i64 t.quota,.i .i64 t.next,.sl 0 33 t.nb fun i=>C3 (t.gb i),.sl 0 36 t.ns fun i=>C9 (t.gs i),.sl 0 33 t.nd fun i=>E0 (t.gd i)])):V).nz,.s o.tenant,.fn 70 0 fun _=>.un]) (hbs) ⟨(Yd hi ht),VA.rfl,VA.rfl,zT⟩) ?_
 rintro out A0 ⟨rfl,⟨bp7,rfl,gB⟩⟩
 refine⟨rfl,?_⟩
 refine cb (bp7) ?_ ?_<;>intro h9
 ·refine cC ((0:Int)<=(i0:Int)/\(i0:Int)<(n:Int)) ?_
  refine cQ [] (E6 0) ?_;exact xW hX (A1 [.i .i64 0,.bl 0 []]) ⟨_,L3.serial,rfl,rfl,.inr (.inl ⟨rfl,by rw[ht];exact cmp_eq (gB.ok (by assumption)).2,rfl⟩)⟩
 refine cB (o.do=10) ?_ ?_<;>intro K0
 ·refine O1 (o.do=10) K0 ?_
  refine cQ [] (E6 0) ?_;exact xW hX (A1 [.i .i64 0,.bl 0 []]) ⟨_,L3.serial,rfl,rfl,.inr (.inr ⟨rfl,by unfold HN;omega,fun h=>lE h gB (by assumption),rfl⟩)⟩
 refine cB (o.do=13) ?_ ?_<;>intro P9
 ·refine O1 (o.do=13) P9 ?_
  refine cQ [] (E6 0) ?_;exact xW hX (A1 [.i .i64 0,.bl 0 []]) ⟨_,L3.serial,rfl,rfl,.inr (.inr ⟨rfl,by unfold HN;omega,fun h=>lE h gB (by assumption),rfl⟩)⟩
 refine cB (o.do=16) ?_ ?_<;>intro h12
 ·refine O1 (o.do=16) h12 ?_
  refine cQ [] (E6 0) ?_;exact xW hX (A1 [.i .i64 0,.bl 0 []]) ⟨_,L3.serial,rfl,rfl,.inr (.inr ⟨rfl,by unfold HN;omega,fun h=>lE h gB (by assumption),rfl⟩)⟩
 refine cB (o.do=17) ?_ ?_<;>intro w6
 ·refine cQ [] (E6 0) ?_
  exact xW hX (A1 [.i .i64 0,.bl 0 []]) ⟨_,L3.serial,rfl,rfl,.inr (.inr ⟨rfl,by unfold HN;omega,fun h=>lE h gB (by assumption),rfl⟩)⟩
 refine cB (o.do=12) ?_ ?_<;>intro dM
 ·refine cB (o.tenant=[]) ?_ ?_<;>intro dN
  ·refine cQ [] (E6 0) ?_
   exact xW hX (A1 [.i .i64 0,.bl 0 []]) ⟨_,L3.serial,rfl,rfl,.inr (.inr ⟨rfl,by unfold HN;omega,fun h=>lE h gB (by assumption),rfl⟩)⟩
  refine cQ [] (E6 404) ?_
  exact xW hX (A1 [.i .i64 404,.bl 0 []]) ⟨_,L3.serial,rfl,rfl,.inl ⟨by decide,by decide,rfl⟩⟩
 refine cQ [] (E6 404) ?_
 exact xW hX (A1 [.i .i64 404,.bl 0 []]) ⟨_,L3.serial,rfl,rfl,.inl ⟨by decide,by decide,rfl⟩⟩
theorem Yf(s:StaR)(o:OpT)(m:Int)(n:Nat)(tg:Nat->TenR)(hO:o.token.length<=50000)(hn:n<=1000)(h0:n<=yU n tg o.tenant)(hr:s.nr<=100000):SatHM Tryz.prog false 29 [.pr 2 0 []] [4,5,6] (iB s o m n tg) (fun out ho A0=>∃c m2,out=A1 [.i .i64 c,.bl 0 []]/\A0=[4,5,6]/\ho=iB s o m2 n tg/\(c=0->HN o/\(AscK TenR.name n tg->∀j,j<n->(tg j).name≠o.tenant))/\c≠201):=by
 refine fH false Tryz.func29 fun X0 w0 hX hm=>?_
 refine cB ((o.token.length:Int)=0) ?_ ?_<;>intro h1
 ·refine cQ [] (E6 401) ?_
  exact xW hX (A1 [.i .i64 401,.bl 0 []]) ⟨_,m,rfl,rfl,rfl,fun h=>absurd h (by decide),by decide⟩
 refine cK [] (XJ o.token bd) ?_
 rintro out A0 ⟨rfl,⟨L3,bZ,rfl,htk0,htc0⟩⟩
 refine cB (bZ≠0) ?_ ?_<;>intro h2
 ·refine cQ [] (E6 401) ?_
  exact xW hX (A1 [.i .i64 401,.bl 0 []]) ⟨_,m,rfl,rfl,rfl,fun h=>absurd h (by decide),by decide⟩
 refine cK [] (XI s.root L3 o.now bd bd) ?_
 rintro out A0 ⟨rfl,⟨ck1,rfl⟩⟩
 refine cB (ck1≠0) ?_ ?_<;>intro h3
 ·refine cQ [] (E6 401) ?_
  exact xW hX (A1 [.i .i64 401,.bl 0 []]) ⟨_,m,rfl,rfl,rfl,fun h=>absurd h (by decide),by decide⟩
 refine S0 (CD s.nr s.gr L3.serial bd) ?_
 rintro out A0 ⟨rfl,⟨bj2,bp2,rfl,hbj2,hbp2⟩⟩
 refine⟨rfl,?_⟩
 refine cb (bp2) ?_ ?_<;>intro h4
 ·refine cQ [] (E6 401) ?_
  exact xW hX (A1 [.i .i64 401,.bl 0 []]) ⟨_,m,rfl,rfl,rfl,fun h=>absurd h (by decide),by decide⟩
 refine cK [] (WW o.do) ?_
 rintro out A0 ⟨rfl,⟨nd3,ne3,rfl⟩⟩
 refine cK [] (NP L3 bd) ?_;rintro out A0 ⟨rfl,⟨er4,eu4,rfl⟩⟩
 refine cK [] (WX er4 nd3) ?_;rintro out A0 ⟨rfl,⟨cv5,rfl⟩⟩
 refine cn (cv5) ?_ ?_<;>intro h5
 ·refine cQ [] (E6 403) ?_
  exact xW hX (A1 [.i .i64 403,.bl 0 []]) ⟨_,L3.serial,rfl,rfl,rfl,fun h=>absurd h (by decide),by decide⟩
 refine jb (!(decide (L3.tenant=[]))) 9744 (fun(q:Bool)=>[(0,.pr 2 0 []),(2,.pr 16 0 []),(111,.b q)]) (fun(q:Bool)=>[(2,wN .np o (L3.serial)),(3,sN 4 5 6 s),(4,rT n tg),(5,rR s),(6,rL s),(16,A1 [.i .i64 0,.bl 1 []])]) (fun(q:Bool)=>True) [4,5,6] (fun R hR=>⟨fun h6=>?_,fun h6=>?_⟩) ?_
 ·replace h6:=XF h6
  replace h6:=of_decide_eq_false h6
  refine cK [] (NK o.do) ?_;rintro out A0 ⟨rfl,⟨pr6,rfl⟩⟩
  refine cb (pr6) ?_ ?_<;>intro h7
  ·exact cA hX (hR true trivial) (hS:=⟨v0,v0,(vT (.bc true)),zT⟩)
  exact cA hX (hR (!(decide (L3.tenant=o.tenant))) zT)
 ·replace h6:=jP h6
  replace h6:=of_decide_eq_true h6
  exact cA hX (hR false trivial) (hS:=⟨v0,v0,(vT (.bc false)),zT⟩)
 rintro q hJ
 refine cb (q) ?_ ?_<;>intro h8
 ·refine cQ [] (E6 403) ?_
  exact xW hX (A1 [.i .i64 403,.bl 0 []]) ⟨_,L3.serial,rfl,rfl,rfl,fun h=>absurd h (by decide),by decide⟩
 refine S0 (NX n tg o.tenant bd) ?_
 rintro out A0 ⟨rfl,⟨bp7,rfl,gB⟩⟩
 refine⟨rfl,?_⟩
 refine cb (bp7) ?_ ?_<;>intro h9
 ·exact absurd (gB.ok (by assumption)).1 zO
 refine cB (o.do=10) ?_ ?_<;>intro K0
 ·refine O1 (o.do=10) K0 ?_
  refine cQ [] (E6 0) ?_;exact xW hX (A1 [.i .i64 0,.bl 0 []]) ⟨_,L3.serial,rfl,rfl,rfl,fun _=>⟨by unfold HN;omega,fun h=>lE h gB (by assumption)⟩,by decide⟩
 refine cB (o.do=13) ?_ ?_<;>intro P9
 ·refine O1 (o.do=13) P9 ?_
  refine cQ [] (E6 0) ?_;exact xW hX (A1 [.i .i64 0,.bl 0 []]) ⟨_,L3.serial,rfl,rfl,rfl,fun _=>⟨by unfold HN;omega,fun h=>lE h gB (by assumption)⟩,by decide⟩
 refine cB (o.do=16) ?_ ?_<;>intro h12
 ·refine O1 (o.do=16) h12 ?_
  refine cQ [] (E6 0) ?_;exact xW hX (A1 [.i .i64 0,.bl 0 []]) ⟨_,L3.serial,rfl,rfl,rfl,fun _=>⟨by unfold HN;omega,fun h=>lE h gB (by assumption)⟩,by decide⟩
 refine cB (o.do=17) ?_ ?_<;>intro w6
 ·refine cQ [] (E6 0) ?_
  exact xW hX (A1 [.i .i64 0,.bl 0 []]) ⟨_,L3.serial,rfl,rfl,rfl,fun _=>⟨by unfold HN;omega,fun h=>lE h gB (by assumption)⟩,by decide⟩
 refine cB (o.do=12) ?_ ?_<;>intro dM
 ·refine cB (o.tenant=[]) ?_ ?_<;>intro dN
  ·refine cQ [] (E6 0) ?_
   exact xW hX (A1 [.i .i64 0,.bl 0 []]) ⟨_,L3.serial,rfl,rfl,rfl,fun _=>⟨by unfold HN;omega,fun h=>lE h gB (by assumption)⟩,by decide⟩
  refine cQ [] (E6 404) ?_
  exact xW hX (A1 [.i .i64 404,.bl 0 []]) ⟨_,L3.serial,rfl,rfl,rfl,fun h=>absurd h (by decide),by decide⟩
 refine cQ [] (E6 404) ?_
 exact xW hX (A1 [.i .i64 404,.bl 0 []]) ⟨_,L3.serial,rfl,rfl,rfl,fun h=>absurd h (by decide),by decide⟩
structure SOk (s:StaR) (n:Nat) (tg:Nat->TenR):Prop where
 hn:n<=1000
 hr:s.nr<=100000
 hl:s.nl<=4096
 hb:∀i,i<n->TB (tg i)
 hg:∀i,i<s.nl->(s.gl i).tenant.length<=100
 asc:AscK TenR.name n tg
theorem SOk.stb{s:StaR}{n:Nat}{tg:Nat->TenR}(h:SOk s n tg):StB s n tg:=⟨h.hn,h.hr,J2 h.hl (by decide),fun i hi=>⟨(h.hb i hi).nb,(h.hb i hi).ns,(h.hb i hi).nd⟩,fun i hi=>(h.hb i hi).db⟩
structure StepP (o:OpT) (s s2:StaR) (n n2:Nat) (tg tg2:Nat->TenR) (c:Int) (b:By):Prop where
 ref:c=200\/c=201\/(s2.serial=s.serial/\s2.nr=s.nr/\s2.gr=s.gr/\n2=n/\(∀k,k<n->tg2 k=tg k)/\b=[])
 rd:lD o.do->s2.serial=s.serial/\s2.nr=s.nr/\s2.gr=s.gr/\n2=n/\∀k,k<n->tg2 k=tg k
 ok:SOk s n tg->SOk s2 n2 tg2
 eq:s2.root=s.root/\s2.delay=s.delay
 bl:b.length<=4000000000/\(o.do=12->b.length<=20000)
 ch:AscK TenR.name n tg->ChP o c n n2 tg tg2
theorem StepP.no{o:OpT}{s:StaR}{n:Nat}{tg:Nat->TenR}{c:Int}(hc1:c≠201:=by first|decide|assumption):StepP o s s n n tg tg c []:=⟨.inr (.inr ⟨rfl,rfl,rfl,rfl,fun _ _=>rfl,rfl⟩),fun _=>⟨rfl,rfl,rfl,rfl,fun _ _=>rfl⟩,id,⟨rfl,rfl⟩,⟨by simp,fun _=>by simp⟩,fun _=>.all (fun q=>hc1 q.2) (fun k h=>⟨k,h,rfl⟩) fun k h=>.inl ⟨k,h,rfl⟩⟩
theorem StepP.mk1{o:OpT}{s s2:StaR}{n n2:Nat}{tg tg2:Nat->TenR}{c:Int}{b h:By}{e:Ent}(hp:DoP o s s2 n n2 tg tg2 c b)(hl:s.nl<4096)(he:e.tenant.length<=100):StepP o s ⟨s2.root,s2.delay,s2.serial,s2.nr,s2.gr,s2.nl+1,J1 s2.nl s2.gl e,h⟩ n n2 tg tg2 c b:=
 ⟨hp.ref.imp id (.imp id fun⟨h1,h2,h3,h4⟩=>by subst h1;exact⟨rfl,rfl,rfl,h2,h3,h4⟩),fun h=>by obtain⟨h1,h2,h3⟩:=hp.rd h;subst h1;exact⟨rfl,rfl,rfl,h2,h3⟩,fun h=>by
  obtain⟨_,_,e1,e2,_⟩:=hp.eq
  refine⟨hp.nb h.hn,hp.nr h.hr,by dsimp only;omega,hp.tb h.hb,?_,hp.asc h.asc⟩
  dsimp only
  rw[e1,e2]
  exact fun j hj=>nH (p:=fun x:Ent=>x.tenant.length<=100) h.hg he j hj,⟨hp.eq.1,hp.eq.2.1⟩,hp.bl,hp.ch⟩
theorem DoP.no{o:OpT}{s:StaR}{n:Nat}{tg:Nat->TenR}{c:Int}(hc1:c≠201:=by first|decide|assumption):DoP o s s n n tg tg c []:=⟨.inr (.inr ⟨rfl,rfl,fun _ _=>rfl,rfl⟩),fun _=>⟨rfl,rfl,fun _ _=>rfl⟩,id,id,id,⟨rfl,rfl,rfl,rfl,rfl⟩,⟨by simp,fun _=>by simp⟩,fun _=>.all (fun q=>hc1 q.2) (fun k h=>⟨k,h,rfl⟩) fun k h=>.inl ⟨k,h,rfl⟩,id⟩
theorem CP(s:StaR)(o:OpT)(n:Nat)(tg:Nat->TenR)(hS:SOk s n tg)(ho1:o.token.length<=50000)(ho2:o.tenant.length<=1000):SatM Tryz.prog true 13 [I9 (.sl 0 38 n fun i=>B4 (tg i)) s,J4 o] [] (fun out ho A0=>∃c b s2 n2 tg2,out=A2 [zD 16 s2,A1 [.i .i64 c,.bl 0 b]]/\ho=zF 16 (rT n2 tg2) s2/\A0=[]/\StepP o s s2 n n2 tg tg2 c b):=by
 refine fM true Tryz.func13 fun X0 w0 hX hm=>?_
 refine rS 0 fun hv=>?_
 have hk:∀i,i<n->(tg i).key.length=32:=fun i hi=>hv 3 (show 3<7 by decide) i hi 1 (show 1<7 by decide)
 have hh:s.head.length=32:=hv 6 (show 6<7 by decide)
 have hn:=hS.hn
 have hr:=hS.hr
 have hl:=hS.hl
 have hg:=hS.hg
 obtain⟨i0,h0⟩:∃i0,i0=yU n tg o.tenant:=⟨_,rfl⟩
 have htw:=As s n tg i0 hS.stb
 refine kO [] (htw) ?_;rintro out ho A0 (⟨hi,rfl,rfl,rfl⟩|⟨hi,rfl,rfl,rfl⟩)
 ·refine cB (4096<=(s.nl:Int)) ?_ ?_<;>intro h1
  ·refine cQ [] (E6 507) ?_
   refine gZ 356 ?_;refine gZ 357 ?_;refine gZ 358 ?_;refine gR 352 (fN n tg i0 (A1 [.s ((tg i0).name),.bs 32 ((tg i0).key),.i .i64 ((tg i0).quota),.i .i64 ((tg i0).next),.sl 356 33 ((tg i0).nb) fun i=>C3 ((tg i0).gb i),.sl 357 36 ((tg i0).ns) fun i=>C9 ((tg i0).gs i),.sl 358 33 ((tg i0).nd) fun i=>E0 ((tg i0).gd i)])) (rT n tg) (fJ rfl rfl rfl) ?_;exact xW hX (A2 [sN 16 17 18 s,A1 [.i .i64 507,.bl 0 []]]) ⟨_,_,s,n,tg,rfl,rfl,rfl,.no⟩
  refine cK [] (YL o bd) ?_
  rintro out A0 ⟨rfl,⟨my0,rfl,hmy0⟩⟩
  refine cn (my0) ?_ ?_<;>intro h2
  ·refine cQ [] (E6 400) ?_
   refine gZ 356 ?_;refine gZ 357 ?_;refine gZ 358 ?_;refine gR 352 (fN n tg i0 (A1 [.s ((tg i0).name),.bs 32 ((tg i0).key),.i .i64 ((tg i0).quota),.i .i64 ((tg i0).next),.sl 356 33 ((tg i0).nb) fun i=>C3 ((tg i0).gb i),.sl 357 36 ((tg i0).ns) fun i=>C9 ((tg i0).gs i),.sl 358 33 ((tg i0).nd) fun i=>E0 ((tg i0).gd i)])) (rT n tg) (fJ rfl rfl rfl) ?_;exact xW hX (A2 [sN 16 17 18 s,A1 [.i .i64 400,.bl 0 []]]) ⟨_,_,s,n,tg,rfl,rfl,rfl,.no⟩
  have hO:OB o:=⟨(hmy0 h2).1,ho1,(hmy0 h2).2.1,(hmy0 h2).2.2.2.2⟩
  have hn16:=hO.hn
  refine kH [(1232,2),(400,3),(352,4),(353,5),(354,6),(356,7),(357,8),(358,9)] [1232,400,352,353,354,356,357,358] (Ye s o (tg i0) 0 n tg i0 bd hn hi h0 rfl hr) ?_;rintro out ho A0 (⟨c1,m1,rfl,rfl,(⟨hc,hc1,rfl⟩|⟨hc,K3,rfl⟩|⟨hc,hd,U4,rfl⟩)⟩)
  ·refine E2 (c1=0) hc ?_
   refine cK [] (qH s.head ⟨(s.nl:Int),o.now,m1,o.tenant,o.do,c1,o.of⟩ bd) ?_;rintro out A0 ⟨rfl,⟨wR,le2,rfl⟩⟩
   refine gZ 356 ?_;refine gZ 357 ?_;refine gZ 358 ?_;refine gR 352 (fN n tg i0 (A1 [.s ((tg i0).name),.bs 32 ((tg i0).key),.i .i64 ((tg i0).quota),.i .i64 ((tg i0).next),.sl 356 33 ((tg i0).nb) fun i=>C3 ((tg i0).gb i),.sl 357 36 ((tg i0).ns) fun i=>C9 ((tg i0).gs i),.sl 358 33 ((tg i0).nd) fun i=>E0 ((tg i0).gd i)])) (rT n tg) (fJ rfl rfl rfl) ?_;refine cC ((s.nl+1)*88<=140737488355328) ?_;refine jA 2 8464 (fun(u:Unit)=>[(4,.pr 144 0 []),(5,.pr 208 0 [])]) (fun(u:Unit)=>[(144,A1 [.bs 32 s.root,.i .i64 s.delay,.i .u64 s.serial,.os 352 38,.os 353 1,.os 3920 38,.bs 32 wR]),(352,rT n tg),(353,rR s),(3920,.ar 38 (s.nl+1) fun i=>bif blt i s.nl then H8 (s.gl i) else A1 [.i .i64 (s.nl:Int),.i .i64 o.now,.i .u64 m1,.s o.tenant,.i .i64 o.do,.i .i64 c1,.bs 32 o.of]),(208,A1 [.i .i64 c1,.bl 0 []])]) (fun(u:Unit)=>True) [352,353,3920] (fun R hR i hi=>?_) ?_
   ·match i,hi with
   |0,_|1,_=>
     exact cA hX (hR () zT)
   rintro u hJ
   exact xW hX (A2 [A1 [.bs 32 s.root,.i .i64 s.delay,.i .u64 s.serial,.os 16 38,.os 17 1,.os 18 38,.bs 32 wR],A1 [.i .i64 c1,.bl 0 []]]) ⟨_,_,⟨s.root,s.delay,s.serial,s.nr,s.gr,(s.nl+1),(J1 s.nl s.gl ⟨(s.nl:Int),o.now,m1,o.tenant,o.do,c1,o.of⟩),wR⟩,n,tg,rfl,rfl,rfl,.mk1 .no zO bd⟩ (hH:=⟨v0,v0,(vT (u:=.ar 38 (s.nl+1) fun i=>bif blt i s.nl then H8 (s.gl i) else A1 [.i .i64 (s.nl:Int),.i .i64 o.now,.i .u64 m1,.s o.tenant,.i .i64 o.do,.i .i64 c1,.bs 32 o.of]) ((jS (e:=H8)))),zT⟩)
  ·refine O1 (c1=0) hc ?_
   refine gV (fun _=>hm rfl) [(1232,2),(400,3),(352,4),(353,5),(354,6),(356,7),(357,8),(358,9)] [1232,400,352,353,354,356,357,358] (Yc s o (tg i0) m1 n tg i0 (hS.hb _ hi) hO rfl hi K3 ⟨hk _ hi,hh⟩ hr hl hg) ?_;rintro out ho A0 ⟨d3,b3,z3,tz3,rfl,rfl,rfl,sD⟩
   have hz:=sD.eq.2.2.1
   refine cK [] (qH s.head ⟨(s.nl:Int),o.now,m1,o.tenant,o.do,d3,o.of⟩ bd) ?_;rintro out A0 ⟨rfl,⟨lm4,le4,rfl⟩⟩
   refine cC ((z3.nl+1)*88<=140737488355328) ?_;refine jA 2 8656 (fun(u:Unit)=>[(4,.pr 144 0 []),(5,.pr 208 0 [])]) (fun(u:Unit)=>[(144,A1 [.bs 32 z3.root,.i .i64 z3.delay,.i .u64 z3.serial,.os 352 38,.os 1888 1,.os 4112 38,.bs 32 lm4]),(352,.ar 38 n fun i=>B4 (tz3 i)),(1888,rR z3),(4112,.ar 38 (z3.nl+1) fun i=>bif blt i z3.nl then H8 (z3.gl i) else A1 [.i .i64 (s.nl:Int),.i .i64 o.now,.i .u64 m1,.s o.tenant,.i .i64 o.do,.i .i64 d3,.bs 32 o.of]),(208,A1 [.i .i64 d3,.bl 0 b3])]) (fun(u:Unit)=>True) [4112] (fun R hR i hi=>?_) ?_
   ·match i,hi with
   |0,_|1,_=>
     exact cA hX (hR () zT)
   rintro u hJ
   exact xW hX (A2 [A1 [.bs 32 z3.root,.i .i64 z3.delay,.i .u64 z3.serial,.os 16 38,.os 17 1,.os 18 38,.bs 32 lm4],A1 [.i .i64 d3,.bl 0 b3]]) ⟨_,_,⟨z3.root,z3.delay,z3.serial,z3.nr,z3.gr,(z3.nl+1),(J1 z3.nl z3.gl ⟨(s.nl:Int),o.now,m1,o.tenant,o.do,d3,o.of⟩),lm4⟩,n,tz3,rfl,rfl,rfl,.mk1 sD zO bd⟩ (hH:=⟨v0,v0,(vT (u:=.ar 38 (z3.nl+1) fun i=>bif blt i z3.nl then H8 (z3.gl i) else A1 [.i .i64 (s.nl:Int),.i .i64 o.now,.i .u64 m1,.s o.tenant,.i .i64 o.do,.i .i64 d3,.bs 32 o.of]) ((jS (e:=H8)))),zT⟩)
  refine gZ 356 ?_
  refine gZ 357 ?_;refine gZ 358 ?_;refine gR 352 (fN n tg i0 (A1 [.s ((tg i0).name),.bs 32 ((tg i0).key),.i .i64 ((tg i0).quota),.i .i64 ((tg i0).next),.sl 356 33 ((tg i0).nb) fun i=>C3 ((tg i0).gb i),.sl 357 36 ((tg i0).ns) fun i=>C9 ((tg i0).gs i),.sl 358 33 ((tg i0).nd) fun i=>E0 ((tg i0).gd i)])) (rT n tg) (fJ rfl rfl rfl) ?_;refine gR 400 (sN 352 353 354 s) (sN 352 353 354 s) (yB (.rfl _) rfl) ?_;refine gR 1232 (A1 [.pr 400 0 [],J4 o,.np,.i .u64 m1]) (A1 [.pr 400 0 [],J4 o,.np,.i .u64 m1]) (yB (.rfl _) rfl) ?_;refine O1 (c1=0) hc ?_;refine gV (fun _=>hm rfl) [(1232,2),(400,3),(352,4),(353,5),(354,6)] [1232,400,352,353,354] (Bk s o m1 n tg hn hO hd U4 hh hr hl hg) ?_;rintro out ho A0 ⟨d5,b5,z5,nz5,tz5,rfl,rfl,rfl,sD⟩
  have hz:=sD.eq.2.2.1
  refine cK [] (qH s.head ⟨(s.nl:Int),o.now,m1,o.tenant,o.do,d5,o.of⟩ bd) ?_;rintro out A0 ⟨rfl,⟨lm6,le6,rfl⟩⟩
  refine cC ((z5.nl+1)*88<=140737488355328) ?_;refine jA 2 8656 (fun(u:Unit)=>[(4,.pr 144 0 []),(5,.pr 208 0 [])]) (fun(u:Unit)=>[(144,A1 [.bs 32 z5.root,.i .i64 z5.delay,.i .u64 z5.serial,.os 1889 38,.os 1888 1,.os 4112 38,.bs 32 lm6]),(1888,rR z5),(1889,.ar 38 nz5 fun i=>B4 (tz5 i)),(4112,.ar 38 (z5.nl+1) fun i=>bif blt i z5.nl then H8 (z5.gl i) else A1 [.i .i64 (s.nl:Int),.i .i64 o.now,.i .u64 m1,.s o.tenant,.i .i64 o.do,.i .i64 d5,.bs 32 o.of]),(208,A1 [.i .i64 d5,.bl 0 b5])]) (fun(u:Unit)=>True) [4112] (fun R hR i hi=>?_) ?_
  ·match i,hi with
  |0,_|1,_=>
    exact cA hX (hR () zT)
  rintro u hJ
  exact xW hX (A2 [A1 [.bs 32 z5.root,.i .i64 z5.delay,.i .u64 z5.serial,.os 16 38,.os 17 1,.os 18 38,.bs 32 lm6],A1 [.i .i64 d5,.bl 0 b5]]) ⟨_,_,⟨z5.root,z5.delay,z5.serial,z5.nr,z5.gr,(z5.nl+1),(J1 z5.nl z5.gl ⟨(s.nl:Int),o.now,m1,o.tenant,o.do,d5,o.of⟩),lm6⟩,nz5,tz5,rfl,rfl,rfl,.mk1 sD zO bd⟩ (hH:=⟨v0,v0,(vT (u:=.ar 38 (z5.nl+1) fun i=>bif blt i z5.nl then H8 (z5.gl i) else A1 [.i .i64 (s.nl:Int),.i .i64 o.now,.i .u64 m1,.s o.tenant,.i .i64 o.do,.i .i64 d5,.bs 32 o.of]) ((jS (e:=H8)))),zT⟩)
 refine cB (4096<=(s.nl:Int)) ?_ ?_<;>intro h3
 ·refine cQ [] (E6 507) ?_
  exact xW hX (A2 [sN 16 17 18 s,A1 [.i .i64 507,.bl 0 []]]) ⟨_,_,s,n,tg,rfl,rfl,rfl,.no⟩
 refine cK [] (YL o bd) ?_
 rintro out A0 ⟨rfl,⟨my7,rfl,hmy7⟩⟩
 refine cn (my7) ?_ ?_<;>intro h4
 ·refine cQ [] (E6 400) ?_
  exact xW hX (A2 [sN 16 17 18 s,A1 [.i .i64 400,.bl 0 []]]) ⟨_,_,s,n,tg,rfl,rfl,rfl,.no⟩
 have hO:OB o:=⟨(hmy7 h4).1,ho1,(hmy7 h4).2.1,(hmy7 h4).2.2.2.2⟩
 have hn16:=hO.hn
 refine kH [(1232,2),(400,3),(352,4),(353,5),(354,6)] [1232,400,352,353,354] (Yf s o 0 n tg bd hn (by rw[<-h0];exact hi) hr) ?_;rintro out ho A0 ⟨c8,m8,rfl,rfl,rfl,hd,hc1⟩
 refine cB (c8=0) ?_ ?_<;>intro h5
 ·refine gV (fun _=>hm rfl) [(1232,2),(400,3),(352,4),(353,5),(354,6)] [1232,400,352,353,354] (Bk s o m8 n tg hn hO (hd h5).1 (hd h5).2 hh hr hl hg) ?_
  rintro out ho A0 ⟨d9,b9,z9,nz9,tz9,rfl,rfl,rfl,sD⟩
  have hz:=sD.eq.2.2.1
  refine cK [] (qH s.head ⟨(s.nl:Int),o.now,m8,o.tenant,o.do,d9,o.of⟩ bd) ?_;rintro out A0 ⟨rfl,⟨lm10,le10,rfl⟩⟩
  refine cC ((z9.nl+1)*88<=140737488355328) ?_;refine jA 2 8656 (fun(u:Unit)=>[(4,.pr 144 0 []),(5,.pr 208 0 [])]) (fun(u:Unit)=>[(144,A1 [.bs 32 z9.root,.i .i64 z9.delay,.i .u64 z9.serial,.os 1889 38,.os 1888 1,.os 4112 38,.bs 32 lm10]),(1888,rR z9),(1889,.ar 38 nz9 fun i=>B4 (tz9 i)),(4112,.ar 38 (z9.nl+1) fun i=>bif blt i z9.nl then H8 (z9.gl i) else A1 [.i .i64 (s.nl:Int),.i .i64 o.now,.i .u64 m8,.s o.tenant,.i .i64 o.do,.i .i64 d9,.bs 32 o.of]),(208,A1 [.i .i64 d9,.bl 0 b9])]) (fun(u:Unit)=>True) [4112] (fun R hR i hi=>?_) ?_
  ·match i,hi with
  |0,_|1,_=>
    exact cA hX (hR () zT)
  rintro u hJ
  exact xW hX (A2 [A1 [.bs 32 z9.root,.i .i64 z9.delay,.i .u64 z9.serial,.os 16 38,.os 17 1,.os 18 38,.bs 32 lm10],A1 [.i .i64 d9,.bl 0 b9]]) ⟨_,_,⟨z9.root,z9.delay,z9.serial,z9.nr,z9.gr,(z9.nl+1),(J1 z9.nl z9.gl ⟨(s.nl:Int),o.now,m8,o.tenant,o.do,d9,o.of⟩),lm10⟩,nz9,tz9,rfl,rfl,rfl,.mk1 sD zO bd⟩ (hH:=⟨v0,v0,(vT (u:=.ar 38 (z9.nl+1) fun i=>bif blt i z9.nl then H8 (z9.gl i) else A1 [.i .i64 (s.nl:Int),.i .i64 o.now,.i .u64 m8,.s o.tenant,.i .i64 o.do,.i .i64 d9,.bs 32 o.of]) ((jS (e:=H8)))),zT⟩)
 refine cK [] (qH s.head ⟨(s.nl:Int),o.now,m8,o.tenant,o.do,c8,o.of⟩ bd) ?_
 rintro out A0 ⟨rfl,⟨lm11,le11,rfl⟩⟩
 refine cC ((s.nl+1)*88<=140737488355328) ?_;refine jA 2 8464 (fun(u:Unit)=>[(4,.pr 144 0 []),(5,.pr 208 0 [])]) (fun(u:Unit)=>[(144,A1 [.bs 32 s.root,.i .i64 s.delay,.i .u64 s.serial,.os 352 38,.os 353 1,.os 3920 38,.bs 32 lm11]),(352,rT n tg),(353,rR s),(3920,.ar 38 (s.nl+1) fun i=>bif blt i s.nl then H8 (s.gl i) else A1 [.i .i64 (s.nl:Int),.i .i64 o.now,.i .u64 m8,.s o.tenant,.i .i64 o.do,.i .i64 c8,.bs 32 o.of]),(208,A1 [.i .i64 c8,.bl 0 []])]) (fun(u:Unit)=>True) [352,353,3920] (fun R hR i hi=>?_) ?_
 ·match i,hi with
 |0,_|1,_=>
   exact cA hX (hR () zT)
 rintro u hJ
 exact xW hX (A2 [A1 [.bs 32 s.root,.i .i64 s.delay,.i .u64 s.serial,.os 16 38,.os 17 1,.os 18 38,.bs 32 lm11],A1 [.i .i64 c8,.bl 0 []]]) ⟨_,_,⟨s.root,s.delay,s.serial,s.nr,s.gr,(s.nl+1),(J1 s.nl s.gl ⟨(s.nl:Int),o.now,m8,o.tenant,o.do,c8,o.of⟩),lm11⟩,n,tg,rfl,rfl,rfl,.mk1 .no zO bd⟩ (hH:=⟨v0,v0,(vT (u:=.ar 38 (s.nl+1) fun i=>bif blt i s.nl then H8 (s.gl i) else A1 [.i .i64 (s.nl:Int),.i .i64 o.now,.i .u64 m8,.s o.tenant,.i .i64 o.do,.i .i64 c8,.bs 32 o.of]) ((jS (e:=H8)))),zT⟩)
def pB(v i:Int):UInt8:=UInt8.ofNat ((u8.wrap (v.fdiv (2 ^ (min ((u64.wrap (8*(u64.wrap i)))).toNat 64))))).toNat
def qJ(v:Int):Nat->By->By
|0,l=>l
|k+1,l=>qJ v k (l++[pB v (((k+1:Nat):Int)-1)])
theorem Yg{v:Int}{l z:By}(hk:0<=(k:Int)-1)(h:qJ v k l=z):qJ v (k-1) (l++[pB v ((k:Int)-1)])=z:=by
 obtain⟨j,rfl⟩:∃j,k=j+1:=⟨k-1,zO⟩
 exact h
theorem Yh{v:Int}{l z:By}(hk:¬ 0<=(k:Int)-1)(h:qJ v k l=z):l=z:=by
 obtain rfl:k=0:=by omega
 exact h
def zG:By:=[0,0,0,0,0,0,0,0,0,15,0,0,0,0,0,0,0,0,255,255,255,255,255,255,255,254]
def IS(p:By×Int):By×Int:=([UInt8.ofNat ((u8.wrap (p.2.tmod 256))).toNat]++p.1,u64.wrap (p.2.tdiv 256))
def T2(k:By):By:=jO k (s9 ((List.range 1).map fun _=>zG))
theorem Bl(k:By)(hk:k.length=32):Sat Tryz.prog 51 [.bl 0 ((k.drop 0).take 32),.sl 1 1 1 fun _=>.bl 0 zG] [] (fun out A0=>A0=[]/\out=.bs 32 (T2 k)):=by
 have e:(k.drop 0).take 32=k:=by rw[qM,V9 zO]
 rw[e]
 exact WT k 0 1 1 (fun _=>.bl 0 zG) (fun _=>zG) (fun _ _=>⟨_,rfl⟩) (by decide) (by decide)
theorem Bm{k:By}:(T2 k).length=32:=HC _ _
def uU{α:Type}(f:α->α):Nat->α->α
|0,a=>a
|k+1,a=>uU f k (f a)
theorem Yi{f:α->α}{n:Nat}{a z:α}(hk:k<n)(h:uU f (n-k) a=z):uU f (n-(k+1)) (f a)=z:=by rw[show n-k=(n-(k+1))+1 by omega]at h;exact h
theorem Yj{f:α->α}{n:Nat}{a z:α}(hk:¬ k<n)(h:uU f (n-k) a=z):a=z:=by rw[show n-k=0 by omega]at h;exact h
theorem OV(b:By)(v:Int)(r:By)(h:qJ v 8 b=r)(hb:b.length<1000000):Sat Tryz.prog 98 [.bl 0 b,.i .u64 v,.i .i64 8] [] (fun out A0=>out=A2 [.bl 2 r,.i .i64 0]/\A0=[2]):=by
 refine cF Tryz.func98 fun X0 w0 hX=>?_
 refine E2 ((8:Int)<1) (by decide) ?_;refine E2 (8<(8:Int)) (by decide) ?_;refine E2 ((8:Int)<8) (by decide) ?_;refine cK [] (uD b 8 bd zO) ?_;rintro out A0 ⟨rfl,rfl⟩
 refine cM hX (fun(p:By×Nat)=>[(1,.i .u64 v),(8,.bl 2 p.1),(9,.i .i64 ((p.2:Int)-1))]) (fun(p:By×Nat)=>[]) (fun(p:By×Nat)=>qJ v p.2 p.1=r/\p.1.length+p.2<=b.length+8/\p.2<=8) (fun(p:By×Nat)=>p.2) [2] 1744 (b,8) ⟨h,by simp,by simp⟩ ?_;rintro⟨l,k⟩ hI R hR
 dsimp only at hI
 refine cB (0<=(k:Int)-1) ?_ ?_<;>intro h1
 ·refine cC ((0:Int)<=(u64.wrap (8*(u64.wrap ((k:Int)-1))))) ?_ (hp:=(P3 _).1)
  refine cC ((l.length+[UInt8.ofNat ((u8.wrap (v.fdiv (2 ^ (min ((u64.wrap (8*(u64.wrap ((k:Int)-1))))).toNat 64))))).toNat].length)*1<=140737488355328) ?_ bw;exact cA hX (hR ((l++[UInt8.ofNat ((u8.wrap (v.fdiv (2 ^ (min ((u64.wrap (8*(u64.wrap ((k:Int)-1))))).toNat 64))))).toNat]),k-1) ⟨Yg h1 hI.1,by simp only[C6,u7];omega,by dsimp only;omega⟩ (by dsimp only;omega)) (hS:=⟨v0,v0,(vW (a:=((k:Int)-1-1)) zO),zT⟩)
 exact xW hX (A2 [.bl 2 l,.i .i64 0]) ⟨rfl,by rw[Yh h1 hI.1],rfl⟩
theorem Yk(b:By)(hb:b.length<1000000):Sat Tryz.prog 126 [.bl 0 b,.i .u64 0] [] (fun out A0=>out=.bl 2 (b++[0])/\A0=[2]):=by
 refine cF Tryz.func126 fun X0 w0 hX=>?_
 refine cK [] (uD b 10 bd zO) ?_;rintro out A0 ⟨rfl,rfl⟩
 refine cM hX (fun(u:Unit)=>[(1,.i .u64 0),(5,.bl 146 b)]) (fun(u:Unit)=>[]) (fun(u:Unit)=>True) (fun(u:Unit)=>0) [146] 272 () trivial ?_;rintro u hI R hR
 refine E2 (127<(0:Int)) (by decide) ?_;refine cC ((b.length+[0].length)*1<=140737488355328) ?_ bd;exact xW hX (.bl 2 (b++[0])) ⟨rfl,rfl,rfl⟩
theorem Yl(b:By)(hb:b.length<900000):Sat Tryz.prog 100 [.bl 0 b,.bl 0 []] [] (fun out A0=>out=A2 [.bl 2 (b++[0]),.i .i64 0]/\A0=[2]):=by
 refine cF Tryz.func100 fun X0 w0 hX=>?_
 refine E2 (65536<(0:Int)) (by decide) ?_;refine cK [] (Yk b bd) ?_;rintro out A0 ⟨rfl,rfl⟩
 refine cC (((b++[0]).length+([]:By).length)*1<=140737488355328) ?_ bd;exact xW hX (A2 [.bl 2 ((b++[0])++[]),.i .i64 0]) ⟨rfl,by rw[Z5],rfl⟩
theorem Ym  :Sat Tryz.prog 149 [.i .i64 0] [] (fun out A0=>A0=[]/\(out=.i .u64 0)):=by
 refine cF Tryz.func149 fun X0 w0 hX=>?_
 exact xW hX (.i .u64 0) ⟨rfl,rfl,rfl⟩
theorem Yn  :Sat Tryz.prog 149 [.i .i64 9223372036854775807] [] (fun out A0=>A0=[]/\(out=.i .u64 18446744073709551614)):=by
 refine cF Tryz.func149 fun X0 w0 hX=>?_
 exact xW hX (.i .u64 18446744073709551614) ⟨rfl,rfl,rfl⟩
theorem Yo  :Sat Tryz.prog 49 [.i .i64 0] [] (fun out A0=>A0=[]/\(out=.i .u64 0)):=by
 refine cF Tryz.func49 fun X0 w0 hX=>?_
 refine E2 ((0:Int)<0) (by decide) ?_;exact xW hX (.i .u64 0) ⟨rfl,rfl,rfl⟩
theorem Yp  :Sat Tryz.prog 49 [.i .i64 9223372036854775807] [] (fun out A0=>A0=[]/\(out=.i .u64 18446744073709551614)):=by
 refine cF Tryz.func49 fun X0 w0 hX=>?_
 refine E2 ((9223372036854775807:Int)<0) (by decide) ?_;exact xW hX (.i .u64 18446744073709551614) ⟨rfl,rfl,rfl⟩
theorem Yq  :Sat Tryz.prog 104 [.i .u64 0] [] (fun out A0=>A0=[]/\(out=.i .i64 0)):=by
 refine cF Tryz.func104 fun X0 w0 hX=>?_
 exact xW hX (.i .i64 0) ⟨rfl,rfl,rfl⟩
theorem Yr  :Sat Tryz.prog 104 [.i .u64 18446744073709551614] [] (fun out A0=>A0=[]/\(out=.i .i64 9223372036854775807)):=by
 refine cF Tryz.func104 fun X0 w0 hX=>?_
 exact xW hX (.i .i64 9223372036854775807) ⟨rfl,rfl,rfl⟩
theorem Ys  :Sat Tryz.prog 60 [.i .u8 15] [] (fun out A0=>A0=[]/\(out=.b true)):=by
 refine cF Tryz.func60 fun X0 w0 hX=>?_
 exact xW hX (.b true) ⟨rfl,rfl,rfl⟩ (hv:=vT (u:=.b (decide ((0:Int)=0))) v0)
theorem Yt(b r:By)(h:qJ 0 8 b=r)(hb:b.length<1000000):Sat Tryz.prog 101 [.bl 0 b,.i .i64 0] [] (fun out A0=>out=.bl 2 r/\A0=[2]):=by
 refine cF Tryz.func101 fun X0 w0 hX=>?_
 refine cQ [] (Ym) ?_;refine cK [] (OV b 0 r h hb) ?_;rintro out A0 ⟨rfl,rfl⟩
 exact xW hX (.bl 2 r) ⟨rfl,rfl,rfl⟩
theorem Yu(b r:By)(h:qJ 18446744073709551614 8 b=r)(hb:b.length<1000000):Sat Tryz.prog 101 [.bl 0 b,.i .i64 9223372036854775807] [] (fun out A0=>out=.bl 2 r/\A0=[2]):=by
 refine cF Tryz.func101 fun X0 w0 hX=>?_
 refine cQ [] (Yn) ?_;refine cK [] (OV b 18446744073709551614 r h hb) ?_;rintro out A0 ⟨rfl,rfl⟩
 exact xW hX (.bl 2 r) ⟨rfl,rfl,rfl⟩
theorem OW(g:By):Sat Tryz.prog 50 [A1 [.i .u64 0,.s [],.i .u8 15,.i .i64 0,.i .i64 9223372036854775807,.sl 0 2 0 fun _=>.un,.bs 32 g]] [] (fun out A0=>A0=[]/\(out=.b true)):=by
 refine cF Tryz.func50 fun X0 w0 hX=>?_
 refine GH (([]:By)=[]) (by decide) ?_;refine cQ [] (Ys) ?_;refine kV (true) rfl ?_;refine E2 (8<(0:Int)) (by decide) ?_;refine cM hX (fun(k:Nat)=>[(27,.sl 0 2 0 fun _=>.un),(28,.i .i64 0),(29,.i .i64 (k:Int))]) (fun(k:Nat)=>[]) (fun(k:Nat)=>True) (fun(k:Nat)=>0) [] 1744 0 trivial ?_;rintro k hI R hR
 refine cB ((k:Int)<0) ?_ ?_<;>intro h1
 ·exact absurd h1 zO
 exact xW hX (.b true) ⟨rfl,rfl,rfl⟩
theorem Bn(g:By):Sat Tryz.prog 52 [A1 [.i .u64 0,.s [],.i .u8 15,.i .i64 0,.i .i64 9223372036854775807,.sl 0 2 0 fun _=>.un,.bs 32 g]] [] (fun out A0=>out=.bl 2 zG/\A0=[2]):=by
 refine cF Tryz.func52 fun X0 w0 hX=>?_
 refine cK [] ((OV [] 0 [0,0,0,0,0,0,0,0] zK (by decide)).full (ins':=[.bl 1 [],.i .u64 0,.i .i64 8])) ?_;rintro out A0 ⟨rfl,rfl⟩
 refine cK [] (Yl [0,0,0,0,0,0,0,0] (by decide)) ?_;rintro out A0 ⟨rfl,rfl⟩
 refine cC (([0,0,0,0,0,0,0,0,0].length+[15].length)*1<=140737488355328) ?_ bd;refine cK [] (Yt [0,0,0,0,0,0,0,0,0,15] [0,0,0,0,0,0,0,0,0,15,0,0,0,0,0,0,0,0] zK (by decide)) ?_;rintro out A0 ⟨rfl,rfl⟩
 refine cK [] (Yu [0,0,0,0,0,0,0,0,0,15,0,0,0,0,0,0,0,0] [0,0,0,0,0,0,0,0,0,15,0,0,0,0,0,0,0,0,255,255,255,255,255,255,255,254] zK (by decide)) ?_;rintro out A0 ⟨rfl,rfl⟩
 exact xW hX (.bl 2 [0,0,0,0,0,0,0,0,0,15,0,0,0,0,0,0,0,0,255,255,255,255,255,255,255,254]) ⟨rfl,rfl,rfl⟩
theorem Yv(key:By)(hk:key.length=32):Sat Tryz.prog 25 [.bs 32 key,A1 [.i .u64 0,.s [],.i .u8 15,.i .i64 0,.i .i64 9223372036854775807,.sl 0 2 0 fun _=>.un,.bs 32 (replicate 32 0)]] [] (fun out A0=>A0=[]/\(out=A2 [A1 [.i .u64 0,.s [],.i .u8 15,.i .i64 0,.i .i64 9223372036854775807,.sl 0 2 0 fun _=>.un,.bs 32 (T2 key)],.i .i64 0])):=by
 refine cF Tryz.func25 fun X0 w0 hX=>?_
 refine mM fV true ?_;refine cQ [] (OW (replicate 32 0)) ?_;refine kV (true) rfl ?_;refine E2 (0<(0:Int)) (by decide) ?_;refine cK [] (Bn (replicate 32 0)) ?_;rintro out A0 ⟨rfl,rfl⟩
 refine kW (Bl key (by assumption)) ?_;exact xW hX (A2 [A1 [.i .u64 0,.s [],.i .u8 15,.i .i64 0,.i .i64 9223372036854775807,.sl 0 2 0 fun _=>.un,.bs 32 (T2 key)],.i .i64 0]) ⟨rfl,rfl,rfl⟩
theorem Yw(r:By)(hr:r.length=32):Sat Tryz.prog 12 [.bs 32 r] [] (fun out A0=>A0=[]/\(out=A1 [.i .u64 0,.s [],.i .u8 15,.i .i64 0,.i .i64 9223372036854775807,.sl 0 2 0 fun _=>.un,.bs 32 (T2 r)])):=by
 refine cF Tryz.func12 fun X0 w0 hX=>?_
 refine cQ [] (qD (ins':=[.bs 32 r,A1 [.i .u64 0,.s [],.i .u8 15,.i .i64 0,.i .i64 9223372036854775807,.sl 1 2 0 fun _=>.un,.bs 32 (replicate 32 0)]]) (Yv r (by assumption)) ⟨.rfl _,C4 ⟨.rfl _,.rfl _,.rfl _,.rfl _,.rfl _,eA,.rfl _,zT⟩,zT⟩) ?_;exact xW hX (A1 [.i .u64 0,.s [],.i .u8 15,.i .i64 0,.i .i64 9223372036854775807,.sl 0 2 0 fun _=>.un,.bs 32 (T2 r)]) ⟨rfl,rfl,rfl⟩
theorem Yx(v:Int)(r:By)(h:uU IS 8 ([],v)=(r,0))(hr:r.length=8):Sat Tryz.prog 96 [.bl 1 [],.i .u64 v,.i .i64 8] [] (fun out A0=>out=A2 [.bl 2 r,.i .i64 0]/\A0=[2]):=by
 refine cF Tryz.func96 fun X0 w0 hX=>?_
 refine E2 ((8:Int)<1) (by decide) ?_;refine E2 (8<(8:Int)) (by decide) ?_;refine cM hX (fun(p:Nat×By×Int)=>[(0,.bl 1 []),(1,.i .u64 p.2.2),(2,.i .i64 8),(8,.bl 2 p.2.1),(9,.i .i64 (p.1:Int))]) (fun(p:Nat×By×Int)=>[]) (fun(p:Nat×By×Int)=>uU IS (8-p.1) (p.2.1,p.2.2)=(r,0)/\p.1<=8/\p.2.1.length=p.1) (fun(p:Nat×By×Int)=>8-p.1) [2] 656 (0,[],v) ⟨h,by simp,by simp⟩ ?_;rintro⟨k,l,x⟩ hI R hR
 dsimp only at hI
 refine cB ((k:Int)<8) ?_ ?_<;>intro h1
 ·refine cC (([UInt8.ofNat ((u8.wrap (x.tmod 256))).toNat].length+l.length)*1<=140737488355328) ?_ bw
  exact cA hX (hR (k+1,([UInt8.ofNat ((u8.wrap (x.tmod 256))).toNat]++l),(u64.wrap (x.tdiv 256))) ⟨Yi (f:=IS) zO hI.1,by dsimp only;omega,by simp;omega⟩ (by dsimp only;omega)) (hS:=⟨v0,v0,v0,v0,(vS zO),zT⟩)
 have he:=Yj zO hI.1
 have hx:x=0:=congrArg Prod.snd he
 have hl:l=r:=congrArg Prod.fst he
 refine cB (0<x) ?_ ?_<;>intro h2
 ·exact absurd h2 zO
 refine cC ((([]:By).length+([]:By).length)*1<=140737488355328) ?_ bd
 refine cC ((([]:By).length+l.length)*1<=140737488355328) ?_ bd;exact xW hX (A2 [.bl 2 ([]++l),.i .i64 0]) ⟨rfl,by rw[hl];rfl,rfl⟩
theorem OX(v:Int)(r:By)(h:uU IS 8 ([],v)=(r,0))(hr:r.length=8):Sat Tryz.prog 47 [.i .u64 v] [] (fun out A0=>out=.bl 2 r/\A0=[2]):=by
 refine cF Tryz.func47 fun X0 w0 hX=>?_
 refine cK [] (Yx v r h hr) ?_;rintro out A0 ⟨rfl,rfl⟩
 exact xW hX (.bl 2 r) ⟨rfl,rfl,rfl⟩
theorem Yy(b:By)(hb:b.length<1000000):Sat Tryz.prog 97 [.bl 0 b,.i .u64 0] [] (fun out A0=>out=.bl 2 (b++[0])/\A0=[2]):=by
 refine cF Tryz.func97 fun X0 w0 hX=>?_
 refine cC ((([]:By).length+b.length)*1<=140737488355328) ?_ bd;refine cM hX (fun(u:Unit)=>[(1,.i .u64 0),(5,.bl 208 ([]++b))]) (fun(u:Unit)=>[]) (fun(u:Unit)=>True) (fun(u:Unit)=>0) [208] 336 () trivial ?_;rintro u hI R hR
 refine E2 (128<=(0:Int)) (by decide) ?_;refine cC ((([]++b).length+[0].length)*1<=140737488355328) ?_ bd;exact xW hX (.bl 2 (([]++b)++[0])) ⟨rfl,rfl,rfl⟩
theorem Yz(b:By)(hb:b.length<900000):Sat Tryz.prog 48 [.bl 0 b,.bl 0 []] [] (fun out A0=>out=A2 [.bl 2 (b++[0]),.i .i64 0]/\A0=[2]):=by
 refine cF Tryz.func48 fun X0 w0 hX=>?_
 refine E2 (65536<(0:Int)) (by decide) ?_;refine cK [] (Yy b bd) ?_;rintro out A0 ⟨rfl,rfl⟩
 refine cC (((b++[0]).length+([]:By).length)*1<=140737488355328) ?_ bd;exact xW hX (A2 [.bl 2 ((b++[0])++[]),.i .i64 0]) ⟨rfl,by rw[Z5],rfl⟩
theorem Za(g:By):Sat Tryz.prog 22 [A1 [.i .u64 0,.s [],.i .u8 15,.i .i64 0,.i .i64 9223372036854775807,.sl 0 2 0 fun _=>.un,.bs 32 g]] [] (fun out A0=>A0=[]/\(out=.b true)):=by
 refine cF Tryz.func22 fun X0 w0 hX=>?_
 refine GH (([]:By)=[]) (by decide) ?_;refine E2 (15<(15:Int)) (by decide) ?_;refine E2 (8<(0:Int)) (by decide) ?_;refine cM hX (fun(k:Nat)=>[(1,.pr 16 0 []),(3,.i .i64 (k:Int))]) (fun(k:Nat)=>[(16,A1 [.i .u64 0,.s [],.i .u8 15,.i .i64 0,.i .i64 9223372036854775807,.sl 0 2 0 fun _=>.un,.bs 32 g])]) (fun(k:Nat)=>True) (fun(k:Nat)=>0) [] 1488 0 trivial ?_;rintro k hI R hR
 refine cB ((k:Int)<0) ?_ ?_<;>intro h1
 ·exact absurd h1 zO
 exact xW hX (.b true) ⟨rfl,rfl,rfl⟩
theorem OY(g:By):Sat Tryz.prog 23 [A1 [.i .u64 0,.s [],.i .u8 15,.i .i64 0,.i .i64 9223372036854775807,.sl 0 2 0 fun _=>.un,.bs 32 g]] [] (fun out A0=>out=.bl 2 zG/\A0=[2]):=by
 refine cF Tryz.func23 fun X0 w0 hX=>?_
 refine cK [] (OX 0 [0,0,0,0,0,0,0,0] zK rfl) ?_;rintro out A0 ⟨rfl,rfl⟩
 refine cK [] (Yz [0,0,0,0,0,0,0,0] (by decide)) ?_;rintro out A0 ⟨rfl,rfl⟩
 refine cC (([0,0,0,0,0,0,0,0,0].length+[15].length)*1<=140737488355328) ?_ bd;refine cQ [] (Yo) ?_;refine cK [] (OX 0 [0,0,0,0,0,0,0,0] zK rfl) ?_;rintro out A0 ⟨rfl,rfl⟩
 refine cC (([0,0,0,0,0,0,0,0,0,15].length+[0,0,0,0,0,0,0,0].length)*1<=140737488355328) ?_ bd;refine cQ [] (Yp) ?_;refine cK [] (OX 18446744073709551614 [255,255,255,255,255,255,255,254] zK rfl) ?_;rintro out A0 ⟨rfl,rfl⟩
 refine cC (([0,0,0,0,0,0,0,0,0,15,0,0,0,0,0,0,0,0].length+[255,255,255,255,255,255,255,254].length)*1<=140737488355328) ?_ bd;exact xW hX (.bl 2 [0,0,0,0,0,0,0,0,0,15,0,0,0,0,0,0,0,0,255,255,255,255,255,255,255,254]) ⟨rfl,rfl,rfl⟩
def nI(g:By):By:=([1]++([0,0,0,0,0,0,0,0]++(0::([15]++([0,0,0,0,0,0,0,0]++([255,255,255,255,255,255,255,254]++([0]++g)))))))
theorem Zb(g:By)(hg:g.length=32):Sat Tryz.prog 11 [A1 [.i .u64 0,.s [],.i .u8 15,.i .i64 0,.i .i64 9223372036854775807,.sl 0 2 0 fun _=>.un,.bs 32 g]] [] (fun out A0=>out=A2 [.bl 2 (nI g),.i .i64 0]/\A0=[2]):=by
 refine cF Tryz.func11 fun X0 w0 hX=>?_
 refine cQ [] (Za g) ?_;refine kV (true) rfl ?_;refine jA 3 5200 (fun(u:Unit)=>[(1,.pr 16 0 []),(4,.bl 976 [1,0,0,0,0,0,0,0,0,0,15,0,0,0,0,0,0,0,0,255,255,255,255,255,255,255,254,0])]) (fun(u:Unit)=>[(16,A1 [.i .u64 0,.s [],.i .u8 15,.i .i64 0,.i .i64 9223372036854775807,.sl 0 2 0 fun _=>.un,.bs 32 g])]) (fun(u:Unit)=>True) [976] (fun R hR i hi=>?_) ?_
 ·match i,hi with
 |0,_=>
   refine L6 2 zK fun i hi=>?_
   revert i hi;refine f2 ?_ ?_<;>repeat' (first|refine al 2 (f2 ?_ ?_)|(refine cK (e:=eE) [] (OY g) ?_;rintro out A0 ⟨rfl,rfl⟩)|refine cC (e:=eE) (([1].length+[0,0,0,0,0,0,0,0,0,15,0,0,0,0,0,0,0,0,255,255,255,255,255,255,255,254].length)*1<=140737488355328) ?_ bd|refine cC (e:=eE) (([1,0,0,0,0,0,0,0,0,0,15,0,0,0,0,0,0,0,0,255,255,255,255,255,255,255,254].length+[0].length)*1<=140737488355328) ?_ bd|exact cA hX (hR () zT))
 |1,_=>
   refine cK [] (OY g) ?_;rintro out A0 ⟨rfl,rfl⟩
   refine L6 2 zK fun i hi=>?_
   revert i hi;refine f2 ?_ ?_<;>repeat' (first|refine al 2 (f2 ?_ ?_)|refine cC (e:=eE) (([1].length+[0,0,0,0,0,0,0,0,0,15,0,0,0,0,0,0,0,0,255,255,255,255,255,255,255,254].length)*1<=140737488355328) ?_ bd|refine cC (e:=eE) (([1,0,0,0,0,0,0,0,0,0,15,0,0,0,0,0,0,0,0,255,255,255,255,255,255,255,254].length+[0].length)*1<=140737488355328) ?_ bd|exact cA hX (hR () zT))
 |2,_=>
   refine L6 2 zK fun i hi=>?_
   revert i hi;refine f2 ?_ ?_<;>repeat' (first|(refine cK (e:=eE) [] (OY g) ?_;rintro out A0 ⟨rfl,rfl⟩)|refine cC (e:=eE) (([1].length+[0,0,0,0,0,0,0,0,0,15,0,0,0,0,0,0,0,0,255,255,255,255,255,255,255,254].length)*1<=140737488355328) ?_ bd|refine cC (e:=eE) (([1,0,0,0,0,0,0,0,0,0,15,0,0,0,0,0,0,0,0,255,255,255,255,255,255,255,254].length+[0].length)*1<=140737488355328) ?_ bd|exact cA hX (hR () zT))
 rintro u hJ
 refine cM hX (fun(k:Nat)=>[(1,.pr 16 0 []),(4,.bl 976 [1,0,0,0,0,0,0,0,0,0,15,0,0,0,0,0,0,0,0,255,255,255,255,255,255,255,254,0]),(5,.i .i64 (k:Int))]) (fun(k:Nat)=>[(16,A1 [.i .u64 0,.s [],.i .u8 15,.i .i64 0,.i .i64 9223372036854775807,.sl 0 2 0 fun _=>.un,.bs 32 g])]) (fun(k:Nat)=>True) (fun(k:Nat)=>0) [976] 5264 0 trivial ?_;rintro k hI R hR
 refine cB ((k:Int)<0) ?_ ?_<;>intro h1
 ·exact absurd h1 zO
 refine cC (([1,0,0,0,0,0,0,0,0,0,15,0,0,0,0,0,0,0,0,255,255,255,255,255,255,255,254,0].length+g.length)*1<=140737488355328) ?_ bd
 exact xW hX (A2 [.bl 2 ([1,0,0,0,0,0,0,0,0,0,15,0,0,0,0,0,0,0,0,255,255,255,255,255,255,255,254,0]++g),.i .i64 0]) ⟨rfl,by rfl,rfl⟩
def uV(x:Int)(c:UInt8):Int:=u64.wrap ((ofInt 64 (u64.wrap (x*2 ^ (min (8:Int).toNat 64)))|||ofInt 64 (u64.wrap ((c.toNat:Int)))).toNat:Int)
theorem Zc{l:By}{x z:Int}(hk:k<l.length)(h:(l.drop k).foldl uV x=z):(l.drop (k+1)).foldl uV (uV x (l.getD k 0))=z:=by
 rw[JD hk,List.foldl_cons]at h
 rw[l6,B6 hk];exact h
theorem Zd{l:By}{x z:Int}(hk:¬ k<l.length)(h:(l.drop k).foldl uV x=z):x=z:=by
 rw[eK zO]at h;exact h
theorem Bo{l m:By}{n:Nat}(hn:l.length=n)(h8:n<=8):((l++m).drop 0).take (((i64.wrap (0+(n:Int)))).toNat-0)=l:=by
 rw[I8 ⟨zO,zO⟩,qM,show(0+(n:Int)).toNat-0=l.length by omega,List.take_left']
 rfl
theorem Ze{l m:By}{n:Nat}(hn:l.length=n):((l++m).drop n).take ((l++m).length-((n:Int)).toNat)=m:=by
 rw[<-hn,List.drop_left,V9 (by simp)]
theorem Zf(l m:By)(n:Nat)(v:Int)(hn:l.length=n)(h1n:1<=n/\n<=8)(hv:l.foldl uV 0=v)(hb:(l++m).length<1000000):Sat Tryz.prog 150 [.bl 0 (l++m),.i .i64 0,.i .i64 (n:Int)] [] (fun out A0=>A0=[]/\(out=A2 [.i .u64 v,.i .i64 0])):=by
 refine cF Tryz.func150 fun X0 w0 hX=>?_
 refine cB ((n:Int)<1) ?_ ?_<;>intro h1
 ·exact absurd h1 zO
 refine cB (8<(n:Int)) ?_ ?_<;>intro h2
 ·exact absurd h2 zO
 refine E2 ((0:Int)<0) (by decide) ?_
 refine cB ((i64.wrap (((l++m).length:Int)-(n:Int)))<0) ?_ ?_<;>intro h3
 ·exact absurd h3 (by rw[I8 ⟨zO,zO⟩];simp only[C6];omega)
 refine cC ((0:Int)<=0/\(0:Int)<=(i64.wrap (0+(n:Int)))/\(i64.wrap (0+(n:Int)))<=((l++m).length:Int)) ?_ bw
 refine cM hX (fun(p:Nat×Int)=>[(8,.i .u64 p.2),(34,.bl 0 l),(35,.i .i64 (l.length:Int)),(36,.i .i64 (p.1:Int))]) (fun(p:Nat×Int)=>[]) (fun(p:Nat×Int)=>p.1<=l.length/\(l.drop p.1).foldl uV p.2=v) (fun(p:Nat×Int)=>l.length-p.1) [] 1872 (0,0) ⟨L8 _,hv⟩ ?_ (hS:=⟨v0,(vT (u:=.bl 0 (((l++m).drop 0).take (((i64.wrap (0+(n:Int)))).toNat-0))) (.of_eq (by rw[Bo hn h1n.2]))),(vT (u:=.i .i64 ((((l++m).drop 0).take (((i64.wrap (0+(n:Int)))).toNat-0)).length:Int)) (.of_eq (by rw[Bo hn h1n.2]))),v0,zT⟩);rintro⟨k,x⟩ hI R hR
 dsimp only at hI
 refine cB ((k:Int)<(l.length:Int)) ?_ ?_<;>intro h4
 ·refine cC ((0:Int)<=(k:Int)/\(k:Int)<(l.length:Int)) ?_
  exact cA hX (hR (k+1,(u64.wrap ((ofInt 64 (u64.wrap (x*2 ^ (min (8:Int).toNat 64)))|||ofInt 64 (u64.wrap ((l.getD k 0).toNat:Int))).toNat:Int))) ⟨by dsimp only;omega,Zc zO hI.2⟩ (by dsimp only;omega)) (hS:=⟨v0,v0,v0,vS,zT⟩)
 have hx:=Zd zO hI.2
 exact xW hX (A2 [.i .u64 v,.i .i64 0]) ⟨rfl,rfl,rfl⟩ (hv:=vT (u:=A2 [.i .u64 x,.i .i64 0]) (F5 ⟨(.of_eq (by rw[hx])),v0,zT⟩))
theorem Zg{m:By}:((0::m).drop 1).take ((0::m).length-1)=m:=by simp
theorem zH(l m:By)(p:Bool)(n:Nat)(v:Int)(hn:l.length=n)(h1n:1<=n/\n<=8)(hv:l.foldl uV 0=v)(hb:(l++m).length<1000000):SatHM Tryz.prog false 102 [.pr 2 0 [],.i .i64 (n:Int)] [] [(2,A1 [.bl 0 (l++m),.b p])] (fun out ho A0=>out=.i .u64 v/\ho=[(2,HF m p)]/\A0=[]):=by
 refine fH false Tryz.func102 fun X0 w0 hX hm=>?_
 refine cQ [] (Zf l m n v hn h1n hv hb) ?_;refine E2 ((0:Int)≠0) (by decide) ?_;refine cC ((0:Int)<=(n:Int)/\(n:Int)<=((l++m).length:Int)) ?_ bd;exact xW hX (.i .u64 v) ⟨rfl,rfl,rfl⟩ (hH:=⟨(vT (u:=A1 [.bl 0 (((l++m).drop n).take ((l++m).length-((n:Int)).toNat)),.b p]) ((C4 ⟨(.of_eq (by rw[Ze hn])),v0,zT⟩))),zT⟩)
theorem Zh(m:By)(hb:(0::m:By).length<1000000):Sat Tryz.prog 181 [.bl 0 (0::m)] [] (fun out A0=>A0=[]/\(out=A2 [.i .u64 0,.i .i64 1,.i .i64 0])):=by
 refine cF Tryz.func181 fun X0 w0 hX=>?_
 refine cM hX (fun(u:Unit)=>[(5,.i .u64 0),(8,.bl 0 (0::m)),(9,.i .i64 ((0::m).length:Int)),(10,.i .i64 0)]) (fun(u:Unit)=>[]) (fun(u:Unit)=>True) (fun(u:Unit)=>0) [] 464 () trivial ?_;rintro u hI R hR
 refine cB (0<((0::m).length:Int)) ?_ ?_<;>intro h1
 ·refine cC ((0:Int)<=0/\0<((0::m).length:Int)) ?_ (hp:=by simp only[G8];omega)
  refine E2 ((0:Int)=9) (by decide) ?_;refine O1 ((0:Int)=0) (by decide) ?_;refine E2 (0<(0:Int)) (by decide) ?_;refine cC ((0:Int)<=0) ?_;refine O1 ((0:Int)<128) (by decide) ?_;exact xW hX (A2 [.i .u64 0,.i .i64 1,.i .i64 0]) ⟨rfl,rfl,rfl⟩
 exact absurd (show(0:Int)<((0::m:By).length:Int) by simp only[G8];omega) h1
theorem Zi(m:By)(hb:(0::m:By).length<1000000):Sat Tryz.prog 151 [.bl 0 (0::m)] [] (fun out A0=>out=A2 [.bl 2 [],.i .i64 1,.i .i64 0]/\A0=[2]):=by
 refine cF Tryz.func151 fun X0 w0 hX=>?_
 refine cQ [] (Zh m hb) ?_;refine E2 ((0:Int)≠0) (by decide) ?_;refine E2 (65536<(0:Int)) (by decide) ?_;refine cB ((u64.wrap (i64.wrap (((0::m).length:Int)-1)))<0) ?_ ?_<;>intro h1
 ·exact absurd h1 (by have:=(P3 (i64.wrap (((0::m:By).length:Int)-1))).1;omega)
 refine cC ((0:Int)<=1/\(1:Int)<=1/\1<=((0::m).length:Int)) ?_ (hp:=by simp only[G8];omega)
 refine cK [] (uD (((0::m).drop 1).take (1-1)) 0 bd zO) ?_;rintro out A0 ⟨rfl,rfl⟩
 exact xW hX (A2 [.bl 2 [],.i .i64 1,.i .i64 0]) ⟨rfl,rfl,rfl⟩ (hv:=vT (u:=A2 [.bl 2 (((0::m).drop 1).take (1-1)),.i .i64 1,.i .i64 0]) (F5 ⟨v0,v0,v0,zT⟩))
theorem Zj(m:By)(p:Bool)(hb:(0::m:By).length<1000000):SatHM Tryz.prog false 103 [.pr 2 0 []] [] [(2,A1 [.bl 0 (0::m),.b p])] (fun out ho A0=>out=.s []/\ho=[(2,HF m p)]/\A0=[]):=by
 refine fH false Tryz.func103 fun X0 w0 hX hm=>?_
 refine cK [] (Zi m hb) ?_;rintro out A0 ⟨rfl,rfl⟩
 refine E2 ((0:Int)≠0) (by decide) ?_;refine cC ((0:Int)<=1/\1<=((0::m).length:Int)) ?_ (hp:=by simp only[G8];omega);exact xW hX (.s []) ⟨rfl,rfl,rfl⟩ (hH:=⟨(vT (u:=A1 [.bl 0 (((0::m).drop 1).take ((0::m).length-1)),.b p]) ((C4 ⟨(.of_eq (by rw[Zg])),v0,zT⟩))),zT⟩)
theorem Zk(g:By)(hg:g.length=32):Sat Tryz.prog 62 [.bl 0 ([1]++([0,0,0,0,0,0,0,0]++(0::([15]++([0,0,0,0,0,0,0,0]++([255,255,255,255,255,255,255,254]++([0]++g)))))))] [] (fun out A0=>A0=[]/\(out=A2 [A1 [.i .u64 0,.s [],.i .u8 15,.i .i64 0,.i .i64 9223372036854775807,.sl 0 2 0 fun _=>.un,.bs 32 g],.i .i64 0])):=by
 refine cF Tryz.func62 fun X0 w0 hX=>?_
 refine kH [(272,2)] [272] (zH [1] ([0,0,0,0,0,0,0,0]++(0::([15]++([0,0,0,0,0,0,0,0]++([255,255,255,255,255,255,255,254]++([0]++g)))))) false 1 1 rfl (by decide) zK (by simp only[C6,G8,M3];omega)) ?_;rintro out ho A0 ⟨rfl,rfl,rfl⟩
 refine kH [(272,2)] [272] (zH [0,0,0,0,0,0,0,0] (0::([15]++([0,0,0,0,0,0,0,0]++([255,255,255,255,255,255,255,254]++([0]++g))))) false 8 0 rfl (by decide) zK (by simp only[C6,G8,M3];omega)) ?_;rintro out ho A0 ⟨rfl,rfl,rfl⟩
 refine kH [(272,2)] [272] (Zj ([15]++([0,0,0,0,0,0,0,0]++([255,255,255,255,255,255,255,254]++([0]++g)))) false (by simp only[C6,G8,M3];omega)) ?_;rintro out ho A0 ⟨rfl,rfl,rfl⟩
 refine kH [(272,2)] [272] (zH [15] ([0,0,0,0,0,0,0,0]++([255,255,255,255,255,255,255,254]++([0]++g))) false 1 15 rfl (by decide) zK (by simp only[C6,G8,M3];omega)) ?_;rintro out ho A0 ⟨rfl,rfl,rfl⟩
 refine kH [(272,2)] [272] (zH [0,0,0,0,0,0,0,0] ([255,255,255,255,255,255,255,254]++([0]++g)) false 8 0 rfl (by decide) zK (by simp only[C6,G8,M3];omega)) ?_;rintro out ho A0 ⟨rfl,rfl,rfl⟩
 refine cQ [] (Yq) ?_;refine kH [(272,2)] [272] (zH [255,255,255,255,255,255,255,254] ([0]++g) false 8 18446744073709551614 rfl (by decide) zK (by simp only[C6,G8,M3];omega)) ?_;rintro out ho A0 ⟨rfl,rfl,rfl⟩
 refine cQ [] (Yr) ?_;refine kH [(272,2)] [272] (zH [0] g false 1 0 rfl (by decide) zK (by simp only[C6,G8,M3];omega)) ?_;rintro out ho A0 ⟨rfl,rfl,rfl⟩
 refine GI (false) rfl ?_;refine E2 ((1:Int)≠1) (by decide) ?_;refine E2 (8<(0:Int)) (by decide) ?_;refine cM hX (fun(k:Nat)=>[(2,.pr 16 0 []),(4,.pr 272 0 []),(6,.pr 1104 0 []),(45,.i .u64 0),(46,.i .u64 (k:Int))]) (fun(k:Nat)=>[(16,A1 [.i .u64 0,.s [],.i .u8 0,.i .i64 0,.i .i64 0,.sl 1 2 0 fun _=>.un,.bs 32 (replicate 32 0)]),(272,A1 [.bl 0 g,.b false]),(1104,A1 [.i .u64 0,.s [],.i .u8 15,.i .i64 0,.i .i64 9223372036854775807,.sl 1 2 0 fun _=>.un,.bs 32 (replicate 32 0)])]) (fun(k:Nat)=>True) (fun(k:Nat)=>0) [] 2960 0 trivial ?_;rintro k hI R hR
 refine cB ((k:Int)<0) ?_ ?_<;>intro h1
 ·exact absurd h1 zO
 refine GI (false) rfl ?_
 refine cB ((g.length:Int)≠32) ?_ ?_<;>intro h2
 ·exact absurd h2 zO
 refine cQ [] (qD (ins':=[A1 [.i .u64 0,.s [],.i .u8 15,.i .i64 0,.i .i64 9223372036854775807,.sl 1 2 0 fun _=>.un,.bs 32 (replicate 32 0)]]) (OW (replicate 32 0)) ⟨C4 ⟨.rfl _,.rfl _,.rfl _,.rfl _,.rfl _,eA,.rfl _,zT⟩,zT⟩) ?_
 refine kV (true) rfl ?_;refine cC (32<=g.length) ?_;exact xW hX (A2 [A1 [.i .u64 0,.s [],.i .u8 15,.i .i64 0,.i .i64 9223372036854775807,.sl 0 2 0 fun _=>.un,.bs 32 g],.i .i64 0]) ⟨rfl,rfl,rfl⟩ (hv:=vT (u:=A2 [A1 [.i .u64 0,.s [],.i .u8 15,.i .i64 0,.i .i64 9223372036854775807,.sl 0 2 0 fun _=>.un,.bs 32 (g.take 32)],.i .i64 0]) (F5 ⟨(C4 ⟨v0,.rfl _,v0,v0,v0,vN,(.of_eq (by rw[V9 zO])),zT⟩),v0,zT⟩))
theorem Zl(h:By):Sat Tryz.prog 105 [.bs 32 h,.sl 0 2 0 fun _=>.un] [] (fun out A0=>A0=[]/\(out=.bs 32 h)):=by
 refine cF Tryz.func105 fun X0 w0 hX=>?_
 refine mM fV true ?_;refine cM hX (fun(k:Nat)=>[(2,.pr 16 0 []),(4,.pr 80 0 []),(7,.sl 0 2 0 fun _=>.un),(8,.i .i64 0),(9,.i .i64 (k:Int)),(1000004,A2 [])]) (fun(k:Nat)=>[(16,.bs 32 h),(80,.bs 32 (replicate 32 0))]) (fun(k:Nat)=>True) (fun(k:Nat)=>0) [] 336 0 trivial ?_;rintro k hI R hR
 refine cB ((k:Int)<0) ?_ ?_<;>intro h1
 ·exact absurd h1 zO
 exact xW hX (.bs 32 h) ⟨rfl,rfl,rfl⟩
theorem Bp(g:By):Sat Tryz.prog 66 [A1 [.i .u64 0,.s [],.i .u8 15,.i .i64 0,.i .i64 9223372036854775807,.sl 0 2 0 fun _=>.un,.bs 32 g]] [] (fun out A0=>A0=[]/\(out=A2 [.i .u8 15,.i .i64 9223372036854775807])):=by
 refine cF Tryz.func66 fun X0 w0 hX=>?_
 refine cM hX (fun(k:Nat)=>[(4,.i .u8 15),(5,.i .i64 9223372036854775807),(13,.sl 0 2 0 fun _=>.un),(14,.i .i64 0),(15,.i .i64 (k:Int))]) (fun(k:Nat)=>[]) (fun(k:Nat)=>True) (fun(k:Nat)=>0) [] 848 0 trivial ?_;rintro k hI R hR
 refine cB ((k:Int)<0) ?_ ?_<;>intro h1
 ·exact absurd h1 zO
 exact xW hX (A2 [.i .u8 15,.i .i64 9223372036854775807]) ⟨rfl,rfl,rfl⟩
theorem Zm(key:By)(hk:key.length=32):Sat Tryz.prog 63 [.bs 32 key,A1 [.i .u64 0,.s [],.i .u8 15,.i .i64 0,.i .i64 9223372036854775807,.sl 0 2 0 fun _=>.un,.bs 32 (T2 key)],.i .i64 0] [] (fun out A0=>A0=[]/\(out=.i .i64 0)):=by
 refine cF Tryz.func63 fun X0 w0 hX=>?_
 refine mM fV true ?_;refine cQ [] (OW (T2 key)) ?_;refine kV (true) rfl ?_;refine jA 2 5136 (fun(u:Unit)=>[(2,.i .i64 0),(4,.pr 80 0 []),(7,.pr 912 0 []),(1000004,A2 [])]) (fun(u:Unit)=>[(80,A1 [.i .u64 0,.s [],.i .u8 15,.i .i64 0,.i .i64 9223372036854775807,.sl 0 2 0 fun _=>.un,.bs 32 (T2 key)]),(912,.bs 32 (T2 key))]) (fun(u:Unit)=>True) [] (fun R hR i hi=>?_) ?_
 ·revert i hi;refine f2 ?_ ?_<;>repeat' (first|refine al 2 (f2 ?_ ?_)|(refine cK (e:=eE) [] (Bn (T2 key)) ?_;rintro out A0 ⟨rfl,rfl⟩)|refine kW (e:=eE) (Bl key (by assumption)) ?_|refine cQ (e:=eE) [] (Zl (T2 key)) ?_|exact cA hX (hR () zT))
 rintro u hJ
 refine kW (WU 0 0 (((T2 key).drop 0).take 32) (((T2 key).drop 0).take 32)) ?_;refine GH ((((T2 key).drop 0).take 32)=(((T2 key).drop 0).take 32)) rfl ?_;refine cQ [] (Bp (T2 key)) ?_;refine E2 ((0:Int)<0) (by decide) ?_;refine E2 (9223372036854775807<=(0:Int)) (by decide) ?_;exact xW hX (.i .i64 0) ⟨rfl,rfl,rfl⟩
theorem Zn  :Sat Tryz.prog 68 [.i .i64 17] [] (fun out A0=>A0=[]/\(out=.b true)):=by
 refine cF Tryz.func68 fun X0 w0 hX=>?_
 refine O1 (10<=(17:Int)) (by decide) ?_;exact xW hX (.b true) ⟨rfl,rfl,rfl⟩ (hv:=vT (u:=.b (decide ((17:Int)<=17))) v0)
theorem Zo  :Sat Tryz.prog 65 [.i .i64 17] [] (fun out A0=>A0=[]/\(out=A2 [.i .u8 8,.i .i64 0])):=by
 refine cF Tryz.func65 fun X0 w0 hX=>?_
 refine E2 ((17:Int)=2) (by decide) ?_;refine E2 ((17:Int)=4) (by decide) ?_;refine E2 ((17:Int)=5) (by decide) ?_;refine E2 ((17:Int)=6) (by decide) ?_;refine E2 ((17:Int)=9) (by decide) ?_;refine E2 ((17:Int)=1) (by decide) ?_;refine E2 ((17:Int)=3) (by decide) ?_;refine E2 ((17:Int)=7) (by decide) ?_;refine E2 ((17:Int)=8) (by decide) ?_;refine cQ [] (Zn) ?_;refine MF (true) rfl ?_;exact xW hX (A2 [.i .u8 8,.i .i64 0]) ⟨rfl,rfl,rfl⟩
theorem Zp  :Sat Tryz.prog 67 [.i .u8 15,.i .u8 8] [] (fun out A0=>A0=[]/\(out=.b true)):=by
 refine cF Tryz.func67 fun X0 w0 hX=>?_
 exact xW hX (.b true) ⟨rfl,rfl,rfl⟩ (hv:=vT (u:=.b (decide ((0:Int)=0))) v0)
theorem Zq  :Sat Tryz.prog 60 [.i .u8 0] [] (fun out A0=>A0=[]/\(out=.b true)):=by
 refine cF Tryz.func60 fun X0 w0 hX=>?_
 exact xW hX (.b true) ⟨rfl,rfl,rfl⟩ (hv:=vT (u:=.b (decide ((0:Int)=0))) v0)
theorem OZ{z n:Nat}{e:α->V}{g:Nat->α}{v:V}{x:α}(h:VEn v (e x):=by exact .rfl _):VEq (.ar z n (fun k=>bif beq k j then v else e (g k))) (.ar z n fun k=>e (F0 g j x k)):=.an _ _ _ _ fun k _=>by
 show VEn (bif beq k j then v else e (g k)) (e (bif beq k j then x else g k))
 cases beq k j
 ·exact .rfl _
 exact h
theorem Zr{v:V}{a:Nat}(ha:a<1000000000)(h:v=.i .i64 (i64.wrap (((64*a:Nat):Int)+64)):=by kernel_rfl):VEq v (.i .i64 ((64*(a+1):Nat):Int)):=.of_eq (h.trans (by rw[show i64.wrap (((64*a:Nat):Int)+64)=((64*(a+1):Nat):Int) from bw]))
def PA(x:Int):V:=.i .u64 x
theorem lF(x n:Int)(hn:0<=n/\n<1000):Sat Tryz.prog 217 [.i .u64 x,.i .i64 n] [] (fun out A0=>A0=[]/\(∃y,out=.i .u64 y)):=by
 refine cF Tryz.func217 fun X0 w0 hX=>?_
 refine cM hX (fun(p:Nat×Int)=>[(0,.i .u64 p.2),(1,.i .i64 n),(5,.i .i64 (p.1:Int))]) (fun(p:Nat×Int)=>[]) (fun(p:Nat×Int)=>(p.1:Int)<=n) (fun(p:Nat×Int)=>n.toNat-p.1) [] 144 (0,x) (by dsimp only;omega) ?_;rintro⟨k,y⟩ hI R hR
 dsimp only at hI
 refine cB ((k:Int)<n) ?_ ?_<;>intro h1
 ·exact cA hX (hR (k+1,(u64.wrap ((u64.wrap (y.tdiv 2))+(u64.wrap ((y.tmod 2)*2147483648))))) (by dsimp only;omega) (by dsimp only;omega)) (hS:=⟨v0,v0,(vS bd),zT⟩)
 exact xW hX (.i .u64 y) ⟨rfl,rfl,⟨_,rfl⟩⟩
theorem Bq(x n:Int)(hn:0<=n/\n<1000):Sat Tryz.prog 218 [.i .u64 x,.i .i64 n] [] (fun out A0=>A0=[]/\(∃y,out=.i .u64 y)):=by
 refine cF Tryz.func218 fun X0 w0 hX=>?_
 refine cM hX (fun(p:Nat×Int)=>[(0,.i .u64 p.2),(1,.i .i64 n),(5,.i .i64 (p.1:Int))]) (fun(p:Nat×Int)=>[]) (fun(p:Nat×Int)=>(p.1:Int)<=n) (fun(p:Nat×Int)=>n.toNat-p.1) [] 144 (0,x) (by dsimp only;omega) ?_;rintro⟨k,y⟩ hI R hR
 dsimp only at hI
 refine cB ((k:Int)<n) ?_ ?_<;>intro h1
 ·exact cA hX (hR (k+1,(u64.wrap (y.tdiv 2))) (by dsimp only;omega) (by dsimp only;omega)) (hS:=⟨v0,v0,(vS bd),zT⟩)
 exact xW hX (.i .u64 y) ⟨rfl,rfl,⟨_,rfl⟩⟩
theorem Zs  :Sat Tryz.prog 200 [] [] (fun out A0=>A0=[]/\(∃g:Nat->Int,out=.ar 1 64 fun i=>.i .u64 (g i))):=by
 refine cF Tryz.func200 fun X0 w0 hX=>?_
 refine MY (t:=270) (d:=1) .u64 [1116352408,1899447441,3049323471,3921009573,961987163,1508970993,2453635748,2870763221,3624381080,310598401,607225278,1426881987,1925078388,2162078206,2614888103,3248222580,3835390401,4022224774,264347078,604807628,770255983,1249150122,1555081692,1996064986,2554220882,2821834349,2952996808,3210313671,3336571891,3584528711,113926993,338241895,666307205,773529912,1294757372,1396182291,1695183700,1986661051,2177026350,2456956037,2730485921,2820302411,3259730800,3345764771,3516065817,3600352804,4094571909,275423344,430227734,506948616,659060556,883997877,958139571,1322822218,1537002063,1747873779,1955562222,2024104815,2227730452,2361852424,2428436474,2756734187,3204031479,3329325298] ?_
 exact xW hX (.ar 1 64 fun i=>.i .u64 ([1116352408,1899447441,3049323471,3921009573,961987163,1508970993,2453635748,2870763221,3624381080,310598401,607225278,1426881987,1925078388,2162078206,2614888103,3248222580,3835390401,4022224774,264347078,604807628,770255983,1249150122,1555081692,1996064986,2554220882,2821834349,2952996808,3210313671,3336571891,3584528711,113926993,338241895,666307205,773529912,1294757372,1396182291,1695183700,1986661051,2177026350,2456956037,2730485921,2820302411,3259730800,3345764771,3516065817,3600352804,4094571909,275423344,430227734,506948616,659060556,883997877,958139571,1322822218,1537002063,1747873779,1955562222,2024104815,2227730452,2361852424,2428436474,2756734187,3204031479,3329325298].getD i 0)) ⟨rfl,rfl,⟨_,rfl⟩⟩
theorem Zt(h w kk:Nat->Int):Sat Tryz.prog 201 [.ar 1 8 fun i=>.i .u64 (h i),.ar 1 64 fun i=>.i .u64 (w i),.ar 1 64 fun i=>.i .u64 (kk i)] [] (fun out A0=>A0=[]/\(∃g:Nat->Int,out=.ar 1 8 fun i=>.i .u64 (g i))):=by
 refine cF Tryz.func201 fun X0 w0 hX=>?_
 refine cM hX (fun(p:Nat×(Nat->Int))=>[(3,.pr 16 0 []),(4,.pr 80 0 []),(5,.pr 144 0 []),(6,.pr 208 0 []),(7,.i .i64 (p.1:Int))]) (fun(p:Nat×(Nat->Int))=>[(16,.ar 1 8 fun i=>.i .u64 (h i)),(80,.ar 1 64 fun i=>.i .u64 (p.2 i)),(144,.ar 1 64 fun i=>.i .u64 (kk i)),(208,.ar 1 8 fun i=>.i .u64 0)]) (fun(p:Nat×(Nat->Int))=>16<=p.1/\p.1<=64) (fun(p:Nat×(Nat->Int))=>64-p.1) [] 336 (16,w) ⟨by simp,by simp⟩ ?_;rintro⟨k,g⟩ hI R hR
 dsimp only at hI
 refine cB ((k:Int)<64) ?_ ?_<;>intro h1
 ·refine cC ((0:Int)<=(i64.wrap ((k:Int)-15))/\(i64.wrap ((k:Int)-15))<64) ?_ bw
  refine cC ((0:Int)<=(i64.wrap ((k:Int)-2))/\(i64.wrap ((k:Int)-2))<64) ?_ bw;refine cK [] (lF (g (((i64.wrap ((k:Int)-15))).toNat)) 7 bd) ?_;rintro out A0 ⟨rfl,⟨ty0,rfl⟩⟩
  refine cK [] (lF (g (((i64.wrap ((k:Int)-15))).toNat)) 18 bd) ?_;rintro out A0 ⟨rfl,⟨ty1,rfl⟩⟩
  refine cK [] (Bq (g (((i64.wrap ((k:Int)-15))).toNat)) 3 bd) ?_;rintro out A0 ⟨rfl,⟨ty2,rfl⟩⟩
  refine cK [] (lF (g (((i64.wrap ((k:Int)-2))).toNat)) 17 bd) ?_;rintro out A0 ⟨rfl,⟨ty3,rfl⟩⟩
  refine cK [] (lF (g (((i64.wrap ((k:Int)-2))).toNat)) 19 bd) ?_;rintro out A0 ⟨rfl,⟨ty4,rfl⟩⟩
  refine cK [] (Bq (g (((i64.wrap ((k:Int)-2))).toNat)) 10 bd) ?_;rintro out A0 ⟨rfl,⟨ty5,rfl⟩⟩
  refine cC ((0:Int)<=(i64.wrap ((k:Int)-16))/\(i64.wrap ((k:Int)-16))<64) ?_ bw;refine cC ((0:Int)<=(i64.wrap ((k:Int)-7))/\(i64.wrap ((k:Int)-7))<64) ?_ bw;refine cC ((0:Int)<=(k:Int)/\(k:Int)<64) ?_;exact cA hX (hR (k+1,(F0 g k (u64.wrap ((ofInt 64 (u64.wrap ((u64.wrap ((u64.wrap ((g (((i64.wrap ((k:Int)-16))).toNat))+(u64.wrap ((ofInt 64 (u64.wrap ((ofInt 64 ty0^^^ofInt 64 ty1).toNat:Int))^^^ofInt 64 ty2).toNat:Int))))+(g (((i64.wrap ((k:Int)-7))).toNat))))+(u64.wrap ((ofInt 64 (u64.wrap ((ofInt 64 ty3^^^ofInt 64 ty4).toNat:Int))^^^ofInt 64 ty5).toNat:Int))))&&&ofInt 64 4294967295).toNat:Int)))) ⟨by dsimp only;omega,by dsimp only;omega⟩ (by dsimp only;omega)) (hS:=⟨v0,v0,v0,v0,(vS bd),zT⟩) (hH:=⟨v0,(vT (OZ (e:=PA))),v0,v0,zT⟩)
 refine cM hX (fun(p:Nat×(Nat->Int))=>[(3,.pr 16 0 []),(4,.pr 80 0 []),(5,.pr 144 0 []),(6,.pr 208 0 []),(12,.pr 528 0 []),(13,.i .i64 (p.1:Int))]) (fun(p:Nat×(Nat->Int))=>[(16,.ar 1 8 fun i=>.i .u64 (h i)),(80,.ar 1 64 fun i=>.i .u64 (g i)),(144,.ar 1 64 fun i=>.i .u64 (kk i)),(208,.ar 1 8 fun i=>.i .u64 0),(528,.ar 1 8 fun i=>.i .u64 (p.2 i))]) (fun(p:Nat×(Nat->Int))=>0<=p.1/\p.1<=64) (fun(p:Nat×(Nat->Int))=>64-p.1) [] 720 (0,h) ⟨by simp,by simp⟩ ?_
 rintro⟨k,gv⟩ hI R hR
 dsimp only at hI
 refine cB ((k:Int)<64) ?_ ?_<;>intro h2
 ·refine cK [] (lF (gv 4) 6 bd) ?_
  rintro out A0 ⟨rfl,⟨ty6,rfl⟩⟩
  refine cK [] (lF (gv 4) 11 bd) ?_;rintro out A0 ⟨rfl,⟨ty7,rfl⟩⟩
  refine cK [] (lF (gv 4) 25 bd) ?_;rintro out A0 ⟨rfl,⟨ty8,rfl⟩⟩
  refine cC ((0:Int)<=(k:Int)/\(k:Int)<64) ?_;refine cC ((0:Int)<=(k:Int)/\(k:Int)<64) ?_;refine cK [] (lF (gv 0) 2 bd) ?_;rintro out A0 ⟨rfl,⟨ty9,rfl⟩⟩
  refine cK [] (lF (gv 0) 13 bd) ?_;rintro out A0 ⟨rfl,⟨ty10,rfl⟩⟩
  refine cK [] (lF (gv 0) 22 bd) ?_;rintro out A0 ⟨rfl,⟨ty11,rfl⟩⟩
  refine MY (t:=272) (d:=153) .u64 [(u64.wrap ((ofInt 64 (u64.wrap ((u64.wrap ((u64.wrap ((u64.wrap ((u64.wrap ((u64.wrap ((gv 7)+(u64.wrap ((ofInt 64 (u64.wrap ((ofInt 64 ty6^^^ofInt 64 ty7).toNat:Int))^^^ofInt 64 ty8).toNat:Int))))+(u64.wrap ((ofInt 64 (u64.wrap ((ofInt 64 (gv 4)&&&ofInt 64 (gv 5)).toNat:Int))^^^ofInt 64 (u64.wrap ((ofInt 64 (u64.wrap (4294967295-(gv 4)))&&&ofInt 64 (gv 6)).toNat:Int))).toNat:Int))))+(kk k)))+(g k)))+(u64.wrap ((ofInt 64 (u64.wrap ((ofInt 64 ty9^^^ofInt 64 ty10).toNat:Int))^^^ofInt 64 ty11).toNat:Int))))+(u64.wrap ((ofInt 64 (u64.wrap ((ofInt 64 (u64.wrap ((ofInt 64 (gv 0)&&&ofInt 64 (gv 1)).toNat:Int))^^^ofInt 64 (u64.wrap ((ofInt 64 (gv 0)&&&ofInt 64 (gv 2)).toNat:Int))).toNat:Int))^^^ofInt 64 (u64.wrap ((ofInt 64 (gv 1)&&&ofInt 64 (gv 2)).toNat:Int))).toNat:Int))))&&&ofInt 64 4294967295).toNat:Int)),(gv 0),(gv 1),(gv 2),(u64.wrap ((ofInt 64 (u64.wrap ((gv 3)+(u64.wrap ((u64.wrap ((u64.wrap ((u64.wrap ((gv 7)+(u64.wrap ((ofInt 64 (u64.wrap ((ofInt 64 ty6^^^ofInt 64 ty7).toNat:Int))^^^ofInt 64 ty8).toNat:Int))))+(u64.wrap ((ofInt 64 (u64.wrap ((ofInt 64 (gv 4)&&&ofInt 64 (gv 5)).toNat:Int))^^^ofInt 64 (u64.wrap ((ofInt 64 (u64.wrap (4294967295-(gv 4)))&&&ofInt 64 (gv 6)).toNat:Int))).toNat:Int))))+(kk k)))+(g k)))))&&&ofInt 64 4294967295).toNat:Int)),(gv 4),(gv 5),(gv 6)] ?_
  exact cA hX (hR (k+1,(fun i=>[(u64.wrap ((ofInt 64 (u64.wrap ((u64.wrap ((u64.wrap ((u64.wrap ((u64.wrap ((u64.wrap ((gv 7)+(u64.wrap ((ofInt 64 (u64.wrap ((ofInt 64 ty6^^^ofInt 64 ty7).toNat:Int))^^^ofInt 64 ty8).toNat:Int))))+(u64.wrap ((ofInt 64 (u64.wrap ((ofInt 64 (gv 4)&&&ofInt 64 (gv 5)).toNat:Int))^^^ofInt 64 (u64.wrap ((ofInt 64 (u64.wrap (4294967295-(gv 4)))&&&ofInt 64 (gv 6)).toNat:Int))).toNat:Int))))+(kk k)))+(g k)))+(u64.wrap ((ofInt 64 (u64.wrap ((ofInt 64 ty9^^^ofInt 64 ty10).toNat:Int))^^^ofInt 64 ty11).toNat:Int))))+(u64.wrap ((ofInt 64 (u64.wrap ((ofInt 64 (u64.wrap ((ofInt 64 (gv 0)&&&ofInt 64 (gv 1)).toNat:Int))^^^ofInt 64 (u64.wrap ((ofInt 64 (gv 0)&&&ofInt 64 (gv 2)).toNat:Int))).toNat:Int))^^^ofInt 64 (u64.wrap ((ofInt 64 (gv 1)&&&ofInt 64 (gv 2)).toNat:Int))).toNat:Int))))&&&ofInt 64 4294967295).toNat:Int)),(gv 0),(gv 1),(gv 2),(u64.wrap ((ofInt 64 (u64.wrap ((gv 3)+(u64.wrap ((u64.wrap ((u64.wrap ((u64.wrap ((gv 7)+(u64.wrap ((ofInt 64 (u64.wrap ((ofInt 64 ty6^^^ofInt 64 ty7).toNat:Int))^^^ofInt 64 ty8).toNat:Int))))+(u64.wrap ((ofInt 64 (u64.wrap ((ofInt 64 (gv 4)&&&ofInt 64 (gv 5)).toNat:Int))^^^ofInt 64 (u64.wrap ((ofInt 64 (u64.wrap (4294967295-(gv 4)))&&&ofInt 64 (gv 6)).toNat:Int))).toNat:Int))))+(kk k)))+(g k)))))&&&ofInt 64 4294967295).toNat:Int)),(gv 4),(gv 5),(gv 6)].getD i 0)) ⟨by dsimp only;omega,by dsimp only;omega⟩ (by dsimp only;omega)) (hS:=⟨v0,v0,v0,v0,v0,(vS bd),zT⟩)
 refine cM hX (fun(p:Nat×(Nat->Int))=>[(3,.pr 16 0 []),(6,.pr 208 0 []),(12,.pr 528 0 []),(21,.i .i64 (p.1:Int))]) (fun(p:Nat×(Nat->Int))=>[(16,.ar 1 8 fun i=>.i .u64 (p.2 i)),(208,.ar 1 8 fun i=>.i .u64 0),(528,.ar 1 8 fun i=>.i .u64 (gv i))]) (fun(p:Nat×(Nat->Int))=>0<=p.1/\p.1<=8) (fun(p:Nat×(Nat->Int))=>8-p.1) [] 912 (0,h) ⟨by simp,by simp⟩ ?_
 rintro⟨k,gh⟩ hI R hR
 dsimp only at hI
 refine cB ((k:Int)<8) ?_ ?_<;>intro h3
 ·refine cC ((0:Int)<=(k:Int)/\(k:Int)<8) ?_
  refine cC ((0:Int)<=(k:Int)/\(k:Int)<8) ?_;refine cC ((0:Int)<=(k:Int)/\(k:Int)<8) ?_;exact cA hX (hR (k+1,(F0 gh k (u64.wrap ((ofInt 64 (u64.wrap ((gh k)+(gv k)))&&&ofInt 64 4294967295).toNat:Int)))) ⟨by dsimp only;omega,by dsimp only;omega⟩ (by dsimp only;omega)) (hS:=⟨v0,v0,v0,(vS bd),zT⟩) (hH:=⟨(vT (OZ (e:=PA))),v0,v0,zT⟩)
 exact xW hX (.ar 1 8 fun i=>.i .u64 (gh i)) ⟨rfl,rfl,⟨_,rfl⟩⟩
theorem CQ(b:By)(hb:b.length<=100000000):Sat Tryz.prog 179 [.bl 0 b] [] (fun out A0=>A0=[]/\(∃m,out=.bs 32 m/\m.length=32)):=by
 refine cF Tryz.func179 fun X0 w0 hX=>?_
 refine cK [] (Zs) ?_;rintro out A0 ⟨rfl,⟨kg0,rfl⟩⟩
 refine cC ((([]:By).length+b.length)*1<=140737488355328) ?_ bd;refine cC ((([]++b).length+[128].length)*1<=140737488355328) ?_ bd;refine cM hX (fun(u:By)=>[(0,.bl 0 b),(2,.pr 16 0 []),(3,.pr 144 0 []),(4,.bl 528 u)]) (fun(u:By)=>[(16,.bs 32 (replicate 32 0)),(144,.ar 1 64 fun i=>.i .u64 (kg0 i))]) (fun(u:By)=>u.length+(120-u.length % 64) % 64<=b.length+64) (fun(u:By)=>(120-u.length % 64) % 64) [528] 656 (([]++b)++[128]) bd ?_;rintro u hI R hR
 refine cB (((u.length:Int).tmod 64)≠56) ?_ ?_<;>intro h1
 ·have h1n:u.length % 64≠56:=fun h=>h1 (by show((u.length % 64:Nat):Int)=56;omega)
  refine cC ((u.length+[0].length)*1<=140737488355328) ?_ bd;exact cA hX (hR (u++[0]) bd bd)
 have h1n:u.length % 64=56:=by have h2:((u.length % 64:Nat):Int)=56:=i7.1 h1;omega
 refine cM hX (fun(p:Nat×By)=>[(2,.pr 16 0 []),(3,.pr 144 0 []),(4,.bl 1296 p.2),(5,.i .u64 (u64.wrap ((u64.wrap (b.length:Int))*8))),(6,.i .i64 (p.1:Int))]) (fun(p:Nat×By)=>[(16,.bs 32 (replicate 32 0)),(144,.ar 1 64 fun i=>.i .u64 (kg0 i))]) (fun(p:Nat×By)=>p.1<=8/\p.2.length=u.length+p.1) (fun(p:Nat×By)=>8-p.1) [1296] 1297 (0,u) ⟨bd,bd⟩ ?_;rintro⟨j,q⟩ hJ R hR
 refine cB ((j:Int)<8) ?_ ?_<;>intro h2
 ·refine cC ((0:Int)<=(i64.wrap (56-(i64.wrap (8*(j:Int)))))) ?_ bw
  refine cC ((q.length+[UInt8.ofNat ((u8.wrap ((u64.wrap ((u64.wrap (b.length:Int))*8)).fdiv (2 ^ (min ((i64.wrap (56-(i64.wrap (8*(j:Int)))))).toNat 64))))).toNat].length)*1<=140737488355328) ?_ bw;exact cA hX (hR (j+1,(q++[UInt8.ofNat ((u8.wrap ((u64.wrap ((u64.wrap (b.length:Int))*8)).fdiv (2 ^ (min ((i64.wrap (56-(i64.wrap (8*(j:Int)))))).toNat 64))))).toNat])) ⟨by dsimp only;omega,bd⟩ (by dsimp only;omega)) (hS:=⟨v0,v0,v0,v0,(vS bd),zT⟩)
 refine MY (t:=272) (d:=43) .u64 [1779033703,3144134277,1013904242,2773480762,1359893119,2600822924,528734635,1541459225] ?_
 refine cM hX (fun(p:Nat×(Nat->Int))=>[(2,.pr 16 0 []),(3,.pr 144 0 []),(4,.bl 1296 q),(7,.pr 1489 0 []),(8,.i .i64 ((64*p.1:Nat):Int))]) (fun(p:Nat×(Nat->Int))=>[(16,.bs 32 (replicate 32 0)),(144,.ar 1 64 fun i=>.i .u64 (kg0 i)),(1489,.ar 1 8 fun i=>.i .u64 (p.2 i))]) (fun(p:Nat×(Nat->Int))=>64*p.1<=q.length) (fun(p:Nat×(Nat->Int))=>q.length-64*p.1) [1296] 1681 (0,fun i=>[1779033703,3144134277,1013904242,2773480762,1359893119,2600822924,528734635,1541459225].getD i 0) bd ?_;rintro⟨a,gh⟩ hK R hR
 refine cB (((64*a:Nat):Int)<(q.length:Int)) ?_ ?_<;>intro h3
 ·refine cM hX (fun(p:Nat×(Nat->Int))=>[(2,.pr 16 0 []),(3,.pr 144 0 []),(4,.bl 1296 q),(7,.pr 1489 0 []),(8,.i .i64 ((64*a:Nat):Int)),(9,.pr 1937 0 []),(10,.i .i64 (p.1:Int))]) (fun(p:Nat×(Nat->Int))=>[(16,.bs 32 (replicate 32 0)),(144,.ar 1 64 fun i=>.i .u64 (kg0 i)),(1489,.ar 1 8 fun i=>.i .u64 (gh i)),(1937,.ar 1 64 fun i=>.i .u64 (p.2 i))]) (fun(p:Nat×(Nat->Int))=>0<=p.1/\p.1<=64) (fun(p:Nat×(Nat->Int))=>64-p.1) [1296] 2065 (0,(fun _=>0)) ⟨by simp,by simp⟩ ?_
  rintro⟨k,gw⟩ hI R1 eP
  dsimp only at hI
  refine cB ((k:Int)<64) ?_ ?_<;>intro h4
  ·refine cC ((0:Int)<=(i64.wrap ((k:Int).tdiv 4))/\(i64.wrap ((k:Int).tdiv 4))<64) ?_ bw
   refine cC ((0:Int)<=(i64.wrap (((64*a:Nat):Int)+(k:Int)))/\(i64.wrap (((64*a:Nat):Int)+(k:Int)))<(q.length:Int)) ?_ bw;refine cC ((0:Int)<=(i64.wrap ((k:Int).tdiv 4))/\(i64.wrap ((k:Int).tdiv 4))<64) ?_ bw;exact cA hX (eP (k+1,(F0 gw (((i64.wrap ((k:Int).tdiv 4))).toNat) (u64.wrap ((u64.wrap ((gw (((i64.wrap ((k:Int).tdiv 4))).toNat))*256))+(u64.wrap ((q.getD (((i64.wrap (((64*a:Nat):Int)+(k:Int)))).toNat) 0).toNat:Int)))))) ⟨by dsimp only;omega,by dsimp only;omega⟩ (by dsimp only;omega)) (hS:=⟨v0,v0,v0,v0,v0,v0,(vS bd),zT⟩) (hH:=⟨v0,v0,v0,(vT (OZ (e:=PA))),zT⟩)
  refine cK [] (Zt gh gw kg0) ?_
  rintro out A0 ⟨rfl,⟨bg1,rfl⟩⟩
  exact cA hX (hR (a+1,bg1) bd (by dsimp only;omega)) (hS:=⟨v0,v0,v0,v0,(Zr bd),zT⟩)
 refine cM hX (fun(p:Nat×By)=>[(2,.pr 16 0 []),(7,.pr 1489 0 []),(11,.pr 1937 0 []),(12,.i .i64 (p.1:Int))]) (fun(p:Nat×By)=>[(16,.bs 32 (replicate 32 0)),(1489,.ar 1 8 fun i=>.i .u64 (gh i)),(1937,.bs 32 p.2)]) (fun(p:Nat×By)=>p.1<=32/\p.2.length=32) (fun(p:Nat×By)=>32-p.1) [] 2065 (0,replicate 32 0) (by simp) ?_
 rintro⟨k,m⟩ hM R hR
 refine cB ((k:Int)<32) ?_ ?_<;>intro h5
 ·have hk4:(k:Int).tmod 4=((k % 4:Nat):Int):=rfl
  refine cC ((0:Int)<=(i64.wrap ((k:Int).tdiv 4))/\(i64.wrap ((k:Int).tdiv 4))<8) ?_ bw;refine cC ((0:Int)<=(i64.wrap (24-(i64.wrap (8*((k:Int).tmod 4)))))) ?_ bw;refine cC ((0:Int)<=(k:Int)/\(k:Int)<32) ?_;exact cA hX (hR (k+1,(m.set k (UInt8.ofNat ((u8.wrap ((gh (((i64.wrap ((k:Int).tdiv 4))).toNat)).fdiv (2 ^ (min ((i64.wrap (24-(i64.wrap (8*((k:Int).tmod 4)))))).toNat 64))))).toNat))) ⟨by dsimp only;omega,by dsimp only;rw[List.length_set];exact hM.2⟩ (by dsimp only;omega)) (hS:=⟨v0,v0,v0,(vS bd),zT⟩)
 exact xW hX (.bs 32 m) ⟨rfl,rfl,⟨_,rfl,hM.2⟩⟩
theorem Zu(k b:By)(hk:k.length<=1000)(hb:b.length<=50000000):Sat Tryz.prog 143 [.bl 0 k,.bl 0 b] [] (fun out A0=>A0=[]/\(∃m,out=.bs 32 m/\m.length=32)):=by
 refine cF Tryz.func143 fun X0 w0 hX=>?_
 refine cC ((([]:By).length+k.length)*1<=140737488355328) ?_ bd;refine cB (64<(([]++k).length:Int)) ?_ ?_<;>intro h1
 ·refine cK [] (CQ ([]++k) bd) ?_
  rintro out A0 ⟨rfl,⟨wS,rfl,hsu0⟩⟩
  refine cM hX (fun(p:Nat×By×By)=>[(1,.bl 0 b),(4,.pr 16 0 []),(5,.bl 1 wS),(7,.bl 300 p.2.1),(8,.bl 301 p.2.2),(9,.i .i64 (p.1:Int))]) (fun(p:Nat×By×By)=>[(16,.bs 32 (replicate 32 0))]) (fun(p:Nat×By×By)=>p.1<=64/\p.2.1.length=p.1/\p.2.2.length=p.1) (fun(p:Nat×By×By)=>64-p.1) [300,301] 1104 (0,[],[]) (by simp) ?_;rintro⟨i,x,y⟩ hI R hR
  dsimp only at hI
  refine cB ((i:Int)<64) ?_ ?_<;>intro h2
  ·refine cB ((i:Int)<(wS.length:Int)) ?_ ?_<;>intro h3
   ·refine cC ((0:Int)<=(i:Int)/\(i:Int)<(wS.length:Int)) ?_
    refine cC ((x.length+[UInt8.ofNat ((u8.wrap ((ofInt 8 ((wS.getD i 0).toNat:Int)^^^ofInt 8 54).toNat:Int))).toNat].length)*1<=140737488355328) ?_ bw;refine cC ((y.length+[UInt8.ofNat ((u8.wrap ((ofInt 8 ((wS.getD i 0).toNat:Int)^^^ofInt 8 92).toNat:Int))).toNat].length)*1<=140737488355328) ?_ bw;exact cA hX (hR (i+1,(x++[UInt8.ofNat ((u8.wrap ((ofInt 8 ((wS.getD i 0).toNat:Int)^^^ofInt 8 54).toNat:Int))).toNat]),(y++[UInt8.ofNat ((u8.wrap ((ofInt 8 ((wS.getD i 0).toNat:Int)^^^ofInt 8 92).toNat:Int))).toNat])) ⟨by dsimp only;omega,bd,bd⟩ (by dsimp only;omega)) (hS:=⟨v0,v0,v0,v0,v0,(vS bd),zT⟩)
   refine cC ((x.length+[UInt8.ofNat ((u8.wrap ((ofInt 8 0^^^ofInt 8 54).toNat:Int))).toNat].length)*1<=140737488355328) ?_ bw
   refine cC ((y.length+[UInt8.ofNat ((u8.wrap ((ofInt 8 0^^^ofInt 8 92).toNat:Int))).toNat].length)*1<=140737488355328) ?_ bw;exact cA hX (hR (i+1,(x++[UInt8.ofNat ((u8.wrap ((ofInt 8 0^^^ofInt 8 54).toNat:Int))).toNat]),(y++[UInt8.ofNat ((u8.wrap ((ofInt 8 0^^^ofInt 8 92).toNat:Int))).toNat])) ⟨by dsimp only;omega,bd,bd⟩ (by dsimp only;omega)) (hS:=⟨v0,v0,v0,v0,v0,(vS bd),zT⟩)
  refine cC ((x.length+b.length)*1<=140737488355328) ?_
  refine cK [] (CQ (x++b) bd) ?_;rintro out A0 ⟨rfl,⟨su1,rfl,hsu1⟩⟩
  refine cC ((y.length+su1.length)*1<=140737488355328) ?_;refine cK [] (CQ (y++su1) bd) ?_;rintro out A0 ⟨rfl,⟨su2,rfl,hsu2⟩⟩
  exact xW hX (.bs 32 su2) ⟨rfl,rfl,⟨_,rfl,by assumption⟩⟩
 refine cM hX (fun(p:Nat×By×By)=>[(1,.bl 0 b),(4,.pr 16 0 []),(5,.bl 208 ([]++k)),(7,.bl 300 p.2.1),(8,.bl 301 p.2.2),(9,.i .i64 (p.1:Int))]) (fun(p:Nat×By×By)=>[(16,.bs 32 (replicate 32 0))]) (fun(p:Nat×By×By)=>p.1<=64/\p.2.1.length=p.1/\p.2.2.length=p.1) (fun(p:Nat×By×By)=>64-p.1) [208,300,301] 720 (0,[],[]) (by simp) ?_
 rintro⟨i,x,y⟩ hI R hR
 dsimp only at hI
 refine cB ((i:Int)<64) ?_ ?_<;>intro h4
 ·refine cB ((i:Int)<(([]++k).length:Int)) ?_ ?_<;>intro h5
  ·refine cC ((0:Int)<=(i:Int)/\(i:Int)<(([]++k).length:Int)) ?_ bd
   refine cC ((x.length+[UInt8.ofNat ((u8.wrap ((ofInt 8 ((([]++k).getD i 0).toNat:Int)^^^ofInt 8 54).toNat:Int))).toNat].length)*1<=140737488355328) ?_ bw;refine cC ((y.length+[UInt8.ofNat ((u8.wrap ((ofInt 8 ((([]++k).getD i 0).toNat:Int)^^^ofInt 8 92).toNat:Int))).toNat].length)*1<=140737488355328) ?_ bw;exact cA hX (hR (i+1,(x++[UInt8.ofNat ((u8.wrap ((ofInt 8 ((([]++k).getD i 0).toNat:Int)^^^ofInt 8 54).toNat:Int))).toNat]),(y++[UInt8.ofNat ((u8.wrap ((ofInt 8 ((([]++k).getD i 0).toNat:Int)^^^ofInt 8 92).toNat:Int))).toNat])) ⟨by dsimp only;omega,bd,bd⟩ (by dsimp only;omega)) (hS:=⟨v0,v0,v0,v0,v0,(vS bd),zT⟩)
  refine cC ((x.length+[UInt8.ofNat ((u8.wrap ((ofInt 8 0^^^ofInt 8 54).toNat:Int))).toNat].length)*1<=140737488355328) ?_ bw
  refine cC ((y.length+[UInt8.ofNat ((u8.wrap ((ofInt 8 0^^^ofInt 8 92).toNat:Int))).toNat].length)*1<=140737488355328) ?_ bw;exact cA hX (hR (i+1,(x++[UInt8.ofNat ((u8.wrap ((ofInt 8 0^^^ofInt 8 54).toNat:Int))).toNat]),(y++[UInt8.ofNat ((u8.wrap ((ofInt 8 0^^^ofInt 8 92).toNat:Int))).toNat])) ⟨by dsimp only;omega,bd,bd⟩ (by dsimp only;omega)) (hS:=⟨v0,v0,v0,v0,v0,(vS bd),zT⟩)
 refine cC ((x.length+b.length)*1<=140737488355328) ?_
 refine cK [] (CQ (x++b) bd) ?_;rintro out A0 ⟨rfl,⟨su3,rfl,hsu3⟩⟩
 refine cC ((y.length+su3.length)*1<=140737488355328) ?_;refine cK [] (CQ (y++su3) bd) ?_;rintro out A0 ⟨rfl,⟨su4,rfl,hsu4⟩⟩
 exact xW hX (.bs 32 su4) ⟨rfl,rfl,⟨_,rfl,by assumption⟩⟩
theorem IT(k l:By)(hk:k.length<=1000)(hl:l.length<=1000000):Sat Tryz.prog 91 [.bl 0 k,.sl 0 1 1 fun _=>.bl 0 l] [] (fun out A0=>A0=[]/\(∃m,out=.bs 32 m/\m.length=32)):=by
 refine cF Tryz.func91 fun X0 w0 hX=>?_
 refine cM hX (fun(p:Nat×By)=>[(0,.bl 0 k),(1,.sl 0 1 1 fun _=>.bl 0 l),(4,.pr 16 0 []),(5,.bl 24 p.2),(6,.i .i64 (p.1:Int))]) (fun(p:Nat×By)=>[(16,.bs 32 (replicate 32 0))]) (fun(p:Nat×By)=>p.1<=1/\p.2.length<=1000008*p.1) (fun(p:Nat×By)=>1-p.1) [24] 208 (0,[]) (by simp) ?_;rintro⟨i,x⟩ hI R hR
 dsimp only at hI
 refine cB ((i:Int)<1) ?_ ?_<;>intro h1
 ·refine cC ((0:Int)<=(i:Int)/\(i:Int)<1) ?_
  refine cC ((0:Int)<=(i:Int)/\(i:Int)<1) ?_;refine cK [] (yP (u64.wrap (l.length:Int))) ?_;rintro out A0 ⟨mF,rfl,rfl,hei0⟩
  refine cC ((x.length+mF.length)*1<=140737488355328) ?_;refine cC (((x++mF).length+l.length)*1<=140737488355328) ?_ bd;exact cA hX (hR (i+1,((x++mF)++l)) ⟨by dsimp only;omega,bd⟩ (by dsimp only;omega)) (hS:=⟨v0,v0,v0,v0,(vS bd),zT⟩)
 refine cK [] (Zu k x bd bd) ?_
 rintro out A0 ⟨rfl,⟨sr1,rfl,hsr1⟩⟩
 exact xW hX (.bs 32 sr1) ⟨rfl,rfl,⟨_,rfl,by assumption⟩⟩
theorem Zv(l:By)(hl:l.length<1000000):Sat Tryz.prog 46 [.s l] [] (fun out A0=>A0=[]/\(∃p,out=.b p/\(p=true->l.length<=16))):=by
 refine cF Tryz.func46 fun X0 w0 hX=>?_
 refine cB ((l.length:Int)<1) ?_ ?_<;>intro h1
 ·exact xW hX (.b false) ⟨rfl,rfl,⟨_,rfl,by first|(intro h;cases h;done)|(intro _;omega)⟩⟩
 refine cB (16<(l.length:Int)) ?_ ?_<;>intro h2
 ·exact xW hX (.b false) ⟨rfl,rfl,⟨_,rfl,by first|(intro h;cases h;done)|(intro _;omega)⟩⟩
 refine cC ((0:Int)<=0/\0<(l.length:Int)) ?_
 refine cB (((l.getD 0 0).toNat:Int)<97) ?_ ?_<;>intro h3
 ·exact xW hX (.b false) ⟨rfl,rfl,⟨_,rfl,by first|(intro h;cases h;done)|(intro _;omega)⟩⟩
 refine cC ((0:Int)<=0/\0<(l.length:Int)) ?_
 refine cB (122<((l.getD 0 0).toNat:Int)) ?_ ?_<;>intro h4
 ·exact xW hX (.b false) ⟨rfl,rfl,⟨_,rfl,by first|(intro h;cases h;done)|(intro _;omega)⟩⟩
 refine cM hX (fun(k:Nat)=>[(0,.s l),(3,.i .i64 (k:Int))]) (fun(k:Nat)=>[]) (fun(k:Nat)=>k<=l.length) (fun(k:Nat)=>l.length-k) [] 1296 0 (by simp) ?_
 rintro k hI R hR
 refine cB ((k:Int)<(l.length:Int)) ?_ ?_<;>intro h5
 ·refine cC ((0:Int)<=(k:Int)/\(k:Int)<(l.length:Int)) ?_
  refine cB (97<=((l.getD k 0).toNat:Int)) ?_ ?_<;>intro h6
  ·refine cB (((l.getD k 0).toNat:Int)<=122) ?_ ?_<;>intro h7
   ·exact cA hX (hR (k+1) zO zO) (hS:=⟨v0,(vS bd),zT⟩)
   refine cB (48<=((l.getD k 0).toNat:Int)) ?_ ?_<;>intro h8
   ·refine cB (((l.getD k 0).toNat:Int)<=57) ?_ ?_<;>intro h9
    ·exact cA hX (hR (k+1) zO zO) (hS:=⟨v0,(vS bd),zT⟩)
    refine cN (((l.getD k 0).toNat:Int)=45) ?_ ?_<;>intro K0
    ·exact xW hX (.b false) ⟨rfl,rfl,⟨_,rfl,by first|(intro h;cases h;done)|(intro _;omega)⟩⟩
    exact cA hX (hR (k+1) zO zO) (hS:=⟨v0,(vS bd),zT⟩)
   refine cN (((l.getD k 0).toNat:Int)=45) ?_ ?_<;>intro P9
   ·exact xW hX (.b false) ⟨rfl,rfl,⟨_,rfl,by first|(intro h;cases h;done)|(intro _;omega)⟩⟩
   exact cA hX (hR (k+1) zO zO) (hS:=⟨v0,(vS bd),zT⟩)
  refine cB (48<=((l.getD k 0).toNat:Int)) ?_ ?_<;>intro h12
  ·refine cB (((l.getD k 0).toNat:Int)<=57) ?_ ?_<;>intro w6
   ·exact cA hX (hR (k+1) zO zO) (hS:=⟨v0,(vS bd),zT⟩)
   refine cN (((l.getD k 0).toNat:Int)=45) ?_ ?_<;>intro dM
   ·exact xW hX (.b false) ⟨rfl,rfl,⟨_,rfl,by first|(intro h;cases h;done)|(intro _;omega)⟩⟩
   exact cA hX (hR (k+1) zO zO) (hS:=⟨v0,(vS bd),zT⟩)
  refine cN (((l.getD k 0).toNat:Int)=45) ?_ ?_<;>intro dN
  ·exact xW hX (.b false) ⟨rfl,rfl,⟨_,rfl,by first|(intro h;cases h;done)|(intro _;omega)⟩⟩
  exact cA hX (hR (k+1) zO zO) (hS:=⟨v0,(vS bd),zT⟩)
 exact xW hX (.b true) ⟨rfl,rfl,⟨_,rfl,by first|(intro h;cases h;done)|(intro _;omega)⟩⟩
theorem PB(t:Tok)(ht:t.tenant.length<1000000)(hc:t.cavs.length<1000000):Sat Tryz.prog 22 [G1 t] [] (fun out A0=>A0=[]/\(∃p,out=.b p/\(p=true->t.tenant.length<=16/\t.cavs.length<=8))):=by
 refine cF Tryz.func22 fun X0 w0 hX=>?_
 refine cN (t.tenant=[]) ?_ ?_<;>intro h1
 ·refine cK [] (Zv t.tenant bd) ?_
  rintro out A0 ⟨rfl,⟨pn0,rfl,o5⟩⟩
  refine cn (pn0) ?_ ?_<;>intro h2
  ·exact xW hX (.b false) ⟨rfl,rfl,⟨_,rfl,by first|(intro h;cases h;done)|exact fun _=>⟨o5 (jP h2),zO⟩|exact fun _=>⟨o5 h2,zO⟩|exact fun _=>⟨by rw[h1];simp,zO⟩⟩⟩
  refine cB (15<t.rights) ?_ ?_<;>intro h3
  ·exact xW hX (.b false) ⟨rfl,rfl,⟨_,rfl,by first|(intro h;cases h;done)|exact fun _=>⟨o5 (jP h2),zO⟩|exact fun _=>⟨o5 h2,zO⟩|exact fun _=>⟨by rw[h1];simp,zO⟩⟩⟩
  refine cB (8<(t.cavs.length:Int)) ?_ ?_<;>intro h4
  ·exact xW hX (.b false) ⟨rfl,rfl,⟨_,rfl,by first|(intro h;cases h;done)|exact fun _=>⟨o5 (jP h2),zO⟩|exact fun _=>⟨o5 h2,zO⟩|exact fun _=>⟨by rw[h1];simp,zO⟩⟩⟩
  refine cM hX (fun(k:Nat)=>[(1,.pr 16 0 []),(3,.i .i64 (k:Int))]) (fun(k:Nat)=>[(16,G1 t)]) (fun(k:Nat)=>k<=t.cavs.length) (fun(k:Nat)=>t.cavs.length-k) [] 1488 0 (by simp) ?_
  rintro k hI R hR
  refine cB ((k:Int)<(t.cavs.length:Int)) ?_ ?_<;>intro h5
  ·refine cC ((0:Int)<=(k:Int)/\(k:Int)<(t.cavs.length:Int)) ?_
   refine cB (15<(t.cavs.getD k default).r) ?_ ?_<;>intro h6
   ·exact xW hX (.b false) ⟨rfl,rfl,⟨_,rfl,by first|(intro h;cases h;done)|exact fun _=>⟨o5 (jP h2),zO⟩|exact fun _=>⟨o5 h2,zO⟩|exact fun _=>⟨by rw[h1];simp,zO⟩⟩⟩
   exact cA hX (hR (k+1) zO zO) (hS:=⟨v0,(vS bd),zT⟩)
  exact xW hX (.b true) ⟨rfl,rfl,⟨_,rfl,by first|(intro h;cases h;done)|exact fun _=>⟨o5 (jP h2),zO⟩|exact fun _=>⟨o5 h2,zO⟩|exact fun _=>⟨by rw[h1];simp,zO⟩⟩⟩
 refine cB (15<t.rights) ?_ ?_<;>intro h7
 ·exact xW hX (.b false) ⟨rfl,rfl,⟨_,rfl,by first|(intro h;cases h;done)|exact fun _=>⟨o5 (jP h2),zO⟩|exact fun _=>⟨o5 h2,zO⟩|exact fun _=>⟨by rw[h1];simp,zO⟩⟩⟩
 refine cB (8<(t.cavs.length:Int)) ?_ ?_<;>intro h8
 ·exact xW hX (.b false) ⟨rfl,rfl,⟨_,rfl,by first|(intro h;cases h;done)|exact fun _=>⟨o5 (jP h2),zO⟩|exact fun _=>⟨o5 h2,zO⟩|exact fun _=>⟨by rw[h1];simp,zO⟩⟩⟩
 refine cM hX (fun(k:Nat)=>[(1,.pr 16 0 []),(3,.i .i64 (k:Int))]) (fun(k:Nat)=>[(16,G1 t)]) (fun(k:Nat)=>k<=t.cavs.length) (fun(k:Nat)=>t.cavs.length-k) [] 1488 0 (by simp) ?_
 rintro k hI R hR
 refine cB ((k:Int)<(t.cavs.length:Int)) ?_ ?_<;>intro h9
 ·refine cC ((0:Int)<=(k:Int)/\(k:Int)<(t.cavs.length:Int)) ?_
  refine cB (15<(t.cavs.getD k default).r) ?_ ?_<;>intro K0
  ·exact xW hX (.b false) ⟨rfl,rfl,⟨_,rfl,by first|(intro h;cases h;done)|exact fun _=>⟨o5 (jP h2),zO⟩|exact fun _=>⟨o5 h2,zO⟩|exact fun _=>⟨by rw[h1];simp,zO⟩⟩⟩
  exact cA hX (hR (k+1) zO zO) (hS:=⟨v0,(vS bd),zT⟩)
 exact xW hX (.b true) ⟨rfl,rfl,⟨_,rfl,by first|(intro h;cases h;done)|exact fun _=>⟨o5 (jP h2),zO⟩|exact fun _=>⟨o5 h2,zO⟩|exact fun _=>⟨by rw[h1];simp,zO⟩⟩⟩
theorem IU(t:Tok)(ht:t.tenant.length<500000):Sat Tryz.prog 23 [G1 t] [] (fun out A0=>∃l,out=.bl 2 l/\A0=[2]/\l.length<=t.tenant.length+40):=by
 refine cF Tryz.func23 fun X0 w0 hX=>?_
 refine cK [] (yP t.serial) ?_;rintro out A0 ⟨mF,rfl,rfl,hei0⟩
 refine cK [] (WY mF t.tenant bd bd) ?_;rintro out A0 ⟨tx1,te1,rfl,rfl,htx1,hte1⟩
 refine cC ((tx1.length+[UInt8.ofNat (t.rights).toNat].length)*1<=140737488355328) ?_ bd;refine cK [] (NH t.from) ?_;rintro out A0 ⟨rfl,⟨sE,rfl,jY⟩⟩
 refine cK [] (yP sE) ?_;rintro out A0 ⟨ei3,rfl,rfl,hei3⟩
 refine cC (((tx1++[UInt8.ofNat (t.rights).toNat]).length+ei3.length)*1<=140737488355328) ?_ bd;refine cK [] (NH t.until) ?_;rintro out A0 ⟨rfl,⟨sF,rfl,hz4⟩⟩
 refine cK [] (yP sF) ?_;rintro out A0 ⟨ei5,rfl,rfl,hei5⟩
 refine cC ((((tx1++[UInt8.ofNat (t.rights).toNat])++ei3).length+ei5.length)*1<=140737488355328) ?_ bd;exact xW hX (.bl 2 (((tx1++[UInt8.ofNat (t.rights).toNat])++ei3)++ei5)) ⟨rfl,_,rfl,rfl,bd⟩
theorem PC(r u:Int):Sat Tryz.prog 24 [A1 [.i .u8 r,.i .i64 u]] [] (fun out A0=>∃l,out=.bl 2 l/\A0=[2]/\l.length<=9):=by
 refine cF Tryz.func24 fun X0 w0 hX=>?_
 refine jA 2 4496 (fun(v:By)=>[(2,.bl 592 v)]) (fun(v:By)=>[]) (fun(v:By)=>v.length<=9) [592] (fun R hR i hi=>?_) ?_
 ·revert i hi;refine f2 ?_ ?_<;>repeat' (first|refine al 2 (f2 ?_ ?_)|(refine cK (e:=eE) [] (NH u) ?_;rintro out A0 ⟨rfl,⟨zz0,rfl,y8⟩⟩)|(refine cK (e:=eE) [] (yP zz0) ?_;rintro out A0 ⟨ei1,rfl,rfl,hei1⟩)|refine cC (e:=eE) (([UInt8.ofNat (r).toNat].length+ei1.length)*1<=140737488355328) ?_ bd|exact cA hX (hR ([UInt8.ofNat (r).toNat]++ei1) bd))
 rintro v hv
 exact xW hX (.bl 2 v) ⟨rfl,_,rfl,rfl,bd⟩
theorem Zw(key:By)(t:Tok)(hk:key.length=32)(ht:t.tenant.length<=90000)(hc:t.cavs.length<=1000):Sat Tryz.prog 141 [.bs 32 key,G1 t] [] (fun out A0=>A0=[]/\(∃m,out=.bs 32 m/\m.length=32)):=by
 refine cF Tryz.func141 fun X0 w0 hX=>?_
 refine mM fV true ?_;refine jA 2 4096 (fun(m:By)=>[(3,.pr 80 0 []),(4,.pr 144 0 []),(5,.pr 3000 0 []),(1000004,A2 [])]) (fun(m:By)=>[(80,G1 t),(144,.bs 32 (replicate 32 0)),(3000,.bs 32 m)]) (fun(m:By)=>m.length=32) [] (fun R hR i hi=>?_) ?_
 ·revert i hi;refine f2 ?_ ?_<;>repeat' (first|refine al 2 (f2 ?_ ?_)|(refine cK (e:=eE) [] (IU t bd) ?_;rintro out A0 ⟨w5,rfl,rfl,hh0⟩)|(refine S0 (e:=eE) ((IT ((key.drop 0).take 32) w5 bd bd).full (ins':=[.bl 0 ((key.drop 0).take 32),.sl 1 1 1 fun _=>.bl 0 w5])) ?_;rintro out A0 ⟨rfl,⟨so1,rfl,hso1⟩⟩;refine⟨rfl,?_⟩)|exact cA hX (hR so1 (by assumption)))
 rintro m l7
 refine cM hX (fun(p:Nat×By)=>[(3,.pr 80 0 []),(4,.pr 144 0 []),(5,.pr 3000 0 []),(6,.i .i64 (p.1:Int)),(1000004,A2 [])]) (fun(p:Nat×By)=>[(80,G1 t),(144,.bs 32 (replicate 32 0)),(3000,.bs 32 p.2)]) (fun(p:Nat×By)=>p.1<=t.cavs.length/\p.2.length=32) (fun(p:Nat×By)=>t.cavs.length-p.1) [] 4160 (0,m) ⟨by simp,l7⟩ ?_;rintro⟨i,x⟩ hI R hR
 dsimp only at hI
 refine cB ((i:Int)<(t.cavs.length:Int)) ?_ ?_<;>intro h1
 ·refine cC ((0:Int)<=(i:Int)/\(i:Int)<(t.cavs.length:Int)) ?_
  refine cK [] (PC ((t.cavs.getD i default).r) ((t.cavs.getD i default).u)) ?_;rintro out A0 ⟨vl6,rfl,rfl,hv6⟩
  refine S0 ((IT ((x.drop 0).take 32) vl6 bd bd).full (ins':=[.bl 0 ((x.drop 0).take 32),.sl 1 1 1 fun _=>.bl 0 vl6])) ?_;rintro out A0 ⟨rfl,⟨so7,rfl,hso7⟩⟩
  refine⟨rfl,?_⟩
  exact cA hX (hR (i+1,so7) ⟨by dsimp only;omega,by assumption⟩ (by dsimp only;omega)) (hS:=⟨v0,v0,v0,(vS bd),v0,zT⟩)
 exact xW hX (.bs 32 x) ⟨rfl,rfl,⟨_,rfl,hI.2⟩⟩
theorem Zx(key:By)(t:Tok)(hk:key.length=32)(ht:t.tenant.length<=90000)(hc:t.cavs.length<=1000):Sat Tryz.prog 88 [.bs 32 key,G1 t] [] (fun out A0=>A0=[]/\(∃t2 e,out=A2 [G1 t2,.i .i64 e]/\t2.tenant.length<=t.tenant.length/\t2.cavs.length<=t.cavs.length/\t2.tag.length=32)):=by
 refine cF Tryz.func88 fun X0 w0 hX=>?_
 refine cK [] (PB t bd bd) ?_;rintro out A0 ⟨rfl,⟨w7,rfl,kK⟩⟩
 refine cn (w7) ?_ ?_<;>intro h1
 ·exact xW hX (A2 [G1 ⟨0,[],0,0,0,[],(replicate 32 0)⟩,.i .i64 1]) ⟨rfl,rfl,⟨_,_,rfl,by simp,by simp,by first|assumption|simp⟩⟩ (hv:=vT (u:=A2 [A1 [.i .u64 0,.s [],.i .u8 0,.i .i64 0,.i .i64 0,.sl 0 2 0 fun _=>.un,.bs 32 (replicate 32 0)],.i .i64 1]) (F5 ⟨C4 ⟨.rfl _,.rfl _,.rfl _,.rfl _,.rfl _,vN,.rfl _,zT⟩,.rfl _,zT⟩))
 refine cB (0<(t.cavs.length:Int)) ?_ ?_<;>intro h2
 ·exact xW hX (A2 [G1 ⟨0,[],0,0,0,[],(replicate 32 0)⟩,.i .i64 1]) ⟨rfl,rfl,⟨_,_,rfl,by simp,by simp,by first|assumption|simp⟩⟩ (hv:=vT (u:=A2 [A1 [.i .u64 0,.s [],.i .u8 0,.i .i64 0,.i .i64 0,.sl 0 2 0 fun _=>.un,.bs 32 (replicate 32 0)],.i .i64 1]) (F5 ⟨C4 ⟨.rfl _,.rfl _,.rfl _,.rfl _,.rfl _,vN,.rfl _,zT⟩,.rfl _,zT⟩))
 refine cK [] (Zw key t bd bd bd) ?_
 rintro out A0 ⟨rfl,⟨tg1,rfl,htg1⟩⟩
 exact xW hX (A2 [G1 ⟨t.serial,t.tenant,t.rights,t.from,t.until,t.cavs,tg1⟩,.i .i64 0]) ⟨rfl,rfl,⟨_,_,rfl,by simp,by simp,by first|assumption|simp⟩⟩ (hv:=vT (u:=A2 [A1 [.i .u64 t.serial,.s t.tenant,.i .u8 t.rights,.i .i64 t.from,.i .i64 t.until,B3 0 2 bG t.cavs,.bs 32 tg1],.i .i64 0]) (F5 ⟨C4 ⟨.rfl _,.rfl _,.rfl _,.rfl _,.rfl _,.rfl _,.rfl _,zT⟩,.rfl _,zT⟩))
theorem IV(t:Tok)(ht:t.tenant.length<=90000)(hc:t.cavs.length<=1000)(hg:t.tag.length=32):Sat Tryz.prog 11 [G1 t] [] (fun out A0=>∃l e,out=A2 [.bl 2 l,.i .i64 e]/\A0=[2]/\l.length<=200):=by
 refine cF Tryz.func11 fun X0 w0 hX=>?_
 refine cK [] (PB t bd bd) ?_;rintro out A0 ⟨rfl,⟨w7,rfl,kK⟩⟩
 refine cn (w7) ?_ ?_<;>intro h1
 ·have hq:=kK
  exact xW hX (A2 [.bl 2 [],.i .i64 1]) ⟨rfl,_,_,rfl,rfl,bd⟩
 have hq:=kK (by assumption)
 refine jA 3 4816 (fun(v:By)=>[(1,.pr 16 0 []),(4,.bl 976 v)]) (fun(v:By)=>[(16,G1 t)]) (fun(v:By)=>v.length<=60) [976] (fun R hR i hi=>?_) ?_
 ·match i,hi with
 |0,_=>
   refine L6 2 zK fun i hi=>?_
   revert i hi;refine f2 ?_ ?_<;>repeat' (first|refine al 2 (f2 ?_ ?_)|(refine cK (e:=eE) [] (IU t bd) ?_;rintro out A0 ⟨dO,rfl,rfl,hh1⟩)|refine cC (e:=eE) (([1].length+dO.length)*1<=140737488355328) ?_ bd|refine cC (e:=eE) ((([1]++dO).length+[UInt8.ofNat ((u8.wrap (t.cavs.length:Int))).toNat].length)*1<=140737488355328) ?_ bw|exact cA hX (hR (([1]++dO)++[UInt8.ofNat ((u8.wrap (t.cavs.length:Int))).toNat]) bd))
 |1,_=>
   refine cK [] (IU t bd) ?_;rintro out A0 ⟨hl3,rfl,rfl,hh3⟩
   refine L6 2 zK fun i hi=>?_
   revert i hi;refine f2 ?_ ?_<;>repeat' (first|refine al 2 (f2 ?_ ?_)|refine cC (e:=eE) (([1].length+hl3.length)*1<=140737488355328) ?_ bd|refine cC (e:=eE) ((([1]++hl3).length+[UInt8.ofNat ((u8.wrap (t.cavs.length:Int))).toNat].length)*1<=140737488355328) ?_ bw|exact cA hX (hR (([1]++hl3)++[UInt8.ofNat ((u8.wrap (t.cavs.length:Int))).toNat]) bd))
 |2,_=>
   refine L6 2 zK fun i hi=>?_
   revert i hi;refine f2 ?_ ?_<;>repeat' (first|(refine cK (e:=eE) [] (IU t bd) ?_;rintro out A0 ⟨hl4,rfl,rfl,hh4⟩)|refine cC (e:=eE) (([1].length+hl4.length)*1<=140737488355328) ?_ bd|refine cC (e:=eE) ((([1]++hl4).length+[UInt8.ofNat ((u8.wrap (t.cavs.length:Int))).toNat].length)*1<=140737488355328) ?_ bw|exact cA hX (hR (([1]++hl4)++[UInt8.ofNat ((u8.wrap (t.cavs.length:Int))).toNat]) bd))
 rintro v hv
 refine cM hX (fun(p:Nat×By)=>[(1,.pr 16 0 []),(4,.bl 976 p.2),(5,.i .i64 (p.1:Int))]) (fun(p:Nat×By)=>[(16,G1 t)]) (fun(p:Nat×By)=>p.1<=t.cavs.length/\p.2.length<=60+9*p.1) (fun(p:Nat×By)=>t.cavs.length-p.1) [976] 4880 (0,v) ⟨by simp,bd⟩ ?_;rintro⟨k,l⟩ hI R hR
 dsimp only at hI
 refine cB ((k:Int)<(t.cavs.length:Int)) ?_ ?_<;>intro h2
 ·refine cC ((0:Int)<=(k:Int)/\(k:Int)<(t.cavs.length:Int)) ?_
  refine cK [] (PC ((t.cavs.getD k default).r) ((t.cavs.getD k default).u)) ?_;rintro out A0 ⟨vl6,rfl,rfl,hv6⟩
  refine cC ((l.length+vl6.length)*1<=140737488355328) ?_;exact cA hX (hR (k+1,(l++vl6)) ⟨by dsimp only;omega,bd⟩ (by dsimp only;omega)) (hS:=⟨v0,v0,(vS bd),zT⟩)
 refine cC ((l.length+t.tag.length)*1<=140737488355328) ?_
 exact xW hX (A2 [.bl 2 (l++t.tag),.i .i64 0]) ⟨rfl,_,_,rfl,rfl,bd⟩
theorem IW(b:By)(a:Int)(hb:b.length<1000000)(ha:0<=a/\a<1000000):Sat Tryz.prog 89 [.bl 0 b,.i .i64 a] [] (fun out A0=>A0=[]/\(∃v,out=.i .u64 v)):=by
 refine cF Tryz.func89 fun X0 w0 hX=>?_
 refine cK [] (Rr b a 8 bd bd bd) ?_;rintro out A0 ⟨rfl,⟨oI,wJ,rfl,ha0,hA0,he0⟩⟩
 exact xW hX (.i .u64 oI) ⟨rfl,rfl,⟨_,rfl⟩⟩
theorem Zy [Inhabited α]{t z:Nat}{e:α->V}{u v:V}(l:List α)(x:α)(h:v=e x:=by rfl):VEq (.sl t z (0+l.length+1) fun i=>bif blt i (0+l.length) then bif blt i 0 then u else e (l.getD (i-0) default) else v) (B3 t z e (l++[x])):=by
 have hn:(l++[x]).length=0+l.length+1:=by simp
 unfold B3
 rw[hn]
 refine .sl _ _ _ _ _ fun i hi=>?_
 cases hb:blt i (0+l.length)
 ·have iR:i=l.length:=by have:¬ (blt i (0+l.length)=true):=(by rw[hb];simp);rw[A8]at this;omega
  subst iR
  simp[List.getD,h]
 have h2:i<0+l.length:=by rw[<-A8];exact hb
 simp[List.getD,N5 (show i<l.length by omega),show blt i 0=false from by cases i<;>rfl]
theorem PD(t:Tok)(r y:Int)(ht:t.tenant.length<=90000)(hc:t.cavs.length<=1000)(hg:t.tag.length=32):Sat Tryz.prog 37 [G1 t,A1 [.i .u8 r,.i .i64 y]] [] (fun out A0=>A0=[]/\(∃t2 e,out=A2 [G1 t2,.i .i64 e]/\t2.tenant.length<=t.tenant.length/\t2.cavs.length<=t.cavs.length+1/\t2.tag.length=32)):=by
 refine cF Tryz.func37 fun X0 w0 hX=>?_
 refine mM fV true ?_;refine cK [] (PB t bd bd) ?_;rintro out A0 ⟨rfl,⟨w7,rfl,kK⟩⟩
 refine cn (w7) ?_ ?_<;>intro h1
 ·exact xW hX (A2 [G1 ⟨0,[],0,0,0,[],(replicate 32 0)⟩,.i .i64 1]) ⟨rfl,rfl,⟨_,_,rfl,by simp,by simp,by first|assumption|simp⟩⟩ (hv:=vT (u:=A2 [A1 [.i .u64 0,.s [],.i .u8 0,.i .i64 0,.i .i64 0,.sl 0 2 0 fun _=>.un,.bs 32 (replicate 32 0)],.i .i64 1]) (F5 ⟨C4 ⟨.rfl _,.rfl _,.rfl _,.rfl _,.rfl _,vN,.rfl _,zT⟩,.rfl _,zT⟩))
 refine cB (15<r) ?_ ?_<;>intro h2
 ·exact xW hX (A2 [G1 ⟨0,[],0,0,0,[],(replicate 32 0)⟩,.i .i64 1]) ⟨rfl,rfl,⟨_,_,rfl,by simp,by simp,by first|assumption|simp⟩⟩ (hv:=vT (u:=A2 [A1 [.i .u64 0,.s [],.i .u8 0,.i .i64 0,.i .i64 0,.sl 0 2 0 fun _=>.un,.bs 32 (replicate 32 0)],.i .i64 1]) (F5 ⟨C4 ⟨.rfl _,.rfl _,.rfl _,.rfl _,.rfl _,vN,.rfl _,zT⟩,.rfl _,zT⟩))
 refine cB (8<=(t.cavs.length:Int)) ?_ ?_<;>intro h3
 ·exact xW hX (A2 [G1 ⟨0,[],0,0,0,[],(replicate 32 0)⟩,.i .i64 2]) ⟨rfl,rfl,⟨_,_,rfl,by simp,by simp,by first|assumption|simp⟩⟩ (hv:=vT (u:=A2 [A1 [.i .u64 0,.s [],.i .u8 0,.i .i64 0,.i .i64 0,.sl 0 2 0 fun _=>.un,.bs 32 (replicate 32 0)],.i .i64 2]) (F5 ⟨C4 ⟨.rfl _,.rfl _,.rfl _,.rfl _,.rfl _,vN,.rfl _,zT⟩,.rfl _,zT⟩))
 refine jA 2 5712 (fun(u:Unit)=>[(2,.pr 16 0 []),(3,.pr 80 0 []),(4,.pr 144 0 []),(1000004,A2 [])]) (fun(u:Unit)=>[(16,A1 [.i .u64 t.serial,.s t.tenant,.i .u8 t.rights,.i .i64 t.from,.i .i64 t.until,.sl 1424 2 ((0+t.cavs.length)+1) fun i=>bif blt i (0+t.cavs.length) then bif blt i 0 then .un else bG (t.cavs.getD (i-0) default) else A1 [.i .u8 r,.i .i64 y],.bs 32 t.tag]),(80,A1 [.i .u8 r,.i .i64 y]),(144,A1 [.i .u64 0,.s [],.i .u8 0,.i .i64 0,.i .i64 0,.sl 1 2 0 fun _=>.un,.bs 32 (replicate 32 0)])]) (fun(u:Unit)=>True) [1424] (fun R hR i hi=>?_) ?_
 ·revert i hi;refine f2 ?_ ?_<;>repeat' (first|refine al 2 (f2 ?_ ?_)|refine cC (e:=eE) ((0+t.cavs.length)*16<=140737488355328) ?_|refine cC (e:=eE) (((0+t.cavs.length)+1)*16<=140737488355328) ?_|exact cA hX (hR () zT))
 rintro u hJ
 refine cK [] (PC r y) ?_;rintro out A0 ⟨vl1,rfl,rfl,hv1⟩
 refine S0 ((IT ((t.tag.drop 0).take 32) vl1 bd bd).full (ins':=[.bl 0 ((t.tag.drop 0).take 32),.sl 1 1 1 fun _=>.bl 0 vl1])) ?_;rintro out A0 ⟨rfl,⟨so2,rfl,hso2⟩⟩
 refine⟨rfl,?_⟩
 exact xW hX (A2 [G1 ⟨t.serial,t.tenant,t.rights,t.from,t.until,(t.cavs++[⟨r,y⟩]),so2⟩,.i .i64 0]) ⟨rfl,rfl,⟨_,_,rfl,by simp,by simp,by first|assumption|simp⟩⟩ (hv:=vT (u:=A2 [A1 [.i .u64 t.serial,.s t.tenant,.i .u8 t.rights,.i .i64 t.from,.i .i64 t.until,.sl 0 2 ((0+t.cavs.length)+1) fun i=>bif blt i (0+t.cavs.length) then bif blt i 0 then .un else bG (t.cavs.getD (i-0) default) else A1 [.i .u8 r,.i .i64 y],.bs 32 so2],.i .i64 0]) (F5 ⟨C4 ⟨.rfl _,.rfl _,.rfl _,.rfl _,.rfl _,(Zy _ _),.rfl _,zT⟩,.rfl _,zT⟩))
theorem Zz(b:By)(hb:b.length<=100000):Sat Tryz.prog 35 [.bl 0 b] [] (fun out A0=>A0=[]/\(∃t e,out=A2 [G1 t,.i .i64 e]/\t.tenant.length<=16/\t.cavs.length<=8/\t.tag.length=32)):=by
 refine cF Tryz.func35 fun X0 w0 hX=>?_
 refine cB ((b.length:Int)<60) ?_ ?_<;>intro h1
 ·exact xW hX (A2 [G1 ⟨0,[],0,0,0,[],(replicate 32 0)⟩,.i .i64 4]) ⟨rfl,rfl,⟨_,_,rfl,by first|(simp;done)|exact J8.2.2.2,by first|(simp;done)|(dsimp only;omega),by first|(simp;done)|(simp;omega)⟩⟩ (hv:=vT (u:=A2 [A1 [.i .u64 0,.s [],.i .u8 0,.i .i64 0,.i .i64 0,.sl 0 2 0 fun _=>.un,.bs 32 (replicate 32 0)],.i .i64 4]) (F5 ⟨C4 ⟨.rfl _,.rfl _,.rfl _,.rfl _,.rfl _,vN,.rfl _,zT⟩,.rfl _,zT⟩))
 have hu:(b.getD 9 0).toNat<256:=UInt8.toNat_lt _
 refine cK [] (IW b 1 bd bd) ?_;rintro out A0 ⟨rfl,⟨wT,rfl⟩⟩
 refine cC ((0:Int)<=9/\9<(b.length:Int)) ?_ bd;refine cB (16<(i64.wrap ((b.getD 9 0).toNat:Int))) ?_ ?_<;>intro h2
 ·exact xW hX (A2 [G1 ⟨0,[],0,0,0,[],(replicate 32 0)⟩,.i .i64 4]) ⟨rfl,rfl,⟨_,_,rfl,by first|(simp;done)|exact J8.2.2.2,by first|(simp;done)|(dsimp only;omega),by first|(simp;done)|(simp;omega)⟩⟩ (hv:=vT (u:=A2 [A1 [.i .u64 0,.s [],.i .u8 0,.i .i64 0,.i .i64 0,.sl 0 2 0 fun _=>.un,.bs 32 (replicate 32 0)],.i .i64 4]) (F5 ⟨C4 ⟨.rfl _,.rfl _,.rfl _,.rfl _,.rfl _,vN,.rfl _,zT⟩,.rfl _,zT⟩))
 refine cB ((b.length:Int)<(i64.wrap (60+(i64.wrap ((b.getD 9 0).toNat:Int))))) ?_ ?_<;>intro h3
 ·exact xW hX (A2 [G1 ⟨0,[],0,0,0,[],(replicate 32 0)⟩,.i .i64 4]) ⟨rfl,rfl,⟨_,_,rfl,by first|(simp;done)|exact J8.2.2.2,by first|(simp;done)|(dsimp only;omega),by first|(simp;done)|(simp;omega)⟩⟩ (hv:=vT (u:=A2 [A1 [.i .u64 0,.s [],.i .u8 0,.i .i64 0,.i .i64 0,.sl 0 2 0 fun _=>.un,.bs 32 (replicate 32 0)],.i .i64 4]) (F5 ⟨C4 ⟨.rfl _,.rfl _,.rfl _,.rfl _,.rfl _,vN,.rfl _,zT⟩,.rfl _,zT⟩))
 refine cC ((0:Int)<=10/\(10:Int)<=(i64.wrap (10+(i64.wrap ((b.getD 9 0).toNat:Int))))/\(i64.wrap (10+(i64.wrap ((b.getD 9 0).toNat:Int))))<=(b.length:Int)) ?_ bw
 refine jA 2 6288 (fun(p:Int×By×Int)=>[(0,.bl 0 b),(2,.pr 16 0 []),(4,.pr 528 0 []),(6,.i .i64 p.1)]) (fun(p:Int×By×Int)=>[(16,A1 [.i .u64 0,.s [],.i .u8 0,.i .i64 0,.i .i64 0,.sl 1 2 0 fun _=>.un,.bs 32 (replicate 32 0)]),(528,A1 [.i .u64 wT,.s p.2.1,.i .u8 p.2.2,.i .i64 0,.i .i64 0,.sl 1 2 0 fun _=>.un,.bs 32 (replicate 32 0)])]) (fun(p:Int×By×Int)=>10<=p.1/\p.1<=26/\p.1+50<=b.length/\p.2.1.length<=16) [] (fun R hR i hi=>?_) ?_
 ·revert i hi;refine f2 ?_ ?_<;>repeat' (first|refine cC (e:=eE) ((0:Int)<=(i64.wrap (10+(i64.wrap ((b.getD 9 0).toNat:Int))))/\(i64.wrap (10+(i64.wrap ((b.getD 9 0).toNat:Int))))<(b.length:Int)) ?_ bw|exact cA hX (hR ((i64.wrap (10+(i64.wrap ((b.getD 9 0).toNat:Int)))),((b.drop 10).take (((i64.wrap (10+(i64.wrap ((b.getD 9 0).toNat:Int))))).toNat-10)),((b.getD (((i64.wrap (10+(i64.wrap ((b.getD 9 0).toNat:Int))))).toNat) 0).toNat:Int)) ⟨bw,bw,bw,by dsimp only;rw[F7];exact J2 (Nat.min_le_left _ _) bw⟩))
 rintro⟨a,ts,r⟩ J8
 dsimp only at J8
 refine cK [] (IW b (i64.wrap (a+1)) bd bw) ?_;rintro out A0 ⟨rfl,⟨nv1,rfl⟩⟩
 refine cK [] (NJ nv1) ?_;rintro out A0 ⟨rfl,⟨sE,rfl,jY⟩⟩
 refine cK [] (IW b (i64.wrap (a+9)) bd bw) ?_;rintro out A0 ⟨rfl,⟨nv3,rfl⟩⟩
 refine cK [] (NJ nv3) ?_;rintro out A0 ⟨rfl,⟨sF,rfl,hz4⟩⟩
 refine cC ((0:Int)<=(i64.wrap (a+17))/\(i64.wrap (a+17))<(b.length:Int)) ?_ bw;refine cB (8<(i64.wrap ((b.getD (((i64.wrap (a+17))).toNat) 0).toNat:Int))) ?_ ?_<;>intro h4
 ·exact xW hX (A2 [G1 ⟨0,[],0,0,0,[],(replicate 32 0)⟩,.i .i64 4]) ⟨rfl,rfl,⟨_,_,rfl,by first|(simp;done)|exact J8.2.2.2,by first|(simp;done)|(dsimp only;omega),by first|(simp;done)|(simp;omega)⟩⟩ (hv:=vT (u:=A2 [A1 [.i .u64 0,.s [],.i .u8 0,.i .i64 0,.i .i64 0,.sl 0 2 0 fun _=>.un,.bs 32 (replicate 32 0)],.i .i64 4]) (F5 ⟨C4 ⟨.rfl _,.rfl _,.rfl _,.rfl _,.rfl _,vN,.rfl _,zT⟩,.rfl _,zT⟩))
 have hu2:(b.getD (i64.wrap (a+17)).toNat 0).toNat<256:=UInt8.toNat_lt _
 refine cB ((b.length:Int)≠(i64.wrap ((i64.wrap ((i64.wrap (a+18))+(i64.wrap (9*(i64.wrap ((b.getD (((i64.wrap (a+17))).toNat) 0).toNat:Int))))))+32))) ?_ ?_<;>intro h5
 ·exact xW hX (A2 [G1 ⟨0,[],0,0,0,[],(replicate 32 0)⟩,.i .i64 4]) ⟨rfl,rfl,⟨_,_,rfl,by first|(simp;done)|exact J8.2.2.2,by first|(simp;done)|(dsimp only;omega),by first|(simp;done)|(simp;omega)⟩⟩ (hv:=vT (u:=A2 [A1 [.i .u64 0,.s [],.i .u8 0,.i .i64 0,.i .i64 0,.sl 0 2 0 fun _=>.un,.bs 32 (replicate 32 0)],.i .i64 4]) (F5 ⟨C4 ⟨.rfl _,.rfl _,.rfl _,.rfl _,.rfl _,vN,.rfl _,zT⟩,.rfl _,zT⟩))
 refine cM hX (fun(p:Nat×Int×Int×(List Cav))=>[(0,.bl 0 b),(2,.pr 16 0 []),(4,.pr 528 0 []),(6,.i .i64 p.2.1),(7,.i .i64 p.2.2.1),(8,.i .i64 (p.1:Int))]) (fun(p:Nat×Int×Int×(List Cav))=>[(16,A1 [.i .u64 0,.s [],.i .u8 0,.i .i64 0,.i .i64 0,.sl 1 2 0 fun _=>.un,.bs 32 (replicate 32 0)]),(528,A1 [.i .u64 wT,.s ts,.i .u8 r,.i .i64 sE,.i .i64 sF,B3 2 2 bG p.2.2.2,.bs 32 (replicate 32 0)])]) (fun(p:Nat×Int×Int×(List Cav))=>(p.1:Int)<=p.2.2.1/\p.2.2.1<=8/\0<=p.2.1/\p.2.1+9*(p.2.2.1-p.1)+32=b.length/\p.2.2.2.length=p.1) (fun(p:Nat×Int×Int×(List Cav))=>8-p.1) [2] 8656 (0,(i64.wrap (a+18)),(i64.wrap ((b.getD (((i64.wrap (a+17))).toNat) 0).toNat:Int)),[]) ⟨bw,bw,bw,bw,rfl⟩ ?_ (hH:=⟨v0,(vT (u:=A1 [.i .u64 wT,.s ts,.i .u8 r,.i .i64 sE,.i .i64 sF,.sl 2 2 0 fun _=>.un,.bs 32 (replicate 32 0)]) (C4 ⟨.rfl _,.rfl _,.rfl _,.rfl _,.rfl _,vN,.rfl _,zT⟩)),zT⟩)
 rintro⟨i,ap,kk,l⟩ o6 R hR
 dsimp only at o6
 refine cB ((i:Int)<kk) ?_ ?_<;>intro h6
 ·refine cC ((0:Int)<=ap/\ap<(b.length:Int)) ?_ bd
  refine cK [] (IW b (i64.wrap (ap+1)) bd bw) ?_;rintro out A0 ⟨rfl,⟨nv5,rfl⟩⟩
  refine cK [] (NJ nv5) ?_;rintro out A0 ⟨rfl,⟨zz6,rfl,hz6⟩⟩
  refine cC ((l.length+1)*16<=140737488355328) ?_ bd;exact cA hX (hR (i+1,(i64.wrap (ap+9)),kk,l++[⟨((b.getD ((ap).toNat) 0).toNat:Int),zz6⟩]) ⟨bw,bw,bw,bw,by simp;omega⟩ (by dsimp only;omega)) (hS:=⟨v0,v0,v0,v0,v0,vS,zT⟩) (hH:=⟨v0,(vT (u:=A1 [.i .u64 wT,.s ts,.i .u8 r,.i .i64 sE,.i .i64 sF,.sl 2 2 (l.length+1) fun i=>bif blt i l.length then bG (l.getD i default) else A1 [.i .u8 ((b.getD ((ap).toNat) 0).toNat:Int),.i .i64 zz6],.bs 32 (replicate 32 0)]) (C4 ⟨.rfl _,.rfl _,.rfl _,.rfl _,.rfl _,pY l ⟨_,_⟩,.rfl _,zT⟩)),zT⟩)
 have hw:i64.wrap (ap+32)=ap+32:=bw
 refine cC ((0:Int)<=ap/\ap<=(i64.wrap (ap+32))/\(i64.wrap (ap+32))<=(b.length:Int)) ?_ bw;refine cC (32<=((b.drop ((ap).toNat)).take (((i64.wrap (ap+32))).toNat-(ap).toNat)).length) ?_ bw;refine cK [] (IV ⟨wT,ts,r,sE,sF,l,(((b.drop ((ap).toNat)).take (((i64.wrap (ap+32))).toNat-(ap).toNat)).take 32)⟩ bd bd bd) ?_;rintro out A0 ⟨tb7,tf7,rfl,rfl,htb7⟩
 refine cB (tf7≠0) ?_ ?_<;>intro h7
 ·exact xW hX (A2 [G1 ⟨0,[],0,0,0,[],(replicate 32 0)⟩,.i .i64 4]) ⟨rfl,rfl,⟨_,_,rfl,by first|(simp;done)|exact J8.2.2.2,by first|(simp;done)|(dsimp only;omega),by first|(simp;done)|(simp;omega)⟩⟩ (hv:=vT (u:=A2 [A1 [.i .u64 0,.s [],.i .u8 0,.i .i64 0,.i .i64 0,.sl 0 2 0 fun _=>.un,.bs 32 (replicate 32 0)],.i .i64 4]) (F5 ⟨C4 ⟨.rfl _,.rfl _,.rfl _,.rfl _,.rfl _,vN,.rfl _,zT⟩,.rfl _,zT⟩))
 refine cN (tb7=b) ?_ ?_<;>intro h8
 ·exact xW hX (A2 [G1 ⟨0,[],0,0,0,[],(replicate 32 0)⟩,.i .i64 4]) ⟨rfl,rfl,⟨_,_,rfl,by first|(simp;done)|exact J8.2.2.2,by first|(simp;done)|(dsimp only;omega),by first|(simp;done)|(simp;omega)⟩⟩ (hv:=vT (u:=A2 [A1 [.i .u64 0,.s [],.i .u8 0,.i .i64 0,.i .i64 0,.sl 0 2 0 fun _=>.un,.bs 32 (replicate 32 0)],.i .i64 4]) (F5 ⟨C4 ⟨.rfl _,.rfl _,.rfl _,.rfl _,.rfl _,vN,.rfl _,zT⟩,.rfl _,zT⟩))
 exact xW hX (A2 [G1 ⟨wT,ts,r,sE,sF,l,(((b.drop ((ap).toNat)).take (((i64.wrap (ap+32))).toNat-(ap).toNat)).take 32)⟩,.i .i64 0]) ⟨rfl,rfl,⟨_,_,rfl,by first|(simp;done)|exact J8.2.2.2,by first|(simp;done)|(dsimp only;omega),by first|(simp;done)|(simp;omega)⟩⟩ (hv:=vT (u:=A2 [A1 [.i .u64 wT,.s ts,.i .u8 r,.i .i64 sE,.i .i64 sF,B3 0 2 bG l,.bs 32 (((b.drop ((ap).toNat)).take (((i64.wrap (ap+32))).toNat-(ap).toNat)).take 32)],.i .i64 0]) (F5 ⟨C4 ⟨.rfl _,.rfl _,.rfl _,.rfl _,.rfl _,.rfl _,.rfl _,zT⟩,.rfl _,zT⟩))
theorem a0a(l:By)(hl:l.length<=1000000):Sat Tryz.prog 180 [.s l] [] (fun out A0=>A0=[]/\(∃p,out=.b p/\(p=true->l.length<=64))):=by
 refine cF Tryz.func180 fun X0 w0 hX=>?_
 refine cM hX (fun(k:Nat)=>[(0,.s l),(3,.i .i64 (k:Int))]) (fun(k:Nat)=>[]) (fun(k:Nat)=>k<=l.length) (fun(k:Nat)=>l.length-k) [] 144 0 (by simp) ?_;rintro k hI R hR
 refine cB ((k:Int)<(l.length:Int)) ?_ ?_<;>intro h1
 ·refine cC ((0:Int)<=(k:Int)/\(k:Int)<(l.length:Int)) ?_
  refine cB (((l.getD k 0).toNat:Int)=47) ?_ ?_<;>intro h2
  ·exact xW hX (.b false) ⟨rfl,rfl,⟨_,rfl,by first|(intro h;cases h;done)|(intro _;omega)|(simp;omega)⟩⟩
  refine cC ((0:Int)<=(k:Int)/\(k:Int)<(l.length:Int)) ?_
  refine cB (((l.getD k 0).toNat:Int)=0) ?_ ?_<;>intro h3
  ·exact xW hX (.b false) ⟨rfl,rfl,⟨_,rfl,by first|(intro h;cases h;done)|(intro _;omega)|(simp;omega)⟩⟩
  exact cA hX (hR (k+1) zO zO) (hS:=⟨v0,(vS bd),zT⟩)
 refine cB (1<=(l.length:Int)) ?_ ?_<;>intro h4
 ·refine cB ((l.length:Int)<=64) ?_ ?_<;>intro h5
  ·refine cN (l=[46]) ?_ ?_<;>intro h6
   ·exact xW hX (.b (!(decide (l=[46,46])))) ⟨rfl,rfl,⟨_,rfl,by first|(intro h;cases h;done)|(intro _;omega)|(simp;omega)⟩⟩
   exact xW hX (.b false) ⟨rfl,rfl,⟨_,rfl,by first|(intro h;cases h;done)|(intro _;omega)|(simp;omega)⟩⟩
  exact xW hX (.b false) ⟨rfl,rfl,⟨_,rfl,by first|(intro h;cases h;done)|(intro _;omega)|(simp;omega)⟩⟩
 exact xW hX (.b false) ⟨rfl,rfl,⟨_,rfl,by first|(intro h;cases h;done)|(intro _;omega)|(simp;omega)⟩⟩
theorem a0b(n:Nat)(g:Nat->Itm)(hn:n<=100000)(hg:∀i,i<n->(g i).name.length<=1000000):Sat Tryz.prog 146 [.sl 0 35 n fun i=>I4 (g i)] [] (fun out A0=>A0=[]/\(∃p,out=.b p/\(p=true->n<=64/\∀i,i<n->(g i).name.length<=64))):=by
 refine cF Tryz.func146 fun X0 w0 hX=>?_
 refine cB (64<(n:Int)) ?_ ?_<;>intro h1
 ·exact xW hX (.b false) ⟨rfl,rfl,⟨_,rfl,by first|(intro h;cases h;done)|exact fun _=>⟨zO,fun i hi=>hI.2 i zO⟩⟩⟩
 refine cM hX (fun(k:Nat)=>[(0,.sl 0 35 n fun i=>I4 (g i)),(3,.i .i64 (k:Int))]) (fun(k:Nat)=>[]) (fun(k:Nat)=>k<=n/\∀j,j<k->(g j).name.length<=64) (fun(k:Nat)=>n-k) [] 336 0 ⟨L8 _,fun j hj=>absurd hj (S4 j)⟩ ?_
 rintro k hI R hR
 refine cB ((k:Int)<(n:Int)) ?_ ?_<;>intro h2
 ·refine cC ((0:Int)<=(k:Int)/\(k:Int)<(n:Int)) ?_
  refine cK [] (a0a ((g k).name) (hg _ zO)) ?_;rintro out A0 ⟨rfl,⟨w7,rfl,kK⟩⟩
  refine cn (w7) ?_ ?_<;>intro h3
  ·exact xW hX (.b false) ⟨rfl,rfl,⟨_,rfl,by first|(intro h;cases h;done)|exact fun _=>⟨zO,fun i hi=>hI.2 i zO⟩⟩⟩
  refine cB ((g k).kind<1) ?_ ?_<;>intro h4
  ·exact xW hX (.b false) ⟨rfl,rfl,⟨_,rfl,by first|(intro h;cases h;done)|exact fun _=>⟨zO,fun i hi=>hI.2 i zO⟩⟩⟩
  refine cB (2<(g k).kind) ?_ ?_<;>intro h5
  ·exact xW hX (.b false) ⟨rfl,rfl,⟨_,rfl,by first|(intro h;cases h;done)|exact fun _=>⟨zO,fun i hi=>hI.2 i zO⟩⟩⟩
  refine cB ((g k).size<0) ?_ ?_<;>intro h6
  ·exact xW hX (.b false) ⟨rfl,rfl,⟨_,rfl,by first|(intro h;cases h;done)|exact fun _=>⟨zO,fun i hi=>hI.2 i zO⟩⟩⟩
  refine cB ((g k).kind=2) ?_ ?_<;>intro h7
  ·refine cB ((g k).size≠0) ?_ ?_<;>intro h8
   ·exact xW hX (.b false) ⟨rfl,rfl,⟨_,rfl,by first|(intro h;cases h;done)|exact fun _=>⟨zO,fun i hi=>hI.2 i zO⟩⟩⟩
   refine cB (0<(k:Int)) ?_ ?_<;>intro h9
   ·refine cC ((0:Int)<=(i64.wrap ((k:Int)-1))/\(i64.wrap ((k:Int)-1))<(n:Int)) ?_ bw
    refine cn ((Op.bytesLess ((g (((i64.wrap ((k:Int)-1))).toNat)).name) ((g k).name))) ?_ ?_<;>intro K0
    ·exact xW hX (.b false) ⟨rfl,rfl,⟨_,rfl,by first|(intro h;cases h;done)|exact fun _=>⟨zO,fun i hi=>hI.2 i zO⟩⟩⟩
    exact cA hX (hR (k+1) ⟨zO,fun j hj=>by rcases qW.1 hj with h|rfl;exact hI.2 j h;exact kK (by assumption)⟩ zO) (hS:=⟨v0,(vS bd),zT⟩)
   exact cA hX (hR (k+1) ⟨zO,fun j hj=>by rcases qW.1 hj with h|rfl;exact hI.2 j h;exact kK (by assumption)⟩ zO) (hS:=⟨v0,(vS bd),zT⟩)
  refine cB (0<(k:Int)) ?_ ?_<;>intro P9
  ·refine cC ((0:Int)<=(i64.wrap ((k:Int)-1))/\(i64.wrap ((k:Int)-1))<(n:Int)) ?_ bw
   refine cn ((Op.bytesLess ((g (((i64.wrap ((k:Int)-1))).toNat)).name) ((g k).name))) ?_ ?_<;>intro h12
   ·exact xW hX (.b false) ⟨rfl,rfl,⟨_,rfl,by first|(intro h;cases h;done)|exact fun _=>⟨zO,fun i hi=>hI.2 i zO⟩⟩⟩
   exact cA hX (hR (k+1) ⟨zO,fun j hj=>by rcases qW.1 hj with h|rfl;exact hI.2 j h;exact kK (by assumption)⟩ zO) (hS:=⟨v0,(vS bd),zT⟩)
  exact cA hX (hR (k+1) ⟨zO,fun j hj=>by rcases qW.1 hj with h|rfl;exact hI.2 j h;exact kK (by assumption)⟩ zO) (hS:=⟨v0,(vS bd),zT⟩)
 exact xW hX (.b true) ⟨rfl,rfl,⟨_,rfl,by first|(intro h;cases h;done)|exact fun _=>⟨zO,fun i hi=>hI.2 i zO⟩⟩⟩
theorem Br(n:Nat)(g:Nat->Itm)(hn:n<=100000)(hg:∀i,i<n->(g i).name.length<=1000000):Sat Tryz.prog 94 [.sl 0 35 n fun i=>I4 (g i)] [] (fun out A0=>∃l e,out=A2 [.bl 2 l,.i .i64 e]/\A0=[2]/\l.length<=4000):=by
 refine cF Tryz.func94 fun X0 w0 hX=>?_
 refine rS 0 fun hv=>?_
 have hof:∀i,i<n->(g i).of.length=32:=fun i hi=>hv i hi 2 (show 2<4 by decide)
 refine cK [] (a0b n (fun i=>(g i)) bd hg) ?_;rintro out A0 ⟨rfl,⟨w7,rfl,kK⟩⟩
 refine cn (w7) ?_ ?_<;>intro h1
 ·exact xW hX (A2 [.bl 2 [],.i .i64 1]) ⟨rfl,_,_,rfl,rfl,bd⟩
 have hq:=kK (by assumption)
 refine cK [] ((NM [68,49] (u64.wrap (n:Int)) bd).full (ins':=[.bl 1 [68,49],.i .u64 (u64.wrap (n:Int))])) ?_;rintro out A0 ⟨rc1,rfl,rfl,hrc1⟩
 refine cM hX (fun(p:Nat×By)=>[(0,.sl 0 35 n fun i=>I4 (g i)),(4,.bl 658 p.2),(5,.i .i64 (p.1:Int))]) (fun(p:Nat×By)=>[]) (fun(p:Nat×By)=>p.1<=n/\p.2.length<=13+120*p.1) (fun(p:Nat×By)=>n-p.1) [658] 848 (0,rc1) ⟨by simp,bd⟩ ?_;rintro⟨k,l⟩ hI R hR
 dsimp only at hI
 refine cB ((k:Int)<(n:Int)) ?_ ?_<;>intro h2
 ·have hgk:=hq.2 k zO
  have M4:=hof k zO
  refine cC ((0:Int)<=(k:Int)/\(k:Int)<(n:Int)) ?_;refine jA 2 5968 (fun(v:By)=>[(0,.sl 0 35 n fun i=>I4 (g i)),(4,.bl 2066 v),(5,.i .i64 (k:Int)),(6,.pr 1360 0 [])]) (fun(v:By)=>[(1360,I4 (g k))]) (fun(v:By)=>v.length<=l.length+76) [2066] (fun R hR i hi=>?_) ?_
  ·revert i hi;refine f2 ?_ ?_<;>repeat' (first|refine al 2 (f2 ?_ ?_)|refine cC (e:=eE) ((l.length+[UInt8.ofNat ((u8.wrap ((g k).kind))).toNat].length)*1<=140737488355328) ?_ bw|(refine cK (e:=eE) [] (WY (l++[UInt8.ofNat ((u8.wrap ((g k).kind))).toNat]) ((g k).name) bd bd) ?_;rintro out A0 ⟨tx2,te2,rfl,rfl,htx2,hte2⟩)|exact cA hX (hR tx2 bd))
  rintro v hv
  refine cC ((v.length+((g k).of).length)*1<=140737488355328) ?_;refine cK [] (NM (v++((g k).of)) (u64.wrap ((g k).size)) bd) ?_;rintro out A0 ⟨rc5,rfl,rfl,hrc5⟩
  exact cA hX (hR (k+1,rc5) ⟨by dsimp only;omega,bd⟩ (by dsimp only;omega)) (hS:=⟨v0,v0,(vS bd),zT⟩)
 refine cB (4000<(l.length:Int)) ?_ ?_<;>intro h3
 ·exact xW hX (A2 [.bl 2 [],.i .i64 2]) ⟨rfl,_,_,rfl,rfl,bd⟩
 exact xW hX (A2 [.bl 2 l,.i .i64 0]) ⟨rfl,_,_,rfl,rfl,bd⟩
theorem Bs(b:By)(hb:b.length<=100000):Sat Tryz.prog 93 [.bl 0 b] [] (fun out A0=>∃(l:List Itm) (e:Int),out=A2 [B3 2 35 I4 l,.i .i64 e]/\A0=[2]):=by
 refine cF Tryz.func93 fun X0 w0 hX=>?_
 refine cB ((b.length:Int)<3) ?_ ?_<;>intro h1
 ·exact xW hX (A2 [B3 2 35 I4 [],.i .i64 4]) ⟨rfl,_,_,rfl,rfl⟩ (hv:=vT (u:=A2 [.sl 2 35 0 fun _=>.un,.i .i64 4]) (F5 ⟨vN,.rfl _,zT⟩))
 refine cC ((0:Int)<=0/\0<(b.length:Int)) ?_ bd
 refine cB (((b.getD 0 0).toNat:Int)≠68) ?_ ?_<;>intro h2
 ·exact xW hX (A2 [B3 2 35 I4 [],.i .i64 4]) ⟨rfl,_,_,rfl,rfl⟩ (hv:=vT (u:=A2 [.sl 2 35 0 fun _=>.un,.i .i64 4]) (F5 ⟨vN,.rfl _,zT⟩))
 refine cC ((0:Int)<=1/\1<(b.length:Int)) ?_ bd
 refine cB (((b.getD 1 0).toNat:Int)≠49) ?_ ?_<;>intro h3
 ·exact xW hX (A2 [B3 2 35 I4 [],.i .i64 4]) ⟨rfl,_,_,rfl,rfl⟩ (hv:=vT (u:=A2 [.sl 2 35 0 fun _=>.un,.i .i64 4]) (F5 ⟨vN,.rfl _,zT⟩))
 refine cC ((0:Int)<=2/\2<(b.length:Int)) ?_ bd
 refine cB (64<((b.getD 2 0).toNat:Int)) ?_ ?_<;>intro h4
 ·exact xW hX (A2 [B3 2 35 I4 [],.i .i64 4]) ⟨rfl,_,_,rfl,rfl⟩ (hv:=vT (u:=A2 [.sl 2 35 0 fun _=>.un,.i .i64 4]) (F5 ⟨vN,.rfl _,zT⟩))
 refine cM hX (fun(p:Nat×Int×(List Itm))=>[(0,.bl 0 b),(4,B3 2 35 I4 p.2.2),(5,.i .i64 p.2.1),(6,.i .i64 (p.1:Int))]) (fun(p:Nat×Int×(List Itm))=>[]) (fun(p:Nat×Int×(List Itm))=>3<=p.2.1/\p.2.1<=(b.length:Int)/\p.2.2.length=p.1/\p.1<=256/\∀x∈p.2.2,x.name.length<=100000) (fun(p:Nat×Int×(List Itm))=>(i64.wrap ((b.getD 2 0).toNat:Int)).toNat-p.1) [2] 1680 (0,3,[]) ⟨by simp,bd,rfl,by simp,by simp⟩ ?_ (hS:=⟨v0,(vT (vN (g:=fun _=>.un))),v0,v0,zT⟩) (hH:=trivial)
 rintro⟨i,ap,l⟩ o6 R hR
 dsimp only at o6
 refine cC ((0:Int)<=2/\2<(b.length:Int)) ?_ bd;refine cB ((i:Int)<(i64.wrap ((b.getD 2 0).toNat:Int))) ?_ ?_<;>intro h5
 ·have hu:(b.getD 2 0).toNat<256:=UInt8.toNat_lt _
  have hK:i64.wrap ((b.getD 2 0).toNat:Int)=(b.getD 2 0).toNat:=bw
  have hw0:i64.wrap (ap+2)=ap+2:=bw
  refine cB ((b.length:Int)<(i64.wrap (ap+2))) ?_ ?_<;>intro h6
  ·exact xW hX (A2 [B3 2 35 I4 [],.i .i64 4]) ⟨rfl,_,_,rfl,rfl⟩ (hv:=vT (u:=A2 [.sl 2 35 0 fun _=>.un,.i .i64 4]) (F5 ⟨vN,.rfl _,zT⟩))
  have rP:i64.wrap (ap+1)=ap+1:=bw
  refine cC ((0:Int)<=ap/\ap<(b.length:Int)) ?_ bd;refine cC ((0:Int)<=(i64.wrap (ap+1))/\(i64.wrap (ap+1))<=(b.length:Int)) ?_ bw;refine cK [] (Rt ((b.drop (((i64.wrap (ap+1))).toNat)).take (b.length-((i64.wrap (ap+1))).toNat)) bd) ?_;rintro out A0 ⟨fY,C5,xe0,rfl,rfl,hxa0,hxs0⟩
  simp only[F7,K4]at hxa0 hxs0
  refine cB (xe0≠0) ?_ ?_<;>intro h7
  ·exact xW hX (A2 [B3 2 35 I4 [],.i .i64 4]) ⟨rfl,_,_,rfl,rfl⟩ (hv:=vT (u:=A2 [.sl 2 35 0 fun _=>.un,.i .i64 4]) (F5 ⟨vN,.rfl _,zT⟩))
  have kG:i64.wrap (i64.wrap (ap+1)+C5)=ap+1+C5:=by rw[rP];exact bw
  have hw3:i64.wrap (i64.wrap (i64.wrap (ap+1)+C5)+32)=ap+1+C5+32:=by rw[kG];exact bw
  refine cB ((b.length:Int)<(i64.wrap ((i64.wrap ((i64.wrap (ap+1))+C5))+32))) ?_ ?_<;>intro h8
  ·exact eV (fn:=Tryz.f93) hX [] [.sl 1 35 0 fun _=>.un,.i .i64 4] (A2 [B3 2 35 I4 [],.i .i64 4]) [2] (A2 [.sl 2 35 0 fun _=>.un,.i .i64 4]) (F5 ⟨vN,.rfl _,zT⟩) (⟨_,_,rfl,rfl⟩)
  refine jA 2 9104 (fun(p:Int×By×Int×By)=>[(0,.bl 0 b),(4,B3 2 35 I4 l),(5,.i .i64 p.1),(6,.i .i64 (i:Int)),(7,.pr 2768 0 [])]) (fun(p:Int×By×Int×By)=>[(2768,A1 [.s p.2.1,.i .i64 p.2.2.1,.bs 32 p.2.2.2,.i .i64 0])]) (fun(p:Int×By×Int×By)=>4<=p.1/\p.1+32<=(b.length:Int)/\p.2.1.length<=100000) [2] (fun R hR i hi=>?_) ?_
  ·match i,hi with
  |0,_=>
    refine cC ((0:Int)<=(i64.wrap ((i64.wrap (ap+1))+C5))/\(i64.wrap ((i64.wrap (ap+1))+C5))<=(i64.wrap ((i64.wrap ((i64.wrap (ap+1))+C5))+32))/\(i64.wrap ((i64.wrap ((i64.wrap (ap+1))+C5))+32))<=(b.length:Int)) ?_ bw;refine L6 2 zK fun i hi=>?_
    match i,hi with
   |0,_|1,_=>
     refine cC (32<=((b.drop (((i64.wrap ((i64.wrap (ap+1))+C5))).toNat)).take (((i64.wrap ((i64.wrap ((i64.wrap (ap+1))+C5))+32))).toNat-((i64.wrap ((i64.wrap (ap+1))+C5))).toNat)).length) ?_ bw;exact cA hX (hR ((i64.wrap ((i64.wrap (ap+1))+C5)),fY,(i64.wrap ((b.getD ((ap).toNat) 0).toNat:Int)),(((b.drop (((i64.wrap ((i64.wrap (ap+1))+C5))).toNat)).take (((i64.wrap ((i64.wrap ((i64.wrap (ap+1))+C5))+32))).toNat-((i64.wrap ((i64.wrap (ap+1))+C5))).toNat)).take 32)) ⟨by dsimp only;omega,by dsimp only;omega,by dsimp only;omega⟩)
  |1,_=>
    refine cC ((0:Int)<=(i64.wrap ((i64.wrap (ap+1))+C5))/\(i64.wrap ((i64.wrap (ap+1))+C5))<=(i64.wrap ((i64.wrap ((i64.wrap (ap+1))+C5))+32))/\(i64.wrap ((i64.wrap ((i64.wrap (ap+1))+C5))+32))<=(b.length:Int)) ?_ bw;refine cC (32<=((b.drop (((i64.wrap ((i64.wrap (ap+1))+C5))).toNat)).take (((i64.wrap ((i64.wrap ((i64.wrap (ap+1))+C5))+32))).toNat-((i64.wrap ((i64.wrap (ap+1))+C5))).toNat)).length) ?_ bw;exact cA hX (hR ((i64.wrap ((i64.wrap (ap+1))+C5)),fY,(i64.wrap ((b.getD ((ap).toNat) 0).toNat:Int)),(((b.drop (((i64.wrap ((i64.wrap (ap+1))+C5))).toNat)).take (((i64.wrap ((i64.wrap ((i64.wrap (ap+1))+C5))+32))).toNat-((i64.wrap ((i64.wrap (ap+1))+C5))).toNat)).take 32)) ⟨by dsimp only;omega,by dsimp only;omega,by dsimp only;omega⟩)
  rintro⟨q,nm,kd,oo⟩ J8
  dsimp only at J8
  refine cC ((0:Int)<=(i64.wrap (q+32))/\(i64.wrap (q+32))<=(b.length:Int)) ?_ bw;refine cK [] (WZ ((b.drop (((i64.wrap (q+32))).toNat)).take (b.length-((i64.wrap (q+32))).toNat)) bd) ?_;rintro out A0 ⟨rfl,⟨wL,mB,te1,rfl,htv1,hta1,hte1⟩⟩
  simp only[F7,K4]at hta1
  refine cB (te1≠0) ?_ ?_<;>intro h9
  ·exact xW hX (A2 [B3 2 35 I4 [],.i .i64 4]) ⟨rfl,_,_,rfl,rfl⟩ (hv:=vT (u:=A2 [.sl 2 35 0 fun _=>.un,.i .i64 4]) (F5 ⟨vN,.rfl _,zT⟩))
  refine cB (9223372036854775807<wL) ?_ ?_<;>intro K0
  ·exact xW hX (A2 [B3 2 35 I4 [],.i .i64 4]) ⟨rfl,_,_,rfl,rfl⟩ (hv:=vT (u:=A2 [.sl 2 35 0 fun _=>.un,.i .i64 4]) (F5 ⟨vN,.rfl _,zT⟩))
  refine cC ((l.length+1)*64<=140737488355328) ?_ bd
  exact cA hX (hR (i+1,(i64.wrap ((i64.wrap (q+32))+mB)),l++[⟨nm,kd,oo,(i64.wrap wL)⟩]) ⟨bw,bw,by simp;omega,bw,fun x hx=>by simp only[S3,O8]at hx;rcases hx with h|rfl;exact o6.2.2.2.2 x h;exact J8.2.2⟩ (by dsimp only;omega)) (hS:=⟨v0,(vT (pY l _)),v0,vS,zT⟩)
 refine cK [] (Br l.length (fun i=>(l.getD i default)) bd (fun i hi=>J2 (o6.2.2.2.2 _ (by rw[l6,B6 hi];exact eG hi)) (by decide))) ?_
 rintro out A0 ⟨fb2,fe2,rfl,rfl,hfb2⟩
 refine cB (fe2≠0) ?_ ?_<;>intro P9
 ·exact xW hX (A2 [B3 2 35 I4 [],.i .i64 4]) ⟨rfl,_,_,rfl,rfl⟩ (hv:=vT (u:=A2 [.sl 2 35 0 fun _=>.un,.i .i64 4]) (F5 ⟨vN,.rfl _,zT⟩))
 refine cN (fb2=b) ?_ ?_<;>intro h12
 ·exact xW hX (A2 [B3 2 35 I4 [],.i .i64 4]) ⟨rfl,_,_,rfl,rfl⟩ (hv:=vT (u:=A2 [.sl 2 35 0 fun _=>.un,.i .i64 4]) (F5 ⟨vN,.rfl _,zT⟩))
 exact xW hX (A2 [B3 2 35 I4 l,.i .i64 0]) ⟨rfl,_,_,rfl,rfl⟩
theorem a0c(m:Mani)(hl:m.label.length<=100000):Sat Tryz.prog 95 [f8 m] [] (fun out A0=>A0=[]/\(out=.b (S7 m))):=by
 refine cF Tryz.func95 fun X0 w0 hX=>?_
 refine cM hX (fun(k:Nat)=>[(1,.pr 16 0 []),(3,.i .i64 (k:Int))]) (fun(k:Nat)=>[(16,f8 m)]) (fun(k:Nat)=>k<=m.label.length/\∀j,j<k->32<=(m.label.getD j 0).toNat/\(m.label.getD j 0).toNat<=126) (fun(k:Nat)=>m.label.length-k) [] 208 0 ⟨by simp,fun j hj=>absurd hj (S4 j)⟩ ?_;rintro k hI R hR
 refine cB ((k:Int)<(m.label.length:Int)) ?_ ?_<;>intro h1
 ·refine cC ((0:Int)<=(k:Int)/\(k:Int)<(m.label.length:Int)) ?_
  refine cB (((m.label.getD k 0).toNat:Int)<32) ?_ ?_<;>intro h2
  ·exact xW hX (.b false) ⟨rfl,rfl,by first|rw[nD zO zO fun j hj=>hI.2 j zO]|rw[nE zO]|rw[nF (k:=k) zO zO]|exact congrArg V.b ((decide_eq_decide.2 zO).trans (lA zO fun j hj=>hI.2 j zO).symm)⟩
  refine cC ((0:Int)<=(k:Int)/\(k:Int)<(m.label.length:Int)) ?_
  refine cB (126<((m.label.getD k 0).toNat:Int)) ?_ ?_<;>intro h3
  ·exact xW hX (.b false) ⟨rfl,rfl,by first|rw[nD zO zO fun j hj=>hI.2 j zO]|rw[nE zO]|rw[nF (k:=k) zO zO]|exact congrArg V.b ((decide_eq_decide.2 zO).trans (lA zO fun j hj=>hI.2 j zO).symm)⟩
  exact cA hX (hR (k+1) ⟨bd,fun j hj=>(qW.1 hj).elim (hI.2 j) fun e=>by rw[e];omega⟩ zO) (hS:=⟨v0,(vS bd),zT⟩)
 refine cB (0<=m.time) ?_ ?_<;>intro h4
 ·exact xW hX (.b (decide ((m.label.length:Int)<=64))) ⟨rfl,rfl,by first|rw[nD zO zO fun j hj=>hI.2 j zO]|rw[nE zO]|rw[nF (k:=k) zO zO]|exact congrArg V.b ((decide_eq_decide.2 zO).trans (lA zO fun j hj=>hI.2 j zO).symm)⟩
 exact xW hX (.b false) ⟨rfl,rfl,by first|rw[nD zO zO fun j hj=>hI.2 j zO]|rw[nE zO]|rw[nF (k:=k) zO zO]|exact congrArg V.b ((decide_eq_decide.2 zO).trans (lA zO fun j hj=>hI.2 j zO).symm)⟩
theorem Bt(m:Mani)(hl:m.label.length<=50000):Sat Tryz.prog 41 [f8 m] [] (fun out A0=>∃l e,out=A2 [.bl 2 l,.i .i64 e]/\A0=[2]/\l.length<=m.label.length+100/\(S7 m=true->l.length=43+m.label.length)):=by
 refine cF Tryz.func41 fun X0 w0 hX=>?_
 refine rS 0 fun hr=>?_
 have hg:m.root.length=32:=hr 0 (show 0<3 by decide)
 refine cQ [] (a0c m bd) ?_;refine cn ((S7 m)) ?_ ?_<;>intro h1
 ·exact xW hX (A2 [.bl 2 [],.i .i64 1]) ⟨rfl,_,_,rfl,rfl,bd,by first|exact fun h=>absurd h (by rw[h1];decide)|exact fun _=>(by simp only[C6,G8,M3];omega)⟩
 refine cC (([83,49].length+m.root.length)*1<=140737488355328) ?_ bd
 refine cK [] (yP (u64.wrap m.time)) ?_;rintro out A0 ⟨mF,rfl,rfl,hei0⟩
 refine cC ((([83,49]++m.root).length+mF.length)*1<=140737488355328) ?_ bd;refine cC (((([83,49]++m.root)++mF).length+[UInt8.ofNat ((u8.wrap (m.label.length:Int))).toNat].length)*1<=140737488355328) ?_ bw;refine cC ((((([83,49]++m.root)++mF)++[UInt8.ofNat ((u8.wrap (m.label.length:Int))).toNat]).length+m.label.length)*1<=140737488355328) ?_ bw;exact xW hX (A2 [.bl 2 (((([83,49]++m.root)++mF)++[UInt8.ofNat ((u8.wrap (m.label.length:Int))).toNat])++m.label),.i .i64 0]) ⟨rfl,_,_,rfl,rfl,bd,by first|exact fun h=>absurd h (by rw[h1];decide)|exact fun _=>(by simp only[C6,G8,M3];omega)⟩
theorem a0d(n:Int)(hn:0<=n/\n<10):Sat Tryz.prog 92 [.i .i64 n] [] (fun out A0=>A0=[]/\(∃l,out=.s l/\l.length<=2)):=by
 refine cF Tryz.func92 fun X0 w0 hX=>?_
 refine cM hX (fun(p:Nat×Int×By)=>[(0,.i .i64 p.2.1),(3,.s p.2.2),(4,.b (decide (n<0))),(5,.i .i64 (p.1:Int))]) (fun(p:Nat×Int×By)=>[]) (fun(p:Nat×Int×By)=>(p.1=0/\p.2.1=n/\p.2.2=[])\/(p.1=1/\p.2.1=0/\p.2.2.length<=1)) (fun(p:Nat×Int×By)=>1-p.1) [] 400 (0,n,[]) (.inl ⟨rfl,rfl,rfl⟩) ?_;rintro⟨i,m,x⟩ o6 R hR
 dsimp only at o6
 refine cB ((i:Int)=0) ?_ ?_<;>intro h1
 ·have hm:m.tmod 10=m:=Int.tmod_eq_of_lt zO zO
  have hd:m.tdiv 10=0:=Int.tdiv_eq_zero_of_lt zO zO
  have hw:i64.wrap (m.tmod 10+1)=m+1:=by rw[hm];exact bw
  have kG:i64.wrap (m.tdiv 10)=0:=by rw[hd];rfl
  have hx:x.length=0:=by rcases o6 with h|h<;>first|omega|simp[h.2.2]
  have hl:=List.length_take_le ((i64.wrap (m.tmod 10+1)).toNat-(m.tmod 10).toNat) (([48,49,50,51,52,53,54,55,56,57,97,98,99,100,101,102]:By).drop (m.tmod 10).toNat)
  refine cB ((m.tmod 10)<0) ?_ ?_<;>intro h2
  ·exact absurd h2 zO
  refine cC ((0:Int)<=(m.tmod 10)/\(m.tmod 10)<=(i64.wrap ((m.tmod 10)+1))/\(i64.wrap ((m.tmod 10)+1))<=([48,49,50,51,52,53,54,55,56,57,97,98,99,100,101,102].length:Int)) ?_ bw
  refine cC (((([48,49,50,51,52,53,54,55,56,57,97,98,99,100,101,102]:By).drop (((m.tmod 10)).toNat)).take (((i64.wrap ((m.tmod 10)+1))).toNat-((m.tmod 10)).toNat)).length+x.length<=maxLen) ?_ bm;exact cA hX (hR (i+1,(i64.wrap (m.tdiv 10)),(((([48,49,50,51,52,53,54,55,56,57,97,98,99,100,101,102]:By).drop (((m.tmod 10)).toNat)).take (((i64.wrap ((m.tmod 10)+1))).toNat-((m.tmod 10)).toNat))++x)) (.inr ⟨bd,bw,bd⟩) (by dsimp only;omega)) (hS:=⟨v0,v0,v0,(vS bd),zT⟩)
 refine cB (m≠0) ?_ ?_<;>intro h3
 ·exact absurd h3 zO
 refine cB (n<0) ?_ ?_<;>intro h4
 ·refine cC ([45].length+x.length<=maxLen) ?_ bm
  exact xW hX (.s ([45]++x)) ⟨rfl,rfl,⟨_,rfl,bd⟩⟩
 exact xW hX (.s x) ⟨rfl,rfl,⟨_,rfl,bd⟩⟩
theorem Bu(s:StaR)(n:Nat)(tg:Nat->TenR)(nm:By)(hn:n<=1000):Sat Tryz.prog 19 [I9 (.sl 0 38 n fun i=>B4 (tg i)) s,.s nm] [] (fun out A0=>A0=[]/\(∃i:Int,out=.i .i64 i/\(i<0\/0<=i/\i<n)/\(i<0->∀j,j<n->(tg j).name≠nm)/\(0<=i->(tg i.toNat).name=nm))):=by
 refine cF Tryz.func19 fun X0 w0 hX=>?_
 refine cM hX (fun(k:Nat)=>[(1,.s nm),(2,.pr 16 0 []),(5,.i .i64 (k:Int))]) (fun(k:Nat)=>[(16,I9 (.sl 0 38 n fun i=>B4 (tg i)) s)]) (fun(k:Nat)=>k<=n/\∀j,j<k->(tg j).name≠nm) (fun(k:Nat)=>n-k) [] 208 0 ⟨by simp,fun j hj=>absurd hj (S4 j)⟩ ?_;rintro k hI R hR
 refine cB ((k:Int)<(n:Int)) ?_ ?_<;>intro h1
 ·refine cC ((0:Int)<=(k:Int)/\(k:Int)<(n:Int)) ?_
  refine cB ((tg k).name=nm) ?_ ?_<;>intro h2
  ·exact xW hX (.i .i64 (k:Int)) ⟨rfl,rfl,⟨_,rfl,zO,by first|exact fun h=>absurd h zO|exact fun _ j hj=>hI.2 j zO,by first|exact fun h=>absurd h zO|exact fun _=>by assumption⟩⟩
  exact cA hX (hR (k+1) ⟨bd,fun j hj=>(qW.1 hj).elim (hI.2 j) fun e=>by rw[e];assumption⟩ zO) (hS:=⟨v0,v0,(vS bd),zT⟩)
 exact xW hX (.i .i64 (-1)) ⟨rfl,rfl,⟨_,rfl,zO,by first|exact fun h=>absurd h zO|exact fun _ j hj=>hI.2 j zO,by first|exact fun h=>absurd h zO|exact fun _=>by assumption⟩⟩
theorem PE(t:TenR)(b:By)(hb:b.length<=1000000):Sat Tryz.prog 39 [B4 t,.bl 0 b] [] (fun out A0=>A0=[]/\(∃m,out=.bs 32 m/\m.length=32)):=by
 refine cF Tryz.func39 fun X0 w0 hX=>?_
 refine rS 0 fun hr=>?_
 have hk:t.key.length=32:=hr 1 (show 1<7 by decide)
 refine mM fV true ?_;refine S0 ((IT ((t.key.drop 0).take 32) b bd bd).full (ins':=[.bl 0 ((t.key.drop 0).take 32),.sl 1 1 1 fun _=>.bl 0 b])) ?_;rintro out A0 ⟨rfl,⟨so0,rfl,hso0⟩⟩
 refine⟨rfl,?_⟩
 exact xW hX (.bs 32 so0) ⟨rfl,rfl,⟨_,rfl,by assumption⟩⟩
theorem a0e(k:Int)(hk: -9223372036854775808<=k/\k<9223372036854775808):mW Tryz.prog 21 [.i .i64 k,.i .i64 4] [] (fun out ho A0=>(out=.i .i64 0/\ho=[]/\A0=[])\/(out=.i .i64 1/\ho=[]/\A0=[])\/(out=.i .i64 2/\ho=[]/\A0=[])\/(out=.i .i64 3/\ho=[]/\A0=[])):=
 SatM.mono (NL k 4 hk bd) fun out ho A0 ⟨h1,h2,x,h3,h4,h5,_⟩=>by
  have:x=0\/x=1\/x=2\/x=3:=by omega
  rcases this with rfl|rfl|rfl|rfl
  ·exact .inl ⟨h3,h1,h2⟩
  ·exact .inr (.inl ⟨h3,h1,h2⟩)
  ·exact .inr (.inr (.inl ⟨h3,h1,h2⟩))
  exact .inr (.inr (.inr ⟨h3,h1,h2⟩))
theorem a0f(k:Int)(hk:0<=k/\k<4):mW Tryz.prog 21 [.i .i64 k,.i .i64 4] [] (fun out ho A0=>(out=.i .i64 0/\ho=[]/\A0=[]/\k=0)\/(out=.i .i64 1/\ho=[]/\A0=[]/\k=1)\/(out=.i .i64 2/\ho=[]/\A0=[]/\k=2)\/(out=.i .i64 3/\ho=[]/\A0=[]/\k=3)):=
 SatM.mono (NL k 4 ⟨zO,zO⟩ bd) fun out ho A0 ⟨h1,h2,x,h3,_,_,_,h4⟩=>by
  obtain rfl:=h4 hk.1 hk.2
  have:x=0\/x=1\/x=2\/x=3:=by omega
  rcases this with rfl|rfl|rfl|rfl
  ·exact .inl ⟨h3,h1,h2,rfl⟩
  ·exact .inr (.inl ⟨h3,h1,h2,rfl⟩)
  ·exact .inr (.inr (.inl ⟨h3,h1,h2,rfl⟩))
  exact .inr (.inr (.inr ⟨h3,h1,h2,rfl⟩))
def qK(k:Int):By:=if k=0 then [97] else if k=1 then [98] else if k=2 then [99,45,49] else [100,111,114,97]
theorem PF(k:Int)(hk:0<=k/\k<4):Sat Tryz.prog 9 [.i .i64 k] [] (fun out A0=>A0=[]/\(out=.s (qK k))):=by
 refine cF Tryz.func9 fun X0 w0 hX=>?_
 refine kO [] (a0f k hk) ?_;rintro out ho A0 (⟨rfl,rfl,rfl,rfl⟩|⟨rfl,rfl,rfl,rfl⟩|⟨rfl,rfl,rfl,rfl⟩|⟨rfl,rfl,rfl,rfl⟩)
 ·refine cC ((0:Int)<=0/\0<4) ?_
  exact xW hX (.s [97]) ⟨rfl,rfl,rfl⟩
 ·refine cC ((0:Int)<=1/\1<4) ?_
  exact xW hX (.s [98]) ⟨rfl,rfl,rfl⟩
 ·refine cC ((0:Int)<=2/\2<4) ?_
  exact xW hX (.s [99,45,49]) ⟨rfl,rfl,rfl⟩
 refine cC ((0:Int)<=3/\3<4) ?_
 exact xW hX (.s [100,111,114,97]) ⟨rfl,rfl,rfl⟩
theorem CR(k:Int):Sat Tryz.prog 9 [.i .i64 k] [] (fun out A0=>A0=[]/\(∃l,out=.s l/\l.length<=4)):=by
 refine cF Tryz.func9 fun X0 w0 hX=>?_
 refine rS 0 fun hv=>?_
 replace hv:=wI hv
 refine kO [] (a0e k hv) ?_;rintro out ho A0 (⟨rfl,rfl,rfl⟩|⟨rfl,rfl,rfl⟩|⟨rfl,rfl,rfl⟩|⟨rfl,rfl,rfl⟩)
 ·refine cC ((0:Int)<=0/\0<4) ?_
  exact xW hX (.s [97]) ⟨rfl,rfl,⟨_,rfl,by decide⟩⟩
 ·refine cC ((0:Int)<=1/\1<4) ?_
  exact xW hX (.s [98]) ⟨rfl,rfl,⟨_,rfl,by decide⟩⟩
 ·refine cC ((0:Int)<=2/\2<4) ?_
  exact xW hX (.s [99,45,49]) ⟨rfl,rfl,⟨_,rfl,by decide⟩⟩
 refine cC ((0:Int)<=3/\3<4) ?_
 exact xW hX (.s [100,111,114,97]) ⟨rfl,rfl,⟨_,rfl,by decide⟩⟩
end Go.Proofs.YtgohjiegkhfpmaaGreatDoor
