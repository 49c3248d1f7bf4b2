/- Lemmas for the statement ModelCharges, part 2: rules of operations, walks through functions, plain laws. -/
import Derived.Test.YtgohjiegkhfpmaaGreatDoorModelChargesG1
import Derived.Laws.StructEq
set_option maxRecDepth 100000
set_option linter.all false
namespace Go.Proofs.YtgohjiegkhfpmaaGreatDoor
open Go
open Go.IntKind (i64 u64 u8 u32)
open List (replicate)
open Nat (beq blt)
open BitVec (ofInt)
variable {ops:Array Oper} {W0:Array TypeId} {X X' X0:Cx} {Q:Exit->Act->World->Prop} {k':IntKind} {L:List Ch} {S lv lv':List Nat} {C cs es news xs:List Value} {M N c c' cap fuel i j k m o q r:Nat} {G:Nat->Nat->Ow} {h h':Nat->Nat->V} {τ:Nat->Value} {hi:Option Operand} {P:Program} {α:Type} {e yt:TypeId} {v':V} {x:Value} {w w' w0:World}
section
def del(lv:List Nat)(t:Nat):List Nat:=lv.filter fun x=> !beq x t
theorem xH{lv:List Nat}{t x:Nat}:x∈del lv t↔x∈lv/\x≠t:=by
 unfold del
 rw[zP]
 refine and_congr_right fun _=>?_
 cases hb:beq x t
 ·simp;exact fun e=>by subst e;rw[P6]at hb;cases hb
 simp;exact A5 hb
def Cx.frz(X:Cx)(w:World)(r j b o N:Nat):Cx:=⟨fun b' i=>match X.G b' i with
 |.rt r' j' k=>if r'=r/\j'=j/\b'=b/\o<=i/\i<o+N then (match w.cell? (ad b' i) with|some x=>.fz x|none=>.no) else .rt r' j' k
 |x=>x,X.ρ,X.Φ,X.κ,X.ν,X.wr⟩
theorem Wd.frz(H:Wd X0 X h lv c w0 w){b:Nat}(hr:X.ρ r j=some (b,o,N)){v:V}(hv:rep X v lv c cs)(hm:v.mem=true)(hp:v.prs d6=true)(hN:cs.length=N)(hL:R4 X w r j b o cs):
 X.le (X.frz w r j b o N) lv lv c/\Wd X0 (X.frz w r j b o N) (D9 h r j (.ro v.strip)) lv c w0 w/\FzAt (X.frz w r j b o N).G b o cs:=by
 have dK:=r8 hm hv
 have hit:∀k x,cs[k]? =some x->(X.frz w r j b o N).G b (o+k)=.fz x:=fun k x hk=>by
  have hlt:=(N1.1 hk).1
  obtain⟨q1,q2,_⟩:=hL k x hk
  have hc:r=r/\j=j/\b=b/\o<=o+k/\o+k<o+N:=⟨rfl,rfl,rfl,zO,zO⟩
  simp only[Cx.frz,q1]
  rw[if_pos ⟨zT,zT,zT,zO,zO⟩,q2]
 have miss:∀b' i,¬ (b'=b/\o<=i/\i<o+N)->(X.frz w r j b o N).G b' i=X.G b' i:=fun b' i hn=>by
  simp only[Cx.frz]
  cases hg:X.G b' i with
 |rt r' j' k=>simp only;rw[if_neg fun hc=>hn ⟨hc.2.2.1,hc.2.2.2⟩]
 |_=>rfl
 have nW:∀b' i,(∀k,X.G b' i≠ .rt r j k)->(X.frz w r j b o N).G b' i=X.G b' i:=fun b' i hn=>by
  simp only[Cx.frz]
  cases hg:X.G b' i with
 |rt r' j' k=>simp only;rw[if_neg fun hc=>hn k (by rw[hg,hc.1,hc.2.1])]
 |_=>rfl
 have inv:∀b' i,(X.frz w r j b o N).G b' i=X.G b' i\/∃k x,cs[k]? =some x/\b'=b/\i=o+k:=fun b' i=>by
  by_cases hc:b'=b/\o<=i/\i<o+N
  ·refine .inr ⟨i-o,_,B6 zO,hc.1,zO⟩
  exact .inl (miss b' i hc)
 have B1:X.le (X.frz w r j b o N) lv lv c:=⟨fun b i x hx=>by rw[nW b i (fun k=>by rw[hx];simp)];exact hx,fun b i t _ _ hx=>by rw[nW b i (fun k=>by rw[hx];simp)];exact hx,fun _ h _=>h,fun _ _ _ _ _ h=>h,rfl⟩
 refine⟨B1,?_,hit⟩
 refine { kb:=H.kb,tape:=H.tape,fz0:=fun b i x hx=>B1.fz _ _ _ (H.fz0 b i x hx),no0:=fun b i hb hn=>?_,mp0:=fun b' t I2 hx=>(by
  rcases inv b' 0 with e|⟨k,y,hk,rfl,e0⟩
  ·rw[e]at hx;exact H.mp0 b' t I2 hx
  rw[e0,hit k y hk]at hx
  cases hx
  exact(pF (dK _ (E3 hk))).elim),ρ0:=H.ρ0,ex:=fun b' i hn=>?_,fz:=fun b' i x hx=>?_,tp:=fun b' i t hx=>?_,rt:=fun r' j' b' o' N' K5=>?_,c2:=H.c2,lvc:=H.lvc,ρc:=H.ρc,inv:=H.inv' B1,imo:=H.imo,νe:=H.νe,gz:=H.gz,we:=H.we,ν0:=H.ν0,νs:=H.νs,nf:=H.nf.sub fun b' i _ hn=>.inl ⟨i,fun e=>hn (by simp only[Cx.frz,e])⟩,κc:=H.κc}
 ·rw[nW b i (fun k=>by rcases H.no0 b i hb hn with e|⟨_,e⟩<;>rw[e]<;>simp)];exact H.no0 b i hb hn
 ·rcases inv b' i with e|⟨k,x,hk,rfl,rfl⟩
  ·rw[e]at hn;exact H.ex b' i hn
  exact H.ex _ _ (by rw[(hL k x hk).1];simp)
 ·rcases inv b' i with e|⟨k,y,hk,rfl,rfl⟩
  ·rw[e]at hx;exact(H.fz b' i x hx).move B1.fz rfl fun _ _ h=>h
  rw[hit k y hk]at hx;cases hx
  exact FzOk.cell (hL k x hk).2.1 (dK x (E3 hk))
 ·rcases inv b' i with e|⟨k,y,hk,rfl,rfl⟩
  ·rw[e]at hx;exact H.tp b' i t hx
  rw[hit k y hk]at hx;cases hx
 by_cases he:r'=r/\j'=j
 ·obtain⟨rfl,rfl⟩:=he
  have dH:X.ρ r' j'=some (b',o',N'):=K5
  rw[hr]at dH;cases dH
  rw[j8]
  exact⟨cs,(sZ hp hv).mono B1.nil (B2 _),by rw[EX];exact hm,hN,hit⟩
 rw[gO h _ he]
 refine(H.rt r' j' b' o' N' K5).mono B1 (B2 _) fun _ ds _ vY _ k x hk=>?_
 obtain⟨q1,q2,q3⟩:=vY k x hk
 refine⟨?_,q2,q3⟩
 rw[nW b' _ (fun k e=>by rw[q1]at e;injection e with e1 e2;exact he ⟨e1,e2⟩)]
 exact q1
theorem Wd.frz_y(H:Wd X0 X h lv c w0 w){b:Nat}{v:V}(hv:rep X v lv c cs)(hm:v.mem=true)(hN:cs.length=N)(hL:R4 X w r j b o cs)(hj:j=0)(b' i:Nat):C8 (X.frz w r j b o N) w b' i=C8 X w b' i:=by
 subst hj
 have dK:=r8 hm hv
 unfold C8
 simp only[Cx.frz]
 cases hg:X.G b' i with
|fz y=>rfl
|no=>rfl
|tp t=>rfl
|rt r' j' k=>
  simp only
  by_cases hc:r'=r/\j'=0/\b'=b/\o<=i/\i<o+N
  ·rw[if_pos hc]
   obtain⟨_,rfl,rfl,h1,h2⟩:=hc
   have hk:cs[i-o]? =some (cs[i-o]'oM):=B6 zO
   obtain⟨_,q2,_⟩:=hL _ _ hk
   rw[show o+(i-o)=i by omega]at q2
   rw[q2]
   simp only[dK _ (E3 hk),cond_true];rfl
  rw[if_neg hc]
def Cx.inp(X:Cx)(b o:Nat)(news:List Value)(t nm:Nat):Cx:=
 ⟨fun b' i=>match X.G b' i with
 |.tp t'=>if t'=t then (if b'=b/\o<=i/\i<o+news.length then .fz (news.getD (i-o) undef) else .tp nm) else .tp t'
 |x=>x,X.ρ,X.Φ,X.κ,X.ν,X.wr⟩
theorem Wd.inp(H:Wd X0 X h lv c w0 w){b t nm:Nat}{news:List Value}(hc:c<=nm)(P7:∀k,k<news.length->X.G b (o+k)=.tp t)(h1:∀x∈news,x.oneCell'=true):
 X.le (X.inp b o news t nm) lv (nm::del lv t) c/\Wd X0 (X.inp b o news t nm) h (nm::del lv t) (nm+1) w0 (w.setCells b o news)/\FzAt (X.inp b o news t nm).G b o news:=by
 have W3:∀k,k<news.length->(w.cell? (ad b (o+k))).isSome=true:=fun k hk=>(H.tp _ _ _ (P7 k hk)).1
 have out:∀b' i,X.G b' i≠ .tp t->(w.setCells b o news).cell? (ad b' i)=w.cell? (ad b' i):=fun b' i D5=>by
  refine nM b news o w _ fun h1 _=>?_
  simp only at h1;subst h1
  by_cases j4:i<o
  ·exact .inl j4
  by_cases lR:o+news.length<=i
  ·exact .inr lR
  exfalso
  have:=P7 (i-o) zO
  rw[show o+(i-o)=i by omega]at this
  exact D5 this
 have K9:∀(xs:List Value) (o:Nat) (w:World),(w.setCells b o xs).heap.size=w.heap.size:=by
  intro xs
  induction xs with
 |nil=>intro o w;rfl
 |cons x xs ih=>intro o w;rw[World.setCells,ih];simp[World.setCell]
 have htape:∀(xs:List Value) (o:Nat) (w:World),(w.setCells b o xs).tape=w.tape:=by
  intro xs
  induction xs with
 |nil=>intro o w;rfl
 |cons x xs ih=>intro o w;rw[World.setCells,ih];rfl
 have same:∀b' i,(∀t',X.G b' i≠ .tp t')->(X.inp b o news t nm).G b' i=X.G b' i:=fun b' i hn=>by
  show(match X.G b' i with|.tp t'=>_|x=>x)=_
  cases hg:X.G b' i with
 |tp t'=>exact absurd hg (hn t')
 |_=>rfl
 have tpo:∀b' i t',t'≠t->X.G b' i=.tp t'->(X.inp b o news t nm).G b' i=.tp t':=fun b' i t' hn hg=>by simp only[Cx.inp,hg,if_neg hn]
 have hit:FzAt (X.inp b o news t nm).G b o news:=fun k x hk=>by
  have hlt:=(N1.1 hk).1
  simp only[Cx.inp,P7 k hlt,if_true]
  rw[if_pos ⟨zT,zO,zO⟩,show o+k-o=k by omega,List.getD,hk];rfl
 have B1:X.le (X.inp b o news t nm) lv (nm::del lv t) c:=by
  refine⟨fun b i x hx=>by rw[same b i (fun t'=>by rw[hx];simp)];exact hx,fun b i t' ht' hlt hx=>?_,fun t' ht' hlt=>?_,fun _ _ _ _ _ h=>h,rfl⟩
  ·rcases K8.1 ht' with rfl|ht'
   ·omega
   exact tpo b i t' (xH.1 ht').2 hx
  rcases K8.1 ht' with rfl|ht'
  ·omega
  exact(xH.1 ht').1
 refine⟨B1,?_,hit⟩
 refine { kb:=?_,tape:=(htape _ _ _).trans H.tape,fz0:=fun b i x hx=>B1.fz _ _ _ (H.fz0 b i x hx),no0:=fun b i hb hn=>?_,mp0:=fun b' t' I2 hx=>(by
  cases hg:X.G b' 0 with
 |tp t2=>
   by_cases he:t2=t
   ·subst he
    simp only[Cx.inp,hg,if_true]at hx
    split at hx
    ·rename_i hr
     have hk:0-o<news.length:=by omega
     rw[List.getD,B6 hk]at hx
     have hm:=h1 _ (eG hk)
     cases vZ:news[0-o]
     all_goals (rw[vZ]at hm;simp only[Option.getD_some,vZ,Ow.fz.injEq,N9,reduceCtorEq]at hx)
     cases hm
    cases hx
   rw[tpo b' 0 t2 he hg]at hx;cases hx
 |_=>
   rw[same b' 0 (fun t'=>by rw[hg];simp)]at hx
   exact H.mp0 b' t' I2 hx),ρ0:=H.ρ0,ex:=fun b' i hn=>?_,fz:=fun b' i x hx=>?_,tp:=fun b' i t' hx=>?_,rt:=fun r' j' b' o' N' K5=>?_,c2:=by have:=H.c2;omega,lvc:=fun t' ht'=>?_,ρc:=fun r j p hp=>by have:=H.ρc r j p hp;omega,inv:=H.inv' B1,imo:=H.imo,νe:=H.νe,gz:=H.gz,we:=H.we,ν0:=H.ν0,νs:=by rw[K9];exact H.νs,nf:=(H.nf.sub fun b' i _ hn=>.inl ⟨i,fun e=>hn (by simp only[Cx.inp,e])⟩).set _ _ _,κc:=by have:=H.κc;omega}
 ·refine tA (may':=fun p=>∃k,k<news.length/\p=.cell b (o+k)) H.kb (World.keptBut_setCells b news o w fun k hk=>⟨k,hk,rfl⟩) ?_ (fun x _ ⟨k,_,hk⟩=>by cases hk)
  rintro x i hx ⟨k,hk,dJ⟩
  injection dJ with e1 e2
  subst e1 e2
  have hg:=P7 k hk
  cases Q7:X0.G x (o+k) with
 |no=>have:=H.no0 x _ hx Q7;rw[hg]at this;obtain h|⟨_,h⟩:=this<;>cases h
 |fz y=>have:=H.fz0 x _ y Q7;rw[hg]at this;cases this
 |rt r j k=>exact .inl ⟨r,j,k,Q7⟩
 |tp t=>exact .inr ⟨t,Q7⟩
 ·have:=H.no0 b i hb hn
  rw[same b i (fun t'=>by rcases this with e|⟨_,e⟩<;>rw[e]<;>simp)];exact this
 ·rw[K9]
  refine H.ex b' i fun e=>hn ?_
  rw[same b' i (fun t'=>by rw[e];simp)];exact e
 ·cases hg:X.G b' i with
 |tp t'=>
   simp only[Cx.inp,hg]at hx
   split at hx
   ·split at hx
    ·rename_i ht hr
     obtain⟨rfl,j4,lR⟩:=hr
     have hk:i-o<news.length:=by omega
     have:=zN b' news o w W3 (i-o) hk
     rw[show o+(i-o)=i by omega]at this
     cases hx
     rw[List.getD,B6 hk]
     exact FzOk.cell (by rw[this];rfl) (h1 _ (eG hk))
    cases hx
   cases hx
 |no=>rw[same b' i (fun t'=>by rw[hg];simp),hg]at hx;cases hx
 |rt=>rw[same b' i (fun t'=>by rw[hg];simp),hg]at hx;cases hx
 |fz y=>
   rw[same b' i (fun t'=>by rw[hg];simp)]at hx
   exact(H.fz b' i x hx).move B1.fz (out b' i (by rw[hg];simp)) fun _ _ hm=>LE _ _ _ hm
 ·have:∃t2,X.G b' i=.tp t2:=by
   cases hg:X.G b' i with
  |tp t2=>exact⟨t2,rfl⟩
  |_=>rw[same b' i (fun t'=>by rw[hg];simp),hg]at hx;cases hx
  obtain⟨t2,hg⟩:=this
  obtain⟨q1,q2⟩:=H.tp b' i t2 hg
  refine⟨?_,by rw[jW];exact q2⟩
  by_cases hr:b'=b/\o<=i/\i<o+news.length
  ·obtain⟨rfl,j4,lR⟩:=hr
   have:=zN b' news o w W3 (i-o) zO
   rw[show o+(i-o)=i by omega]at this
   rw[this];rfl
  rw[nM b news o w _ (fun e1 _=>by simp only at e1;subst e1;simp only;omega)]
  exact q1
 ·refine(H.rt r' j' b' o' N' K5).mono B1 zO fun _ ds _ vY _ k x hk=>?_
  obtain⟨q1,q2,q3⟩:=vY k x hk
  rw[same b' _ (fun t'=>by rw[q1];simp),out b' _ (by rw[q1];simp)]
  exact⟨q1,q2,q3.to fun j=>jW ..⟩
 rcases K8.1 ht' with rfl|ht'
 ·have:=H.c2;omega
 have:=H.lvc t' (xH.1 ht').1;omega
theorem Hx{b t nm:Nat}(P7:∀k,k<news.length->X.G b (o+k)=.tp t):Yle (C8 X w) (C8 (X.inp b o news t nm) (w.setCells b o news)):=fun b' i x hx=>by
 have hnt:∀t',X.G b' i≠ .tp t':=fun t' e=>by unfold C8 at hx;rw[e]at hx;cases hx
 rw[xF]
 ·exact hx
 ·show(match X.G b' i with|.tp t'=>_|x=>x)=_
  cases hg:X.G b' i with
 |tp t'=>exact absurd hg (hnt t')
 |_=>rfl
 refine nM b news o w _ fun h1 _=>?_
 simp only at h1;subst h1
 by_cases j4:i<o
 ·exact .inl j4
 by_cases lR:o+news.length<=i
 ·exact .inr lR
 exfalso
 have:=P7 (i-o) zO
 rw[show o+(i-o)=i by omega]at this
 exact hnt t this
theorem Wd.relv(H:Wd X0 X h lv c w0 w)(hc:c<=c')(h1:∀t,t∈lv'->t<c->t∈lv)(h2:∀t,t∈lv'->2<=t/\t<c'):X.le X lv lv' c/\Wd X0 X h lv' c' w0 w:=by
 have B1:X.le X lv lv' c:=⟨fun _ _ _ h=>h,fun _ _ _ _ _ h=>h,h1,fun _ _ _ _ _ h=>h,rfl⟩
 exact⟨B1,{ H with rt:=fun r j b o N hr=>(H.rt r j b o N hr).mono B1 hc fun _ _ _ h _=>h,c2:=J2 H.c2 hc,lvc:=h2,ρc:=fun r j p hp=>X7 (H.ρc r j p hp) hc,inv:=H.inv' B1,κc:=J2 H.κc hc }⟩
def Loc(G:Nat->Nat->Ow)(a:Option Addr)(n cap z:Nat)(cs:List Value)(T:Nat->Prop)(t:Nat):Prop:=
 (a=none/\cap=0/\cs=[])\/∃b o,a=some ⟨b,o,none⟩/\FzAt G b o cs/\(T t->∀i,n*z<=i->i<cap*z->G b (o+i)=.tp t)
theorem Sy.rd{u:World}(hu:Sy (C8 X w) u){b:Nat}{cs:List Value}(h1:∀x∈cs,x.oneCell'=true)(hf:FzAt X.G b o cs):RdS u (some ⟨b,o,none⟩) cs:=by
 by_cases h0:cs=[]
 ·exact .inl h0
 have rJ:0<cs.length:=JE.2 h0
 have hc:=hu.fz (hf 0 _ (B6 rJ)) (h1 _ (eG _))
 unfold World.cell? at hc
 cases hb:u.heap[b]? with
|none=>simp[hb]at hc
|some ob=>
  cases ob<;>simp only[hb]at hc<;>try (cases hc;done)
  rename_i C T fr
  refine .inr ⟨b,o,C,T,fr,rfl,hb,fun i v hv=>?_⟩;have:=hu.fz (hf i v hv) (h1 _ (E3 hv))
  unfold World.cell? at this
  simpa [hb] using this
theorem Wd.rd(H:Wd X0 X h lv c w0 w){b:Nat}{cs:List Value}(h1:∀x∈cs,x.oneCell'=true)(hf:FzAt X.G b o cs):RdS w (some ⟨b,o,none⟩) cs:=by
 by_cases h0:cs=[]
 ·exact .inl h0
 have rJ:0<cs.length:=JE.2 h0
 have hc:=H.cell (hf 0 _ (B6 rJ)) (h1 _ (eG _))
 unfold World.cell? at hc
 cases hb:w.heap[b]? with
|none=>simp[hb]at hc
|some ob=>
  cases ob<;>simp only[hb]at hc<;>try (cases hc;done)
  rename_i C T fr
  refine .inr ⟨b,o,C,T,fr,rfl,hb,fun i v hv=>?_⟩;have:=H.cell (hf i v hv) (h1 _ (E3 hv))
  unfold World.cell? at this
  simpa [hb] using this
theorem RQ(H:Wd X0 X h lv c w0 w){nm t e ty tx z by_ n:Nat}{a:Option Addr}{olds:List Value}{y:Value}(hc:c<=nm)(hz:0<z)(iI:olds.length=n*z)(D7:n<=cap)
  (v8:cap<=maxLen)(kC:Loc X.G a n cap z olds (· ∈ lv) t)(htip:cap=n\/t∈lv){u:TypeId}(hT:SlTy P u e z by_)(J9:Src P z tx y m news w)(hb:(n+m)*by_<=140737488355328)(N2:n+m<=maxLen)(hold1:∀x∈olds,x.oneCell'=true)(lS:2<=nm):
  ∃a' M5 w' X',(Builtin.append_ #[u,tx] ty #[.slice a n cap,y]).run P w=.ok (.slice a' (n+m) M5) w'/\X.le X' lv (nm::del lv t) c/\Wd X0 X' h (nm::del lv t) (nm+1) w0 w'/\n+m<=M5/\M5<=maxLen/\Loc X'.G a' (n+m) M5 z (olds++news) (fun _=>True) nm/\Yle (C8 X w) (C8 X' w'):=by
 obtain⟨T3,zv,dE,hzv,K9,fS,eM⟩:=hT.row
 have rel:X.le X lv (nm::del lv t) c/\Wd X0 X h (nm::del lv t) (nm+1) w0 w:=by
  refine H.relv zO (fun t' ht' hlt=>?_) (fun t' ht'=>?_)
  ·rcases K8.1 ht' with rfl|ht'
   ·omega
   exact(xH.1 ht').1
  rcases K8.1 ht' with rfl|ht'
  ·omega
  have:=H.lvc t' (xH.1 ht').1;omega
 by_cases j0:n+m<=cap
 ·by_cases l7:m=0/\(a=none\/cap=n)
  ·obtain⟨rfl,l7⟩:=l7
   have fU:news=[]:=l4.1 (by rw[J9.newsLen];simp)
   subst fU
   refine⟨a,cap,w,X,?_,rel.1,rel.2,j0,v8,?_,Yle.rfl' _⟩
   ·cases a with
   |none=>
     have h0:cap=0:=by rcases kC with h|⟨_,_,h,_⟩;exact h.2.1;cases h
     subst h0
     have:n=0:=by omega
     subst this
     rcases J9.kind with⟨e',hk⟩|hk<;>simp[Builtin.append_,run_underlying hT.und,run_underlying hk,sizeOf,typeInfo,dE,J9.len,K9,J9.cells]
   |some a=>
     obtain⟨b,o,spot⟩:=a
     have:spot=none:=by rcases kC with⟨h,_⟩|⟨_,_,h,_⟩<;>cases h;rfl
     subst this
     have:=run_append_room_src (P:=P) w u tx ty e T3 hT.und dE b o n cap y 0 [] (by rw[K9];exact J9) j0 (fun j hj=>by simp at hj) (fun j hj=>by simp at hj)
     exact this
   rcases kC with⟨h1,h2,h3⟩|⟨b,o,h1,h2,_⟩
   ·exact .inl ⟨h1,h2,by simp[h3]⟩
   rcases l7 with h0|h0
   ·rw[h1]at h0;cases h0
   refine .inr ⟨b,o,h1,by simpa using h2,fun _ i hi G9=>?_⟩
   subst h0;simp at hi;omega
  rcases kC with⟨h1,h2,h3⟩|⟨b,o,h1,h2,h3⟩
  ·exact absurd ⟨zO,.inl h1⟩ l7
  have htl:t∈lv:=by
   rcases htip with h|h
   ·exact absurd ⟨zO,.inr h⟩ l7
   exact h
  subst h1
  have lK:=J9.newsLen
  have hcz:(n+m)*z<=cap*z:=G2 _ j0
  rw[U3]at hcz
  have P7:∀k,k<news.length->X.G b (o+n*z+k)=.tp t:=fun k hk=>by
   rw[O7];exact h3 htl _ zO zO
  obtain⟨q1,q2,q3⟩:=H.inp (nm:=nm) (b:=b) (o:=o+n*z) (t:=t) hc P7 J9.one
  have hr:=run_append_room_src (P:=P) w u tx ty e T3 hT.und dE b o n cap y m news (by rw[K9];exact J9) j0 (fun j hj=>by rw[K9];exact(H.tp _ _ _ (P7 j hj)).1) (fun j hj=>by rw[K9];exact(H.tp _ _ _ (P7 j hj)).2)
  rw[K9]at hr
  refine⟨_,cap,_,_,hr,q1,q2,j0,v8,.inr ⟨b,o,rfl,fun k x hk=>?_,fun _ i hi G9=>?_⟩,Hx P7⟩
  ·by_cases lQ:k<olds.length
   ·rw[N5 lQ]at hk
    exact q1.fz _ _ _ (h2 k x hk)
   rw[L7 zO]at hk
   have:=q3 _ x hk
   rwa [show o+n*z+(k-olds.length)=o+k by omega]at this
  have hg:=h3 htl i (by rw[U3]at hi;omega) G9
  rw[U3]at hi
  simp only[Cx.inp,hg,if_true]
  rw[if_neg zO]
 have bU:(Builtin.firstCells T3.size n (.slice a n cap)).run P w.drew=.ok olds.toArray w.drew:=by
  rw[K9]
  have iN:RdS w a olds:=by
   rcases kC with⟨h1,h2,h3⟩|⟨b,o,rfl,h2,_⟩
   ·exact .inl h3
   exact H.rd hold1 h2
  exact(iN.src hT.und iI hz hold1).cellsD
 have hr:=run_append_grow_src (P:=P) w u tx ty e T3 zv hT.und dE hzv a n cap olds bU y m news (by rw[K9];exact J9) zO (by have:maxLen=9223372036854775807:=rfl;omega) (by rw[fS];exact KD hb zO)
 have U6:=grownCap_ge w (n+m) cap e
 have w3:grownCap w (n+m) cap e<=maxLen:=grownCap_le_maxLen w (n+m) cap e N2
 have lK:=J9.newsLen
 let f:Nat->Ow:=fun i=>if i<(n+m)*z then .fz ((olds++news).getD i undef) else if i<grownCap w (n+m) cap e*z then .tp nm else .no
 have dG:(olds++news).length=(n+m)*z:=by rw[C6,iI,lK,U3]
 have rK:((olds++news).toArray++Builtin.zeroCells zv.cells (grownCap w (n+m) cap e-(n+m))).size=grownCap w (n+m) cap e*z:=by
  rw[zQ,bO,size_zeroCells,eM,dG, <-U3];congr 1;omega
 have H2:=rel.2.drew.new ((olds++news).toArray++Builtin.zeroCells zv.cells (grownCap w (n+m) cap e-(n+m))) e (0,0) f (fun i x hx=>by
  simp only[f]at hx
  split at hx
  ·rename_i hi
   have G9:i<(olds++news).length:=by omega
   cases hx
   rw[List.getD,B6 G9]
   refine⟨?_,?_⟩
   ·rw[PI (by rw[bO];exact G9)]
    rw[fQ,B6 G9];rfl
   have nP:=eG G9
   simp only[Option.getD_some]
   rcases S3.1 nP with hh|hh
   ·exact hold1 _ hh
   exact J9.one _ hh
  ·split at hx<;>cases hx) (fun i t hx=>by
  simp only[f]at hx
  split at hx
  ·cases hx
  split at hx
  ·exact⟨by rw[rK];assumption,by simp⟩
  cases hx) (.inl rfl)
 have B1:=rel.2.drew.new_le f
 refine⟨_,_,_,_,hr,⟨fun b i x hx=>B1.fz _ _ _ hx,fun b i t' ht' hlt hx=>B1.tp _ _ _ ht' zO hx,rel.1.lv,fun _ _ _ _ _ h=>h,rfl⟩,H2,U6,w3,.inr ⟨_,0,rfl,fun k x hk=>?_,fun _ i hi G9=>?_⟩,rel.2.drew.new_y f _⟩
 ·have hlt:=(N1.1 hk).1
  show(X.new w.drew.heap.size f).G w.heap.size (0+k)=_
  have e1:w.drew.heap.size=w.heap.size:=rfl
  simp only[Cx.new,e1,if_true,f,J5]
  rw[if_pos zO,List.getD,hk];rfl
 show(X.new w.drew.heap.size f).G w.heap.size (0+i)=_
 have e1:w.drew.heap.size=w.heap.size:=rfl
 simp only[Cx.new,e1,if_true,f,J5]
 rw[if_neg zO,if_pos G9]
theorem RR:∀(xs:List Value) (b o:Nat) (w:World),(w.setCells b o xs).heap.size=w.heap.size:=by
 intro xs
 induction xs with
|nil=>intro b o w;rfl
|cons x xs ih=>intro b o w;rw[World.setCells,ih];simp[World.setCell]
theorem Hy:∀(xs:List Value) (b o:Nat) (w:World),(w.setCells b o xs).tape=w.tape:=by
 intro xs
 induction xs with
|nil=>intro b o w;rfl
|cons x xs ih=>intro b o w;rw[World.setCells,ih];rfl
theorem FC{w:World}{b:Nat}{t:Nat}(P7:∀k,k<news.length->G b (o+k)=.tp t){b':Nat}(D5:G b' i≠ .tp t):(w.setCells b o news).cell? (ad b' i)=w.cell? (ad b' i):=by
 refine nM b news o w _ fun h1 _=>?_
 simp only at h1;subst h1
 by_cases j4:i<o
 ·exact .inl j4
 by_cases lR:o+news.length<=i
 ·exact .inr lR
 exfalso
 have:=P7 (i-o) zO
 rw[show o+(i-o)=i by omega]at this
 exact D5 this
theorem Wd.poke(H:Wd X0 X h lv c w0 w){b t:Nat}(P7:∀k,k<news.length->X.G b (o+k)=.tp t):Wd X0 X h lv c w0 (w.setCells b o news):=by
 have W3:∀k,k<news.length->(w.cell? (ad b (o+k))).isSome=true:=fun k hk=>(H.tp _ _ _ (P7 k hk)).1
 refine { kb:=?_,tape:=(Hy _ _ _ _).trans H.tape,fz0:=H.fz0,no0:=H.no0,mp0:=H.mp0,ρ0:=H.ρ0,ex:=fun b' i hn=>?_,fz:=fun b' i x hx=>?_,tp:=fun b' i t' hx=>?_,rt:=fun r' j' b' o' N' K5=>?_,c2:=H.c2,lvc:=H.lvc,ρc:=H.ρc,inv:=H.inv,imo:=H.imo,νe:=H.νe,gz:=H.gz,we:=H.we,ν0:=H.ν0,νs:=by rw[RR];exact H.νs,nf:=H.nf.set _ _ _,κc:=H.κc}
 ·refine tA (may':=fun p=>∃k,k<news.length/\p=.cell b (o+k)) H.kb (World.keptBut_setCells b news o w fun k hk=>⟨k,hk,rfl⟩) ?_ (fun x _ ⟨k,_,hk⟩=>by cases hk)
  rintro x i hx ⟨k,hk,dJ⟩
  injection dJ with e1 e2
  subst e1 e2
  have hg:=P7 k hk
  cases Q7:X0.G x (o+k) with
 |no=>have:=H.no0 x _ hx Q7;rw[hg]at this;obtain h|⟨_,h⟩:=this<;>cases h
 |fz y=>have:=H.fz0 x _ y Q7;rw[hg]at this;cases this
 |rt r j k=>exact .inl ⟨r,j,k,Q7⟩
 |tp t=>exact .inr ⟨t,Q7⟩
 ·rw[RR];exact H.ex b' i hn
 ·exact(H.fz b' i x hx).move (fun _ _ _ h=>h) (FC P7 (by rw[hx];simp)) fun _ _ hm=>LE _ _ _ hm
 ·obtain⟨q1,q2⟩:=H.tp b' i t' hx
  refine⟨?_,by rw[jW];exact q2⟩
  by_cases hr:b'=b/\o<=i/\i<o+news.length
  ·obtain⟨rfl,j4,lR⟩:=hr
   have:=zN b' news o w W3 (i-o) zO
   rw[show o+(i-o)=i by omega]at this
   rw[this];rfl
  rw[nM b news o w _ (fun e1 _=>by simp only at e1;subst e1;simp only;omega)]
  exact q1
 refine(H.rt r' j' b' o' N' K5).mono (Cx.le.rfl' X lv c) (B2 _) fun _ ds _ vY _ k x hk=>?_
 obtain⟨q1,q2,q3⟩:=vY k x hk
 rw[FC P7 (by rw[q1];simp)]
 exact⟨q1,q2,q3.to fun j=>jW ..⟩
theorem Wd.regh(H:Wd X0 X h lv c w0 w){nm:Nat}(hc:c<=nm)(hc':nm<c')
 (hG:∀b i,X'.G b i=X.G b i\/(X.G b i=.tp r\/(∃k,X.G b i=.rt r 0 k)\/(X.G b i=.no/\w0.heap.size<=b/\b<w.heap.size/\UnM w b))/\((X'.G b i=.tp nm/\(w.cell? (ad b i)).isSome=true/\w.frozen? (ad b i)=false)\/∃k,X'.G b i=.rt nm 0 k))
 (hρ:∀r' j p,X'.ρ r' j=some p->X.ρ r' j=some p\/(r'=nm/\j=0))(iO:∀r' j p,X.ρ r' j=some p->X'.ρ r' j=some p)
 (hh:∀r' j,r'≠nm->h' r' j=h r' j\/h' r' j=.un)(hr:h' r 0=.un)(fW:∀t,t∈lv'->t≠r/\2<=t/\t<c'/\(t<c->t∈lv))
 (K3:∀b o N,X.le X' lv lv' c->X'.ρ nm 0=some (b,o,N)->RtR X' lv' c' w nm 0 b o N (h' nm 0))(hν:X'.ν=X.ν:=by rfl)(hw:X'.wr=X.wr:=by rfl):X.le X' lv lv' c/\Wd X0 X' h' lv' c' w0 w:=by
 have B1:X.le X' lv lv' c:=by
  refine⟨fun b i x hx=>?_,fun b i t ht hlt hx=>?_,fun t ht hlt=>(fW t ht).2.2.2 hlt,fun r' j p _ _ h=>iO _ _ _ h,hν⟩
  ·rcases hG b i with e|⟨e,_⟩
   ·rw[e];exact hx
   rw[hx]at e;rcases e with e|⟨k,e⟩|⟨e,_⟩<;>cases e
  rcases hG b i with e|⟨e,_⟩
  ·rw[e];exact hx
  rw[hx]at e
  rcases e with e|⟨k,e⟩|⟨e,_⟩
  ·cases e;exact absurd rfl (fW _ ht).1
  ·cases e
  cases e
 refine⟨B1,{ kb:=H.kb,tape:=H.tape,fz0:=fun b i x hx=>B1.fz _ _ _ (H.fz0 b i x hx),no0:=fun b i hb hn=>?_,mp0:=fun b t hb hx=>(by
  rcases hG b 0 with e|⟨_,e⟩
  ·rw[e]at hx;exact H.mp0 b t hb hx
  ·rcases e with⟨e,_⟩|⟨k,e⟩<;>rw[e]at hx<;>cases hx),ρ0:=fun r' j p hp=>iO _ _ _ (H.ρ0 r' j p hp),ex:=fun b i hn=>?_,fz:=fun b i x hx=>?_,tp:=fun b i t hx=>?_,rt:=fun r' j b o N K5=>?_,c2:=by have:=H.c2;omega,lvc:=fun t ht=>⟨(fW t ht).2.1,(fW t ht).2.2.1⟩,ρc:=fun r' j p hp=>?_,inv:=H.inv' B1,imo:=H.imo,νe:=hν.trans H.νe,gz:=H.gz,we:=hw.trans H.we,ν0:=H.ν0,νs:=H.νs,nf:=H.nf.sub fun b i _ hn=>(by
  rcases hG b i with e|⟨e,_⟩
  ·exact .inl ⟨i,by rw[<-e];exact hn⟩
  rcases e with e|⟨k,e⟩|⟨_,_,_,u⟩
  ·exact .inl ⟨i,by rw[e];simp⟩
  ·exact .inl ⟨i,by rw[e];simp⟩
  exact .inr u),κc:=by have:=H.κc;omega }⟩
 ·have h0:=H.no0 b i hb hn
  rcases hG b i with e|⟨e,_⟩
  ·rw[e];exact h0
  rcases h0 with h0|⟨_,h0⟩<;>rw[h0]at e<;>rcases e with e|⟨k,e⟩|⟨_,e,_⟩<;>first|omega|cases e
 ·rcases hG b i with e|⟨e,_⟩
  ·rw[e]at hn;exact H.ex b i hn
  rcases e with e|⟨k,e⟩|⟨_,_,e⟩
  ·exact H.ex b i (by rw[e];simp)
  ·exact H.ex b i (by rw[e];simp)
  exact e.1
 ·rcases hG b i with e|⟨_,e⟩
  ·rw[e]at hx;exact(H.fz b i x hx).move B1.fz rfl fun _ _ h=>h
  rcases e with⟨e,_⟩|⟨k,e⟩<;>rw[e]at hx<;>cases hx
 ·rcases hG b i with e|⟨_,e⟩
  ·rw[e]at hx;exact H.tp b i t hx
  rcases e with⟨_,e⟩|⟨k,e⟩
  ·exact e
  rw[e]at hx;cases hx
 ·by_cases he:r'=nm/\j=0
  ·obtain⟨rfl,rfl⟩:=he;exact K3 b o N B1 K5
  have dH:X.ρ r' j=some (b,o,N):=(hρ _ _ _ K5).resolve_right he
  have D5:r'≠nm:=fun e=>by have:=H.ρc _ _ _ dH;omega
  rcases hh r' j D5 with e|e
  ·rw[e]
   by_cases nQ:r'=r/\j=0
   ·obtain⟨rfl,rfl⟩:=nQ;rw[<-e,hr];trivial
   refine(H.rt r' j b o N dH).mono B1 zO fun _ cs _ hL _ k x hk=>?_
   obtain⟨q1,q2,q3⟩:=hL k x hk
   refine⟨?_,q2,q3⟩
   rcases hG b (o+k) with e|⟨e,_⟩
   ·rw[e];exact q1
   rw[q1]at e
   rcases e with e|⟨k,e⟩|⟨e,_⟩
   ·cases e
   ·injection e with e1 e2;exact absurd ⟨e1,e2⟩ nQ
   cases e
  rw[e];trivial
 rcases hρ _ _ _ hp with h|⟨h,_⟩
 ·have:=H.ρc _ _ _ h;omega
 omega
theorem Hz{u:World}{b:Nat}(hL:R4 X u r j b o cs):RdS u (some ⟨b,o,none⟩) cs:=by
 by_cases h0:cs=[]
 ·exact .inl h0
 have rJ:0<cs.length:=JE.2 h0
 have hc:=(hL 0 _ (B6 rJ)).2.1
 unfold World.cell? at hc
 cases hb:u.heap[b]? with
|none=>simp[hb]at hc
|some ob=>
  cases ob<;>simp only[hb]at hc<;>try (cases hc;done)
  rename_i C T fr
  refine .inr ⟨b,o,C,T,fr,rfl,hb,fun i v hv=>?_⟩;have:=(hL i v hv).2.1
  unfold World.cell? at this
  simpa [hb] using this
def Cx.reo(X:Cx)(r nm b o k0 len:Nat):Cx:=⟨fun b' i=>match X.G b' i with
 |.rt r' j k=>if r'=r/\j=0 then .rt nm 0 k else .rt r' j k
 |.tp t=>if t=r then (if b'=b/\o+k0<=i/\i<o+k0+len then .rt nm 0 (i-o) else .tp nm) else .tp t
 |x=>x,fun r' j=>if r'=nm/\j=0 then some (b,o,k0+len) else X.ρ r' j,X.Φ,X.κ,X.ν,X.wr⟩
def Cx.nil(X:Cx)(nm b o:Nat):Cx:=⟨X.G,fun r' j=>if r'=nm/\j=0 then some (b,o,0) else X.ρ r' j,X.Φ,X.κ,X.ν,X.wr⟩
def Cx.ownS(X:Cx)(b nm N M:Nat):Cx:=⟨fun b' i=>if b'=b then (if i<N then .rt nm 0 i else if i<M then .tp nm else .no) else X.G b' i,fun r j=>if r=nm/\j=0 then some (b,0,N) else X.ρ r j,X.Φ,X.κ,X.ν,X.wr⟩
theorem AS{nm:Nat}{v:V}:∀r' j,r'≠nm->D9 (D9 h r 0 .un) nm 0 v r' j=h r' j\/D9 (D9 h r 0 .un) nm 0 v r' j=.un:=fun r' j D5=>by
 rw[gO _ _ (fun e=>D5 e.1)]
 by_cases he:r'=r/\j=0
 ·obtain⟨rfl,rfl⟩:=he;exact .inr (j8 ..)
 exact .inl (gO _ _ he)
theorem AT{nm:Nat}{v:V}(hn:r≠nm):D9 (D9 h r 0 .un) nm 0 v r 0=.un:=by
 rw[gO _ _ (fun e=>hn e.1),j8]
theorem pJ{nm:Nat}(H:Wd X0 X h lv c w0 w)(hc:c<=nm)(hr:r<c):∀t,t∈(nm::del lv r)->t≠r/\2<=t/\t<nm+1/\(t<c->t∈lv):=fun t ht=>by
 rcases K8.1 ht with rfl|ht
 ·exact⟨zO,by have:=H.c2;omega,zO,fun h=>by omega⟩
 obtain⟨q1,q2⟩:=xH.1 ht
 have:=H.lvc t q1
 exact⟨q2,this.1,zO,fun _=>q1⟩
theorem dU{b:Nat}{v:V}(hm:v.mem=true)(hv:rep X' v lv' c' cs)(hN:cs.length=N)(hL:R4 X' w' r j b o cs):RtR X' lv' c' w' r j b o N v:=by
 cases v with
|ro v=>cases hm
|un=>trivial
|_=>exact⟨cs,hv,hm,hN,hL⟩
theorem FE(H:Wd X0 X h lv c w0 w){nm e ty tx z by_ n:Nat}{a:Option Addr}{olds:List Value}{y:Value}(hc:c<=nm)(rI:r<c)(hz:0<z)(iI:olds.length=n*z)(D7:n<=cap)
  (v8:cap<=maxLen)(hsrcO:(n=0/\cap=0)\/∃b o,o=0/\0<n/\X.ρ r 0=some (b,o,n*z)/\R4 X w r 0 b o olds/\((a=none/\cap=0)\/a=some ⟨b,o,none⟩/\∀i,n*z<=i->i<cap*z->X.G b (o+i)=.tp r)){u:TypeId}(hT:SlTy P u e z by_)(J9:Src P z tx y m news w)
  (hspot:∀b o sp,a=some ⟨b,o,sp⟩->sp=none)(hb:(n+m)*by_<=140737488355328)(N2:n+m<=maxLen)(hold1:∀x∈olds,x.oneCell'=true){v:V}(fX:v.mem=true)(hv:rep X v [] 2 (olds++news)):
  ∃a' M5 w' X',(Builtin.append_ #[u,tx] ty #[.slice a n cap,y]).run P w=.ok (.slice a' (n+m) M5) w'/\X.le X' lv (nm::del lv r) c/\Wd X0 X' (D9 (D9 h r 0 .un) nm 0 v) (nm::del lv r) (nm+1) w0 w'/\rep X' (.os nm z) (nm::del lv r) (nm+1) [.slice a' (n+m) M5]/\Yle (C8 X w) (C8 X' w'):=by
 obtain⟨T3,zv,dE,hzv,K9,fS,eM⟩:=hT.row
 have W4:=H.c2
 have hlvn:∀t,t∈nm::del lv r->2<=t:=fun t ht=>(pJ H hc rI t ht).2.1
 have lK:=J9.newsLen
 have same0:m=0->(a=none\/cap=n)->(Builtin.append_ #[u,tx] ty #[.slice a n cap,y]).run P w=.ok (.slice a (n+m) cap) w:=by
  rintro rfl h0
  have fU:news=[]:=l4.1 (by rw[lK];simp)
  subst fU
  cases a with
 |none=>
   have h0:cap=0:=by
    rcases hsrcO with h|⟨_,_,_,_,_,_,h⟩
    ·exact h.2
    rcases h with h|⟨h,_⟩
    ·exact h.2
    cases h
   subst h0
   have:n=0:=by omega
   subst this
   rcases J9.kind with⟨e',hk⟩|hk<;>simp[Builtin.append_,run_underlying hT.und,run_underlying hk,sizeOf,typeInfo,dE,J9.len,K9,J9.cells]
 |some a=>
   obtain⟨b,o,spot⟩:=a
   have:spot=none:=hspot b o spot rfl
   subst this
   exact run_append_room_src (P:=P) w u tx ty e T3 hT.und dE b o n cap y 0 [] (by rw[K9];exact J9) zO (fun j hj=>by simp at hj) (fun j hj=>by simp at hj)
 by_cases j0:n+m<=cap
 ·by_cases rM:n=0/\cap=0
  ·obtain⟨rfl,rfl⟩:=rM
   have l7:m=0:=by omega
   have fU:news=[]:=l4.1 (by rw[lK,l7];simp)
   have hols:olds=[]:=l4.1 (by rw[iI];simp)
   let bo:Nat×Nat:=match a with|some ⟨b,o,_⟩=>(b,o)|none=>(0,0)
   have hR:∀r' j p,(X.nil nm bo.1 0).ρ r' j=some p->X.ρ r' j=some p\/(r'=nm/\j=0):=fun r' j p h=>by
    simp only[Cx.nil]at h
    split at h
    ·right;assumption
    exact .inl h
   have iO:∀r' j p,X.ρ r' j=some p->(X.nil nm bo.1 0).ρ r' j=some p:=fun r' j p h=>by
    simp only[Cx.nil]
    rw[if_neg (fun e=>by have:=H.ρc _ _ _ h;omega)];exact h
   obtain⟨B1,HW⟩:=H.regh (X':=X.nil nm bo.1 0) (h':=D9 (D9 h r 0 .un) nm 0 v) (lv':=nm::del lv r) (c':=nm+1) (r:=r) (nm:=nm) hc zO (fun b i=>.inl rfl) hR iO AS (AT zO) (pJ H hc rI) (fun b o N B1 hp=>by
    rw[j8]
    simp only[Cx.nil,and_self,if_true,F2,G6]at hp
    obtain⟨rfl,rfl,rfl⟩:=hp
    refine dU (cs:=[]) fX ?_ rfl (fun k x hk=>by simp at hk);have:=hv.mono B1.nil (B2 2)
    rw[hols,fU]at this
    exact this.out hlvn zO)
   refine⟨a,0,w,_,same0 l7 (.inr rfl),B1,HW,⟨zO,hz,bo.1,0,by simp[Cx.nil],?_,fun _ _=>⟨a,by simp[l7]⟩⟩,fun b i x hx=>hx⟩
   refine⟨a,0,by simp[l7],B2 _,v8,zO,fun _=>rfl,?_⟩
   cases a with
  |none=>exact .inl ⟨.inl rfl,rfl⟩
  |some a=>
    obtain⟨b,o,sp⟩:=a
    have:=hspot b o sp rfl
    subst this
    exact .inr ⟨b,o,rfl,fun h=>by omega,fun _ i hi G9=>by omega⟩
  rcases hsrcO with hx|⟨b,o,ho0,hn0,hρ,hL,kC⟩
  ·exact absurd hx rM
  rcases kC with⟨h1,h2⟩|⟨h1,htp0⟩
  ·exact absurd ⟨zO,h2⟩ rM
  subst h1
  have hcz:(n+m)*z<=cap*z:=G2 _ j0
  rw[U3]at hcz
  have P7:∀k,k<news.length->X.G b (o+n*z+k)=.tp r:=fun k hk=>by
   rw[O7];exact htp0 _ zO zO
  have H1:=H.poke P7
  have hr:=run_append_room_src (P:=P) w u tx ty e T3 hT.und dE b o n cap y m news (by rw[K9];exact J9) j0 (fun j hj=>by rw[K9];exact(H.tp _ _ _ (P7 j hj)).1) (fun j hj=>by rw[K9];exact(H.tp _ _ _ (P7 j hj)).2)
  rw[K9]at hr
  have hR:∀r' j p,(X.reo r nm b o (n*z) news.length).ρ r' j=some p->X.ρ r' j=some p\/(r'=nm/\j=0):=fun r' j p h=>by
   simp only[Cx.reo]at h
   split at h
   ·right;assumption
   exact .inl h
  have iO:∀r' j p,X.ρ r' j=some p->(X.reo r nm b o (n*z) news.length).ρ r' j=some p:=fun r' j p h=>by
   simp only[Cx.reo]
   rw[if_neg (fun e=>by have:=H.ρc _ _ _ h;omega)];exact h
  have W3:∀k,k<news.length->(w.cell? (ad b (o+n*z+k))).isSome=true:=fun k hk=>(H.tp _ _ _ (P7 k hk)).1
  have hG:∀b' i,(X.reo r nm b o (n*z) news.length).G b' i=X.G b' i\/(X.G b' i=.tp r\/(∃k,X.G b' i=.rt r 0 k)\/(X.G b' i=.no/\w0.heap.size<=b'/\b'<(w.setCells b (o+n*z) news).heap.size/\UnM (w.setCells b (o+n*z) news) b'))/\(((X.reo r nm b o (n*z) news.length).G b' i=.tp nm/\((w.setCells b (o+n*z) news).cell? (ad b' i)).isSome=true/\(w.setCells b (o+n*z) news).frozen? (ad b' i)=false)\/∃k,(X.reo r nm b o (n*z) news.length).G b' i=.rt nm 0 k):=fun b' i=>by
   simp only[Cx.reo]
   cases hg:X.G b' i with
  |no=>exact .inl rfl
  |fz x=>exact .inl rfl
  |rt r' j k=>
    simp only
    by_cases he:r'=r/\j=0
    ·obtain⟨rfl,rfl⟩:=he
     exact .inr ⟨.inr (.inl ⟨k,rfl⟩),.inr ⟨k,by simp⟩⟩
    rw[if_neg he];exact .inl rfl
  |tp t=>
    simp only
    by_cases he:t=r
    ·subst he
     refine .inr ⟨.inl rfl,?_⟩
     rw[if_pos rfl]
     by_cases hw:b'=b/\o+n*z<=i/\i<o+n*z+news.length
     ·rw[if_pos hw];exact .inr ⟨_,rfl⟩
     rw[if_neg hw]
     obtain⟨q1,q2⟩:=H1.tp b' i t hg
     exact .inl ⟨rfl,q1,q2⟩
    rw[if_neg he];exact .inl rfl
  have eO:R4 (X.reo r nm b o (n*z) news.length) (w.setCells b (o+n*z) news) nm 0 b o (olds++news):=fun k x hk=>by
   by_cases lQ:k<olds.length
   ·rw[N5 lQ]at hk
    obtain⟨q1,q2,q3⟩:=hL k x hk
    refine⟨by simp only[Cx.reo,q1,and_self,if_true],?_,q3.to fun j=>jW ..⟩
    rw[FC P7 (by rw[q1];simp)];exact q2
   rw[L7 zO]at hk
   have hlt:=(N1.1 hk).1
   have hg:=P7 _ hlt
   rw[show o+n*z+(k-olds.length)=o+k by omega]at hg
   refine⟨?_,?_,?_⟩
   ·simp only[Cx.reo,hg,if_true]
    rw[if_pos ⟨zT,zO,zO⟩,show o+k-o=k by omega]
   ·have:=zN b news (o+n*z) w W3 _ hlt
    rw[show o+n*z+(k-olds.length)=o+k by omega]at this
    rw[this];rw[B6 hlt]at hk;exact hk
   refine⟨by rw[jW];exact(H.tp _ _ _ hg).2,fun h0=>?_⟩
   have:0<n*z:=Nat.mul_pos hn0 hz
   omega
  have jZ:(olds++news).length=n*z+news.length:=by rw[C6,iI]
  obtain⟨B1,HW⟩:=H1.regh (X':=X.reo r nm b o (n*z) news.length) (h':=D9 (D9 h r 0 .un) nm 0 v) (lv':=nm::del lv r) (c':=nm+1) (r:=r) (nm:=nm) hc zO hG hR iO AS (AT zO) (pJ H hc rI) (fun b' o' N B1 hp=>by
   rw[j8]
   simp only[Cx.reo,and_self,if_true,F2,G6]at hp
   obtain⟨rfl,rfl,rfl⟩:=hp
   exact dU fX ((hv.mono B1.nil (B2 2)).out hlvn zO) jZ eO)
  refine⟨_,cap,_,_,hr,B1,HW,⟨zO,hz,b,n+m,by simp only[Cx.reo,and_self,if_true];rw[lK,U3,ho0],?_,fun h=>by omega⟩,fun b' i x hx=>?_⟩
  ·refine⟨_,cap,rfl,j0,v8,zO,fun h1=>by omega,.inr ⟨b,o,rfl,fun _=>⟨rfl,ho0⟩,fun _ i hi G9=>?_⟩⟩
   rw[U3]at hi
   have hg:=htp0 i zO G9
   simp only[Cx.reo,hg,if_true]
   rw[if_neg zO]
  unfold C8 at hx ⊢
  cases hg:X.G b' i with
  |no=>rw[hg]at hx;cases hx
  |tp t=>rw[hg]at hx;cases hx
  |fz y=>rw[hg]at hx;simp only[Cx.reo,hg];exact hx
  |rt r' j k=>
   rw[hg]at hx
   have hx:(bif beq j 0 then w.cell? (ad b' i) else none)=some x:=hx
   simp only[Cx.reo,hg]
   rw[FC P7 (by rw[hg];simp)]
   by_cases he:r'=r/\j=0
   ·rw[if_pos he];rw[he.2]at hx;exact hx
   rw[if_neg he];exact hx
 have bU:(Builtin.firstCells T3.size n (.slice a n cap)).run P w.drew=.ok olds.toArray w.drew:=by
  rw[K9]
  have iN:RdS w a olds:=by
   rcases hsrcO with⟨h1,h2⟩|⟨b,o,_,_,h1,h2,h3⟩
   ·subst h1;exact .inl (l4.1 (by rw[iI];simp))
   rcases h3 with⟨_,h3⟩|⟨rfl,_⟩
   ·have:n=0:=by omega
    subst this;exact .inl (l4.1 (by rw[iI];simp))
   exact Hz h2
  exact(iN.src hT.und iI hz hold1).cellsD
 have hr:=run_append_grow_src (P:=P) w u tx ty e T3 zv hT.und dE hzv a n cap olds bU y m news (by rw[K9];exact J9) zO (by have:maxLen=9223372036854775807:=rfl;omega) (by rw[fS];exact KD hb zO)
 have U6:=grownCap_ge w (n+m) cap e
 have w3:grownCap w (n+m) cap e<=maxLen:=grownCap_le_maxLen w (n+m) cap e N2
 have dG:(olds++news).length=(n+m)*z:=by rw[C6,iI,lK,U3]
 have rK:((olds++news).toArray++Builtin.zeroCells zv.cells (grownCap w (n+m) cap e-(n+m))).size=grownCap w (n+m) cap e*z:=by
  rw[zQ,bO,size_zeroCells,eM,dG, <-U3];congr 1;omega
 have hNM:(n+m)*z<=grownCap w (n+m) cap e*z:=G2 _ U6
 have H1:=H.drew.new ((olds++news).toArray++Builtin.zeroCells zv.cells (grownCap w (n+m) cap e-(n+m))) e (0,0) (fun _=>.no) (fun i x hx=>by cases hx) (fun i t hx=>by cases hx) (.inl rfl)
 have nX:=H.drew.new_le (fun _=>.no)
 generalize hC:(olds++news).toArray++Builtin.zeroCells zv.cells (grownCap w (n+m) cap e-(n+m))=C at H1 hr rK
 have dD:∀i,i<C.size->((w.drew.alloc (.cells C e (0,0))).cell? (ad w.heap.size i))=C[i]? :=fun i hi=>by
  unfold World.cell?
  have:(w.drew.alloc (.cells C e (0,0))).heap[w.heap.size]? =some (.cells C e (0,0)):=j7 w.drew _
  rw[this];simp
 have hfrz:∀i,(w.drew.alloc (.cells C e (0,0))).frozen? (ad w.heap.size i)=false:=fun i=>by
  unfold World.frozen?
  have:(w.drew.alloc (.cells C e (0,0))).heap[w.heap.size]? =some (.cells C e (0,0)):=j7 w.drew _
  rw[this];simp
 have G3:(w.drew.alloc (.cells C e (0,0))).heap.size=w.heap.size+1:=by simp
 have hum:UnM (w.drew.alloc (.cells C e (0,0))) w.heap.size:=fun C' T' fr he=>by
  have h0:(w.drew.alloc (.cells C e (0,0))).heap[w.heap.size]? =some (.cells C e (0,0)):=j7 w.drew _
  rw[h0]at he;cases he;exact .inl rfl
 have hR:∀r' j p,(X.ownS w.heap.size nm ((n+m)*z) (grownCap w (n+m) cap e*z)).ρ r' j=some p->(X.new w.drew.heap.size fun _=>.no).ρ r' j=some p\/(r'=nm/\j=0):=fun r' j p h=>by
  simp only[Cx.ownS]at h
  split at h
  ·right;assumption
  exact .inl h
 have iO:∀r' j p,(X.new w.drew.heap.size fun _=>.no).ρ r' j=some p->(X.ownS w.heap.size nm ((n+m)*z) (grownCap w (n+m) cap e*z)).ρ r' j=some p:=fun r' j p h=>by
  have h:X.ρ r' j=some p:=h
  simp only[Cx.ownS]
  rw[if_neg (fun e=>by have:=H.ρc _ _ _ h;omega)];exact h
 have eO:R4 (X.ownS w.heap.size nm ((n+m)*z) (grownCap w (n+m) cap e*z)) (w.drew.alloc (.cells C e (0,0))) nm 0 w.heap.size 0 (olds++news):=fun k x hk=>by
  have hlt:=(N1.1 hk).1
  rw[J5]
  refine⟨by simp only[Cx.ownS,if_true];rw[if_pos zO],?_,FrN.all hfrz⟩
  rw[dD k zO, <-hC,PI (by rw[bO];exact hlt),fQ]
  exact hk
 have hold':∀b' i,b'≠w.heap.size->(X.ownS w.heap.size nm ((n+m)*z) (grownCap w (n+m) cap e*z)).G b' i=X.G b' i:=fun b' i D5=>by simp only[Cx.ownS];rw[if_neg D5]
 obtain⟨B1,HW⟩:=H1.regh (X':=X.ownS w.heap.size nm ((n+m)*z) (grownCap w (n+m) cap e*z)) (h':=D9 (D9 h r 0 .un) nm 0 v) (lv':=nm::del lv r) (c':=nm+1) (r:=r) (nm:=nm) hc zO (fun b' i=>by
  have e1:w.drew.heap.size=w.heap.size:=rfl
  by_cases kD:b'=w.heap.size
  ·subst kD
   simp only[Cx.ownS,Cx.new,e1,if_true]
   by_cases h1:i<(n+m)*z
   ·rw[if_pos h1];exact .inr ⟨.inr (.inr ⟨zT,H.size,by rw[G3];omega,hum⟩),.inr ⟨i,rfl⟩⟩
   rw[if_neg h1]
   by_cases h2:i<grownCap w (n+m) cap e*z
   ·rw[if_pos h2]
    refine .inr ⟨.inr (.inr ⟨zT,H.size,by rw[G3];omega,hum⟩),.inl ⟨rfl,?_,hfrz i⟩⟩
    rw[dD i zO,zR zO];rfl
   rw[if_neg h2];exact .inl rfl
  rw[hold' b' i kD]
  left
  simp only[Cx.new,e1,if_neg kD]) hR iO AS (AT zO) (pJ H hc rI) (fun b' o' N B1 hp=>by
  rw[j8]
  simp only[Cx.ownS,and_self,if_true,F2,G6]at hp
  obtain⟨rfl,rfl,rfl⟩:=hp
  exact dU fX (((hv.mono nX.nil (B2 2)).mono B1.nil (B2 2)).out hlvn zO) dG eO)
 refine⟨_,_,_,_,hr,?_,HW,⟨zO,hz,w.heap.size,n+m,by simp only[Cx.ownS,and_self,if_true],?_,fun h=>by omega⟩,fun b' i x hx=>?_⟩
 ·exact⟨fun b i x hx=>B1.fz _ _ _ (nX.fz _ _ _ hx),fun b i t ht hlt hx=>B1.tp _ _ _ ht hlt (nX.tp _ _ _ ((pJ H hc rI t ht).2.2.2 hlt) hlt hx),B1.lv,fun r' j p h2 hlt hp=>B1.ρ _ _ _ h2 hlt (nX.ρ _ _ _ h2 hlt hp),rfl⟩
 ·refine⟨_,_,rfl,U6,w3,zO,fun h1=>by omega,.inr ⟨_,0,rfl,fun _=>⟨rfl,rfl⟩,fun _ i hi G9=>?_⟩⟩
  simp only[Cx.ownS,if_true,J5]
  rw[if_neg zO,if_pos G9]
 have hlt:=H.ex b' i (xG hx)
 rw[xF (hold' b' i zO) (by
  show(w.drew.alloc _).cell? (ad b' i)=w.cell? (ad b' i)
  rw[fE w.drew _ hlt];rfl)]
 exact hx
theorem Wd.newOwn(H:Wd X0 X h lv c w0 w){nm:Nat}(hc:c<=nm)(C:Array Value)(T:TypeId)(hN:N<=M)(hM:M<=C.size){v:V}(hm:v.mem=true)(hv:rep X v [] 2 (C.toList.take N)):
  X.le (X.ownS w.heap.size nm N M) lv (nm::del lv 0) c/\Wd X0 (X.ownS w.heap.size nm N M) (D9 (D9 h 0 0 .un) nm 0 v) (nm::del lv 0) (nm+1) w0 (w.alloc (.cells C T))/\Yle (C8 X w) (C8 (X.ownS w.heap.size nm N M) (w.alloc (.cells C T))):=by
 have W4:=H.c2
 have hlvn:∀t,t∈nm::del lv 0->2<=t:=fun t ht=>(pJ H hc zO t ht).2.1
 have H1:=H.new C T (0,0) (fun _=>.no) (fun i x hx=>by cases hx) (fun i t hx=>by cases hx) (.inl rfl)
 have nX:=H.new_le (fun _=>.no)
 have dD:∀i,i<C.size->((w.alloc (.cells C T (0,0))).cell? (ad w.heap.size i))=C[i]? :=fun i hi=>by
  unfold World.cell?
  have:(w.alloc (.cells C T (0,0))).heap[w.heap.size]? =some (.cells C T (0,0)):=j7 w _
  rw[this];simp
 have hfrz:∀i,(w.alloc (.cells C T (0,0))).frozen? (ad w.heap.size i)=false:=fun i=>by
  unfold World.frozen?
  have:(w.alloc (.cells C T (0,0))).heap[w.heap.size]? =some (.cells C T (0,0)):=j7 w _
  rw[this];simp
 have G3:(w.alloc (.cells C T (0,0))).heap.size=w.heap.size+1:=by simp
 have hum:UnM (w.alloc (.cells C T (0,0))) w.heap.size:=fun C' T' fr he=>by
  have h0:(w.alloc (.cells C T (0,0))).heap[w.heap.size]? =some (.cells C T (0,0)):=j7 w _
  rw[h0]at he;cases he;exact .inl rfl
 have hR:∀r' j p,(X.ownS w.heap.size nm N M).ρ r' j=some p->(X.new w.heap.size fun _=>.no).ρ r' j=some p\/(r'=nm/\j=0):=fun r' j p h=>by
  simp only[Cx.ownS]at h
  split at h
  ·right;assumption
  exact .inl h
 have iO:∀r' j p,(X.new w.heap.size fun _=>.no).ρ r' j=some p->(X.ownS w.heap.size nm N M).ρ r' j=some p:=fun r' j p h=>by
  have h:X.ρ r' j=some p:=h
  simp only[Cx.ownS]
  rw[if_neg (fun e=>by have:=H.ρc _ _ _ h;omega)];exact h
 have hl:(C.toList.take N).length=N:=by rw[F7,u6];omega
 have eO:R4 (X.ownS w.heap.size nm N M) (w.alloc (.cells C T (0,0))) nm 0 w.heap.size 0 (C.toList.take N):=fun k x hk=>by
  have hlt:=(N1.1 hk).1
  rw[J5]
  refine⟨by simp only[Cx.ownS,if_true];rw[if_pos zO],?_,FrN.all hfrz⟩
  rw[dD k zO, <-hk,eJ zO,vE]
 have hold':∀b' i,b'≠w.heap.size->(X.ownS w.heap.size nm N M).G b' i=X.G b' i:=fun b' i D5=>by simp only[Cx.ownS];rw[if_neg D5]
 obtain⟨B1,HW⟩:=H1.regh (X':=X.ownS w.heap.size nm N M) (h':=D9 (D9 h 0 0 .un) nm 0 v) (lv':=nm::del lv 0) (c':=nm+1) (r:=0) (nm:=nm) hc zO (fun b' i=>by
  by_cases kD:b'=w.heap.size
  ·subst kD
   simp only[Cx.ownS,Cx.new,if_true]
   by_cases h1:i<N
   ·rw[if_pos h1];exact .inr ⟨.inr (.inr ⟨zT,H.size,by rw[G3];omega,hum⟩),.inr ⟨i,rfl⟩⟩
   rw[if_neg h1]
   by_cases h2:i<M
   ·rw[if_pos h2]
    refine .inr ⟨.inr (.inr ⟨zT,H.size,by rw[G3];omega,hum⟩),.inl ⟨rfl,?_,hfrz i⟩⟩
    rw[dD i zO,zR zO];rfl
   rw[if_neg h2];exact .inl rfl
  rw[hold' b' i kD]
  left
  simp only[Cx.new,if_neg kD]) hR iO AS (AT zO) (pJ H hc zO) (fun b' o' N' B1 hp=>by
  rw[j8]
  simp only[Cx.ownS,and_self,if_true,F2,G6]at hp
  obtain⟨rfl,rfl,rfl⟩:=hp
  exact dU hm (((hv.mono nX.nil (B2 2)).mono B1.nil (B2 2)).out hlvn zO) hl eO)
 refine⟨⟨fun b i x hx=>B1.fz _ _ _ (nX.fz _ _ _ hx),fun b i t ht hlt hx=>B1.tp _ _ _ ht hlt (nX.tp _ _ _ ((pJ H hc zO t ht).2.2.2 hlt) hlt hx),B1.lv,fun r' j p h2 hlt hp=>B1.ρ _ _ _ h2 hlt (nX.ρ _ _ _ h2 hlt hp),rfl⟩,HW,fun b' i x hx=>?_⟩
 have hlt:=H.ex b' i (xG hx)
 have e:C8 (X.ownS w.heap.size nm N M) (w.alloc (.cells C T)) b' i=C8 X w b' i:=xF (hold' b' i zO) (fE w _ hlt)
 rw[e]
 exact hx
def pK(n:Nat)(g:Nat->V):Nat->V:=fun k=>((List.range n).map g).getD k .un
theorem jH{n:Nat}{g:Nat->V}(h:k<n):pK n g k=g k:=by simp[pK,List.getD,h]
def V.nz:V->V
|.st n g=>.st n (pK n fun k=>(g k).nz)
|.tu n g=>.tu n (pK n fun k=>(g k).nz)
|.fo z y m v=>.fo z y.nz m v.nz
|v=>v
theorem Ia:∀{v:V},v.nz.sz=v.sz:=by
 have hs:∀{n:Nat} {f g:Nat->Nat},(∀k,k<n->f k=g k)->V.sz.sum n f=V.sz.sum n g:=by
  intro n f g h
  induction n with
 |zero=>rfl
 |succ n ih=>rw[V.sz.sum,V.sz.sum,ih fun k hk=>h k zO,h n zO]
 intro v
 induction v with
|st n g ih=>exact hs fun k hk=>by rw[jH hk];exact ih k
|fo z b i v N3 _=>exact N3
|_=>rfl
theorem pM{X:Cx}:∀{v:V} {lv:List Nat} {c:Nat} {cs:List Value},rep X v lv c cs->rep X v.nz lv c cs:=by
 intro v
 induction v with
|st n g ih=>intro lv c cs h;exact d7 h fun k cs hk hr=>by rw[jH hk];exact ih k hr
|tu=>intro lv c cs h;exact h.elim
|fo z b i v N3 Q6=>intro lv c cs h;obtain⟨h1,⟨es,h2,h3⟩,h4⟩:=h;exact⟨h1,⟨es,h2,N3 h3⟩,Q6 h4⟩
|_=>intro lv c cs h;exact h
theorem FF{X:Cx}:∀{v:V} {lv:List Nat} {c:Nat} {x:Value},repv X lv c v x->repv X lv c v.nz x:=by
 intro v
 induction v with
|st n g=>rintro lv c x ⟨C,h1,h2⟩;exact⟨C,h1,pM (v:=.st n g) h2⟩
|tu n g ih=>rintro lv c x ⟨C,h1,h2,h3⟩;exact⟨C,h1,h2,fun k hk=>by obtain⟨y,q1,q2⟩:=h3 k hk;exact⟨y,q1,by rw[jH hk];exact ih k q2⟩⟩
|fo z b i v=>intro lv c x h;exact pM (v:=.fo z b i v) h
|_=>intro lv c x h;exact h
theorem FG:∀{v:V},v.mem=true->v.nz.mem=true:=by
 intro v
 induction v with
|st n g ih=>intro h;exact EZ fun k hk=>by rw[jH hk];exact ih k (x5 h k hk)
|fo z b i v N3 Q6=>
  intro h
  simp only[V.mem,A9]at h
  simp only[V.nz,V.mem,A9]
  exact⟨⟨N3 h.1.1,Q6 h.1.2⟩,by rw[Ia];exact h.2⟩
|tu=>intro h;cases h
|_=>intro h;exact h
theorem RtR.nz{X:Cx}{lv:List Nat}{c:Nat}{w:World}{b:Nat}{v:V}(h:RtR X lv c w r j b o N v):RtR X lv c w r j b o N v.nz:=by
 cases v with
|st n g=>obtain⟨cs,h1,h2,h3⟩:=h;exact⟨cs,pM h1,FG h2,h3⟩
|tu n g=>obtain⟨cs,h1,h2,h3⟩:=h;cases h2
|fo z b i v=>obtain⟨cs,h1,h2,h3⟩:=h;exact⟨cs,pM h1,FG h2,h3⟩
|_=>exact h
theorem Wd.nz{X0 X:Cx}{h:Nat->Nat->V}{lv:List Nat}{c:Nat}{w0 w:World}{v:V}(H:Wd X0 X (D9 h r j v) lv c w0 w):Wd X0 X (D9 h r j v.nz) lv c w0 w:=by
 refine { H with rt:=fun r' j' b o N hr=>?_}
 have:=H.rt r' j' b o N hr
 by_cases he:r'=r/\j'=j
 ·obtain⟨rfl,rfl⟩:=he
  rw[j8]at this ⊢;exact this.nz
 rw[gO _ _ he]at this ⊢;exact this
end
section
variable {md:Region.Mode} {I:World->Prop} {Z:Nat->Bool}
def bA(P:Program)(md:Region.Mode)(ops:Array Oper)(Q:Exit->Act->World->Prop)(I:World->Prop)(Z:Nat->Bool):Nat->Array Bool->Act->World->Prop
|0,listed,a,w=>Region.ready md ops listed=[]/\Q .normal a w
|fuel+1,listed,a,w=>
  (Region.ready md ops listed=[]->Q .normal a w)/\
  ∀i∈Region.ready md ops listed,wpOp P ops Q i (fun a' w'=>(Z i=false->I w->I w')/\bA P md ops Q I Z fuel (listed.setIfInBounds i true) a' w') a w
theorem RS:∀(fuel:Nat) (listed:Array Bool) (a:Act) (w:World),bA P md ops Q I Z fuel listed a w->wpAny P md ops Q fuel listed a w
|0,_,_,_,h=>h
|fuel+1,_,_,_,h=>⟨h.1,fun i hi=>wpOp_mono (fun a' w' h'=>RS fuel _ a' w' h'.2) (h.2 i hi)⟩
theorem Ib{S:World->Prop}{oi:Oper}{v:Value}(hi:ops[i]? =some oi)(hsel:∀(j:Nat) (o:Oper) cs b,ops[j]? =some o->o.op≠ .select cs b)
  (hQ:∀c a w,Q (.panic c) (a.put oi.dst v) w->Q (.panic c) a w)
  (hz:∀j oj,ops[j]? =some oj->(∀e∈oj.after,Region.binds md e=true->e.on≠i)->∀w w':World,(Z j=false->I w->I w')->S w->S w'):
  ∀(fuel:Nat) (listed:Array Bool) (a:Act) (w:World),
   (∀j oj,ops[j]? =some oj->j≠i->listed.getD j true=false->(∀e∈oj.after,Region.binds md e=true->e.on≠i)->oi.apart ops oj=true)->
   i∈Region.ready md ops listed->YieldsIf P ops S oi v a->S w->
   bA P md ops Q I Z fuel (listed.setIfInBounds i true) (a.put oi.dst v) w->bA P md ops Q I Z (fuel+1) listed a w:=by
 intro fuel
 induction fuel with
|zero=>
  intro listed a w _ hr hy hS H
  refine⟨fun h=>(by rw[h]at hr;cases hr),fun j hj=>?_⟩
  by_cases aO:j=i
  ·subst aO;exact hy.wpOp hi hS ⟨fun _ h=>h,H⟩
  have:=ready_mono hj aO
  rw[H.1]at this
  cases this
|succ fuel ih=>
  intro listed a w hfree hr hy hS H
  refine⟨fun h=>(by rw[h]at hr;cases hr),fun j hj=>?_⟩
  by_cases aO:j=i
  ·subst aO;exact hy.wpOp hi hS ⟨fun _ h=>h,H⟩
  have h1:=H.2 j (ready_mono hj aO)
  obtain⟨hjun,oj,lT,jZ⟩:=mem_ready.1 hj
  have nW:∀e∈oj.after,Region.binds md e=true->e.on≠i:=fun e he hb vP=>by
   have h1:=jZ e he hb
   have h0:=(mem_ready.1 hr).1
   rw[vP]at h1
   rcases Nat.lt_or_ge i listed.size with h'|h'
   ·simp[h']at h0 h1;rw[h0]at h1;cases h1
   simp[DG h']at h1
  have h2:=wpOp_putIf lT (hfree j oj lT aO hjun nW) (fun cs b=>hsel i oi cs b hi) (fun cs b=>hsel j oj cs b lT) hQ hy h1
  have hfree':∀k ok,ops[k]? =some ok->k≠i->(listed.setIfInBounds j true).getD k true=false->
    (∀e∈ok.after,Region.binds md e=true->e.on≠i)->oi.apart ops ok=true:=fun k ok hk dJ lU bV=>by
   refine hfree k ok hk dJ ?_ bV
   by_cases hjk:j=k
   ·subst hjk;exact hjun
   rw[getD_set_ne true hjk]at lU;exact lU
  refine wpOp_mono (fun a' w' h3=>⟨h3.2.1,ih (listed.setIfInBounds j true) a' w' hfree' (ready_mono hr (Ne.symm aO)) h3.1 (hz j oj lT nW w w' h3.2.1 hS) ?_⟩) h2
  rw[Array.setIfInBounds_comm _ _ aO]
  exact h3.2.2
variable {n:Nat} {σ:Nat->Value} {K:Act->World->Prop} {ty:TypeId} {pos:String} {aft:Array Edge} {d:Nat} {listed:Array Bool} {dst:Option Tmp} {oo:Op}
theorem Ic{id:Nat}{l:List Oper}{a:Act}(I:World->Prop)(Z:Nat->Bool)(hm:P.follows .mixedOrders=true)
  (h:bA P .any l.toArray Q I Z l.length (Array.replicate l.length false) a w.drew):(Code.region id l.toArray true).wp P Q a w:=
 wp_region_any hm (RS _ _ _ _ (by simpa using h))
theorem Id(i:Nat){v:Value}(hi:ops[i]? =some ⟨some d,oo,ty,pos,aft,none⟩)(hs:Region.noSelect ops=true)(hf:Region.free .any ops listed i=true)(hr:(Region.ready .any ops listed).contains i=true)
  (hQ:∀c a w,Q (.panic c) (a.put (some d) v) w->Q (.panic c) a w)(hy:∀w,(execOp (ev n σ) ⟨some d,oo,ty,pos,aft,none⟩).run P w=.ok (.value v) w)
  (h:bA P .any ops Q I Z fuel (listed.setIfInBounds i true) (mk n (up σ d v)) w):bA P .any ops Q I Z (fuel+1) listed (mk n σ) w:=
 Ib (S:=fun _=>True) (v:=v) hi (Region.noSelect_spec hs) hQ (fun _ _ _ _ _ _ _ _=>trivial) fuel listed _ w (Region.free_spec hi hf) (by simpa using hr) (.inl ⟨rfl,fun w _=>by rw[W7];exact hy w⟩) trivial (by show bA P .any ops Q I Z fuel _ ((mk n σ).put (some d) v) w;rw[eR];exact h)
theorem Ie(i:Nat){a:Act}(hi:ops[i]? =some ⟨dst,oo,ty,pos,aft,none⟩)(hr:Region.ready .any ops listed=[i])
  (h:Oper.wp P ⟨dst,oo,ty,pos,aft,none⟩ a w (fun a' w'=>(Z i=false->I w->I w')/\bA P .any ops Q I Z fuel (listed.setIfInBounds i true) a' w') Q):bA P .any ops Q I Z (fuel+1) listed a w:=
 ⟨fun h0=>(by rw[hr]at h0;cases h0),fun j hj=>(by
  rw[hr,O8]at hj
  subst hj
  exact xA _ hi h)⟩
theorem Ig{a:Act}(hr:Region.ready .any ops listed=[])(h:Q .normal a w):∀{fuel:Nat},bA P .any ops Q I Z fuel listed a w
|0=>⟨hr,h⟩
|_+1=>⟨fun _=>h,by rw[hr];simp⟩
theorem zA(i:Nat){v:Value}(hi:ops[i]? =some ⟨some d,oo,ty,pos,aft,none⟩)(hy:∀w,(execOp (ev n σ) ⟨some d,oo,ty,pos,aft,none⟩).run P w=.ok (.value v) w)
  (h:bA P .any ops Q I Z fuel (listed.setIfInBounds i true) (mk n (up σ d v)) w)(hs:Region.noSelect ops=true:=by kernel_rfl)(hf:Region.free .any ops listed i=true:=by kernel_rfl)(hr:(Region.ready .any ops listed).contains i=true:=by kernel_rfl)
  (hQ:∀c (a:Act) w,Q (.panic c) (a.put (some d) v) w->Q (.panic c) a w:=by exact fun _ _ _ h=>h):bA P .any ops Q I Z (fuel+1) listed (mk n σ) w:=Id i hi hs hf hr hQ hy h
theorem zU(i:Nat){a:Act}(hi:ops[i]? =some ⟨dst,oo,ty,pos,aft,none⟩) 
  (h:Oper.wp P ⟨dst,oo,ty,pos,aft,none⟩ a w (fun a' w'=>(Z i=false->I w->I w')/\bA P .any ops Q I Z fuel (listed.setIfInBounds i true) a' w') Q)(hr:Region.ready .any ops listed=[i]:=by kernel_rfl):bA P .any ops Q I Z (fuel+1) listed a w:=Ie i hi hr h
theorem Ih{id:Nat}{l:List Oper}{a:Act}(H:Hp w0 w S L)(Z:Nat->Bool)(hm:P.follows .mixedOrders=true)
  (h:Hp w0 w.drew S L->bA P .any l.toArray Q (fun w=>Hp w0 w S L) Z l.length (Array.replicate l.length false) a w.drew):(Code.region id l.toArray true).wp P Q a w:=Ic _ Z hm (h H.drew)
end
def Ii:List FuncId:=[36,115,118,127,129,131,133,135,157]
def kS(f:FuncId):Bool:=Ii.any fun g=>beq g f
def dV:Op->Bool
|.store _ _ _=>true
|.call ⟨.builtin .copy,_,_⟩=>true
|.call ⟨.value (.func f),_,_⟩=>kS f
|_=>false
def mN:Op->Bool
|.call ⟨.builtin .copy,_,_⟩=>true
|_=>false
def x6(ops:Array Oper)(i:Nat):Bool:=match ops[i]? with|some o=>dV o.op|none=>false
structure Pm where
 y:Nat->Nat->Option Value
 z:Nat->Nat->Option Value
def Pm.pk(Y:Pm)(b:Bool):Nat->Nat->Option Value:=bif b then Y.z else Y.y
structure Nxt (st:Bool) (Y Y':Pm) (w:World):Prop where
 y:st=false->Yle Y.y Y'.y
 z:Yle Y.z Y'.z
 sy:Sy Y'.y w
 sz:Sy Y'.z w
theorem Nxt.rfl'{st:Bool}{Y:Pm}(h:Sy Y.y w)(hz:Sy Y.z w):Nxt st Y Y w:=⟨fun _=>Yle.rfl' _,Yle.rfl' _,h,hz⟩
theorem Nxt.pk{b st:Bool}{Y Y':Pm}(h:Nxt st Y Y' w)(hb:b=false->st=false):Yle (Y.pk b) (Y'.pk b):=by
 cases b
 ·exact h.y (hb rfl)
 exact h.z
section
variable {md:Region.Mode}
def V1(P:Program)(md:Region.Mode)(ops:Array Oper)(Q:Exit->Act->World->Prop):Nat->Array Bool->Pm->Act->World->Prop
|0,listed,_,a,w=>Region.ready md ops listed=[]/\Q .normal a w
|fuel+1,listed,Y,a,w=>
  (Region.ready md ops listed=[]->Q .normal a w)/\
  ∀i∈Region.ready md ops listed,wpOp P ops Q i (fun a' w'=>∃Y',Nxt (x6 ops i) Y Y' w'/\V1 P md ops Q fuel (listed.setIfInBounds i true) Y' a' w') a w
theorem RT:∀(fuel:Nat) (listed:Array Bool) (Y:Pm) (a:Act) (w:World),V1 P md ops Q fuel listed Y a w->wpAny P md ops Q fuel listed a w
|0,_,_,_,_,h=>h
|fuel+1,_,_,_,_,h=>⟨h.1,fun i hi=>wpOp_mono (fun a' w' h'=>by obtain⟨Y',_,h'⟩:=h';exact RT fuel _ Y' a' w' h') (h.2 i hi)⟩
def jI(md:Region.Mode)(ops:Array Oper)(listed:Array Bool)(i:Nat):Nat->Nat->Bool
|0,_=>false
|n+1,j=>match ops[j]? with
 |some o=>o.after.any fun e=>Region.binds md e&&(e.on==i||(!(listed.getD e.on true)&&jI md ops listed i n e.on))
 |none=>false
def AU(md:Region.Mode)(ops:Array Oper)(listed:Array Bool)(i:Nat):Bool:=(List.range ops.size).all fun j=> !(x6 ops j)||listed.getD j false||jI md ops listed i 12 j
theorem Ij{listed:Array Bool}(h:AU md ops listed i=true){oj:Oper}(hj:ops[j]? =some oj)(hl:listed.getD j true=false):x6 ops j=false\/∃n,jI md ops listed i n j=true:=by
 have h1:=P5.1 h j (qQ.2 (Z4.1 hj).1)
 cases hz:x6 ops j with
|false=>exact .inl rfl
|true=>
  have nY:listed.getD j false=false:=by
   rcases Nat.lt_or_ge j listed.size with h'|h'
   ·simp[h']at hl ⊢;exact hl
   simp[h']
  simp only[hz,nY,Bool.not_true,Bool.false_or]at h1
  exact .inr ⟨12,h1⟩
theorem Ik{n:Nat}{oj:Oper}{listed:Array Bool}(hi:listed.getD i true=false)(hj:ops[j]? =some oj)(jZ:∀e∈oj.after,Region.binds md e=true->listed.getD e.on false=true)(h:jI md ops listed i n j=true):False:=by
 cases n with
|zero=>cases h
|succ n=>
  simp only[jI,hj]at h
  obtain⟨e,he,hb⟩:=Array.any_eq_true'.1 h
  simp only[A9,DH,beq_iff_eq,lH]at hb
  have h1:=jZ e he hb.1
  have h2:listed.getD e.on true=true:=by
   rcases Nat.lt_or_ge e.on listed.size with h'|h'
   ·simp[h']at h1 ⊢;exact h1
   simp[h']
  rcases hb.2 with rfl|⟨h3,_⟩
  ·rw[h2]at hi;cases hi
  rw[h2]at h3;cases h3
theorem RU{i j:Nat}{listed:Array Bool}(bV:∀n,jI md ops listed i n j=true->False):∀(n k:Nat),jI md ops listed i n k=true->jI md ops (listed.setIfInBounds j true) i n k=true
|0,_,h=>h
|n+1,k,h=>by
  simp only[jI]at h ⊢
  cases hk:ops[k]? with
 |none=>rw[hk]at h;cases h
 |some o=>
   rw[hk]at h
   simp only at h ⊢
   obtain⟨e,he,hb⟩:=Array.any_eq_true'.1 h
   refine Array.any_eq_true'.2 ⟨e,he,?_⟩
   simp only[A9,DH,beq_iff_eq,lH]at hb ⊢
   refine⟨hb.1,hb.2.imp id fun⟨h1,h2⟩=>⟨?_,RU bV n _ h2⟩⟩
   by_cases hj:j=e.on
   ·subst hj;exact(bV n h2).elim
   rw[getD_set_ne true hj];exact h1
theorem Il{S S':World->Prop}{o:Oper}{v:Value}{a:Act}(h:YieldsIf P ops S o v a)(hs:∀w,S' w->S w):YieldsIf P ops S' o v a:=h.imp (fun⟨h1,h2⟩=>⟨h1,fun w hw=>h2 w (hs w hw)⟩) id
theorem Im{b:Bool}{oi:Oper}{v:Value}(hi:ops[i]? =some oi)(hsel:∀(j:Nat) (o:Oper) cs b,ops[j]? =some o->o.op≠ .select cs b)
  (hQ:∀c a w,Q (.panic c) (a.put oi.dst v) w->Q (.panic c) a w):
  ∀(fuel:Nat) (listed:Array Bool) (Y:Pm) (a:Act) (w:World),
   (∀j oj,ops[j]? =some oj->j≠i->listed.getD j true=false->(∀e∈oj.after,Region.binds md e=true->e.on≠i)->oi.apart ops oj=true)->
   (b=false->∀j oj,ops[j]? =some oj->listed.getD j true=false->x6 ops j=false\/∃n,jI md ops listed i n j=true)->
   i∈Region.ready md ops listed->YieldsIf P ops (Sy (Y.pk b)) oi v a->Sy Y.y w->Sy Y.z w->
   V1 P md ops Q fuel (listed.setIfInBounds i true) Y (a.put oi.dst v) w->V1 P md ops Q (fuel+1) listed Y a w:=by
 intro fuel
 induction fuel with
|zero=>
  intro listed Y a w _ _ hr hy hS hZ H
  refine⟨fun h=>(by rw[h]at hr;cases hr),fun j hj=>?_⟩
  by_cases aO:j=i
  ·subst aO;exact hy.wpOp hi (by cases b<;>assumption) ⟨Y,.rfl' hS hZ,H⟩
  have:=ready_mono hj aO
  rw[H.1]at this
  cases this
|succ fuel ih=>
  intro listed Y a w hfree hz hr hy hS hZ H
  refine⟨fun h=>(by rw[h]at hr;cases hr),fun j hj=>?_⟩
  by_cases aO:j=i
  ·subst aO;exact hy.wpOp hi (by cases b<;>assumption) ⟨Y,.rfl' hS hZ,H⟩
  have h1:=H.2 j (ready_mono hj aO)
  obtain⟨hjun,oj,lT,jZ⟩:=mem_ready.1 hj
  have nW:∀e∈oj.after,Region.binds md e=true->e.on≠i:=fun e he hb vP=>by
   have h1:=jZ e he hb
   have h0:=(mem_ready.1 hr).1
   rw[vP]at h1
   rcases Nat.lt_or_ge i listed.size with h'|h'
   ·simp[h']at h0 h1;rw[h0]at h1;cases h1
   simp[DG h']at h1
  have h2:=wpOp_putIf lT (hfree j oj lT aO hjun nW) (fun cs b=>hsel i oi cs b hi) (fun cs b=>hsel j oj cs b lT) hQ hy h1
  have un:∀k,(listed.setIfInBounds j true).getD k true=false->listed.getD k true=false:=fun k lU=>by
   by_cases hjk:j=k
   ·subst hjk;exact hjun
   rw[getD_set_ne true hjk]at lU;exact lU
  have nZ:=(mem_ready.1 hr).1
  have hnb:∀n,jI md ops listed i n j=true->False:=fun n h=>Ik nZ lT jZ h
  have I0:b=false->x6 ops j=false:=fun hb=>(hz hb j oj lT hjun).elim id fun⟨n,h⟩=>(hnb n h).elim
  refine wpOp_mono (fun a' w' h3=>?_) h2;obtain⟨hy',Y',z1,z3⟩:=h3
  refine⟨Y',z1,ih (listed.setIfInBounds j true) Y' a' w' (fun k ok hk dJ lU bV=>hfree k ok hk dJ (un k lU) bV) (fun hb k ok hk lU=>(hz hb k ok hk (un k lU)).imp id fun⟨n,h⟩=>⟨n,RU hnb n k h⟩) (ready_mono hr (Ne.symm aO)) (Il hy' fun w hw=>hw.mono (z1.pk I0)) z1.sy z1.sz ?_⟩
  rw[Array.setIfInBounds_comm _ _ aO]
  exact z3
theorem RV{listed:Array Bool}{Y Y2:Pm}{a:Act}(hy:Y2.y=Y.y)(hz:Yle Y.z Y2.z)(h:V1 P md ops Q fuel listed Y2 a w):V1 P md ops Q fuel listed Y a w:=by
 cases fuel with
|zero=>exact h
|succ fuel=>exact⟨h.1,fun i hi=>wpOp_mono (fun a' w' ⟨Y',n,q⟩=>⟨Y',⟨fun e=>hy▸n.y e,Yle.trans hz n.z,n.sy,n.sz⟩,q⟩) (h.2 i hi)⟩
theorem RW{listed:Array Bool}{Y:Pm}{a:Act}{rs:List Nat}(hr:Region.ready md ops listed=rs)(D5:rs≠[])
  (h:∀i∈rs,wpOp P ops Q i (fun a' w'=>∃Y',Nxt (x6 ops i) Y Y' w'/\V1 P md ops Q fuel (listed.setIfInBounds i true) Y' a' w') a w):V1 P md ops Q (fuel+1) listed Y a w:=
 ⟨fun h0=>absurd (hr▸h0) D5,hr▸h⟩
theorem Io{listed:Array Bool}{Y:Pm}{a:Act}(hr:Region.ready md ops listed=[])(h:Q .normal a w):∀{fuel:Nat},V1 P md ops Q fuel listed Y a w
|0=>⟨hr,h⟩
|_+1=>⟨fun _=>h,by rw[hr];simp⟩
theorem Ip{o:Oper}{a:Act}{K:Act->World->Prop}(hi:ops[i]? =some o)(hw:Region.wanted o (yielded ops a.tmps)=true)(h:Oper.wp P o a w K Q):wpOp P ops Q i K a w:=by
 unfold wpOp
 simp only[hi]
 rw[if_pos hw]
 exact .inl h
theorem Iq{o:Oper}{a:Act}{K:Act->World->Prop}(hi:ops[i]? =some o)(hw:Region.wanted o (yielded ops a.tmps)=false)(h:K (a.put o.dst undef) w):wpOp P ops Q i K a w:=by
 unfold wpOp
 simp only[hi]
 rw[if_neg (by rw[hw];simp)]
 exact h
end
def V.nb:V->V
|.bc p=>.b p
|x=>x
section
variable (P:Program)
def dW(t:TypeId):Bool:=match P.underlying t with|some (.int .u8)=>true|_=>false
def mO(t:TypeId):Nat:=match P.info? t with|some i=>i.size|none=>0
def V3(t:TypeId):Nat:=match P.info? t with|some i=>i.bytes|none=>0
def AV(t:TypeId):V:=match P.underlying t with|some (.slice e)=>bif dW P e then .bl 1 [] else bif blt 0 (mO P e) then .sl 1 (mO P e) 0 (fun _=>.un) else .un|_=>.un
def zv:Nat->TypeId->V
|0,_=>.un
|m+1,t=>match P.underlying t with
 |some (.int k)=>.i k 0
 |some .bool=>.b false
 |some .string=>.s []
 |some (.slice _)=>AV P t
 |some (.pointer _)=>.np
 |some (.map _ _)=>.uk 1
 |some (.struct fs)=>.st fs.size fun i=>match fs[i]? with|some f=>zv m f.type|none=>.un
 |some (.array k e)=>bif dW P e then .bs k (replicate k 0) else .ar (mO P e) k fun _=>zv m e
 |_=>.un
def LF:List Value->List UInt8
|.int _ (.ofNat k)::l=>UInt8.ofNat k::LF l
|_=>[]
def j9:V->List Value->Option (List Value)
|.i k a,.int k' b::r=>bif decide (k=k')&&decide (a=b)&&decide (k.wrap a=a) then some r else none
|.b p,.bool q::r=>bif p==q then some r else none
|.s l,.string s::r=>bif decide (s.data.toList=l)&&Nat.ble l.length maxLen then some r else none
|.bl t l,.slice none 0 0::r=>bif beq t 1&&l.isEmpty then some r else none
|.sl t z n _,.slice none 0 0::r=>bif beq t 1&&beq n 0&&blt 0 z then some r else none
|.np,.pointer none::r=>some r
|.uk n,.map none::r=>bif beq n 1 then some r else none
|.bs n l,cs=>bif beq l.length n&&chkB l cs then some (cs.drop n) else none
|.st n g,cs=>all n (fun k=>j9 (g k)) cs
|.ar z n g,cs=>bif V.mem.all n (fun k=>beq (g k).sz z&&(g k).mem) then all n (fun k=>j9 (g k)) cs else none
|_,_=>none
where
 all:Nat->(Nat->List Value->Option (List Value))->List Value->Option (List Value)
 |0,_,cs=>some cs
 |n+1,f,cs=>(all n f cs).bind (f n)
 chkB:List UInt8->List Value->Bool
 |[],_=>true
 |u::l,.int .u8 a::r=>decide (a=(u.toNat:Int))&&chkB l r
 |_,_=>false
def FH(v:V)(cs:List Value):V:=bif v.mem then (match j9 v cs with|some []=>v|_=>.un) else .un
def xI(t:TypeId)(C:List Value):Option V:=let v:=zv P 9 t
 bif v.mem then (match j9 v C with|some []=>some v|_=>none) else none
def tB(v:V)(cs:List Value):V:=match v with|.st _ _|.ar _ _ _|.bs _ _=>FH v cs|_=>.un
def xJ(t:TypeId):Value->V
|.int k n=>bif decide (k.wrap n=n) then .i k n else .un
|.bool b=>.bc b
|.string s=>bif Nat.ble s.data.toList.length maxLen then .s s.data.toList else .un
|.pointer none=>.np
|.slice none 0 0=>AV P t
|.agg C=>match P.underlying t with
 |some (.array k e)=>bif dW P e then tB (.bs k (LF C.toList)) C.toList else tB (zv P 9 t) C.toList
 |_=>tB (zv P 9 t) C.toList
|.func (.func f) a b=>bif a.isEmpty&&b.isEmpty then .fn f 0 fun _=>.un else .un
|v=>bif v.oneCell' then .lit v else .un
abbrev Fr:=Nat->V
def cS(σ:Fr)(d:Nat)(v:V):Fr:=fun t=>bif beq t d then v else σ t
def V.ul:V->V
|.lb l=>.bl 1 l
|x=>x
def av(σ:Fr)(t:TypeId):Operand->V
|.tmp d=>(σ d).ul
|.const v=>xJ P t v
|.func f=>.fn f 0 fun _=>.un
|.global _=>.un
structure T where
 σ:Fr
 h:Nat->Nat->V
 lv:List Nat
 c:Nat
 n:Nat
inductive Rs where
|ok (v:V) (h:Nat->Nat->V) (lv:List Nat)
|chk (p:Bool) (v:V) (h:Nat->Nat->V) (lv:List Nat)
|bad
def bI(op:BinOp)(k:IntKind)(a b:Int):Option V:=match op with
|.add=>some (.i k (k.wrap (a+b)))|.sub=>some (.i k (k.wrap (a-b)))|.mul=>some (.i k (k.wrap (a*b)))
|.eql=>some (.b (decide (a=b)))|.neq=>some (.b (decide (a≠b)))|.lss=>some (.b (decide (a<b)))|.leq=>some (.b (decide (a<=b)))
|.gtr=>some (.b (decide (b<a)))|.geq=>some (.b (decide (b<=a)))
|_=>none
def bS(op:BinOp)(a b:List UInt8):Option V:=match op with
|.eql=>some (.b (decide (a=b)))|.neq=>some (.b (!decide (a=b)))
|.lss=>some (.b (Op.bytesLess a b))|.geq=>some (.b (!Op.bytesLess a b))
|.gtr=>some (.b (!(Op.bytesLess a b||decide (a=b))))|.leq=>some (.b (Op.bytesLess a b||decide (a=b)))
|_=>none
def bE(op:BinOp)(e:Bool):Option V:=match op with
|.eql=>some (.b e)|.neq=>some (.b (!e))|_=>none
def xK(v:Option V)(s:T):Rs:=match v with|some v=>.ok v s.h s.lv|none=>.bad
def pN:V->Option Bool
|.b p=>some p
|.bc p=>some p
|_=>none
def r9(t:TypeId):V->Bool
|.st n g=>match T5 P t with|some k=>beq k (V.st n g).sz|none=>false
|.ar z n g=>match T5 P t with|some k=>beq k (V.ar z n g).sz|none=>false
|.bs n l=>match T5 P t with|some k=>beq k (V.bs n l).sz|none=>false
|.uk n=>beq n 1&&O5 P t
|.fo _ _ _ _=>false
|v=>v.mem&&O5 P t
def xL(E:TypeId->V->V->Option Bool)(n:Nat)(f g:Nat->V):List Field->Nat->Option Bool
|[],_=>some true
|q::r,k=>bif cP f n k q.offset&&cP g n k q.offset&&r9 P q.type (f k)&&r9 P q.type (g k) && !(q.name == "_") then
   (match E q.type (f k) (g k),xL E n f g r (k+1) with|some a,some b=>some (a&&b)|_,_=>none) else none
def xM:Nat->TypeId->V->V->Option Bool
|0,_,_,_=>none
|m+1,t,x,y=>match P.underlying t,x,y with
 |some (.int _),.i k a,.i k' b=>bif decide (k=k') then some (decide (a=b)) else none
 |some .bool,.b a,.b b=>some (a==b)
 |some .string,.s a,.s b=>some (decide (a=b))
 |some (.array n e),.bs k a,.bs k' b=>bif dW P e&&beq k n&&beq k' n&&(match K2 P e with|some 1=>true|_=>false)&&blt 0 m then some (decide (a=b)) else none
 |some (.struct fs),.st n f,.st n' g=>bif !P.stoodInHeld t&&beq n' n then xL P (xM m) n f g fs.toList 0 else none
 |_,_,_=>none
def chkB(lit:Bool)(p:Bool)(v:V)(s:T):Rs:=match lit with
|true=>(match p with|true=>.ok v s.h s.lv|false=>.bad)
|false=>.chk p v s.h s.lv
def bX(op:BinOp)(k k':IntKind)(a b:Int):Option (Bool×Bool×V):=match op with
|.shl=>some (false,decide (0<=b),.i k (k.wrap (a*2 ^ (min b.toNat k.bits))))
|.shr=>some (false,decide (0<=b),.i k (a.fdiv (2 ^ (min b.toNat k.bits))))
|.quo=>bif decide (k=k') then some (false,decide (b≠0),.i k (k.wrap (a.tdiv b))) else none
|.rem=>bif decide (k=k') then some (false,decide (b≠0),.i k (a.tmod b)) else none
|.and=>bif decide (k=k') then some (true,true,.i k (k.wrap (ofInt k.bits a&&&ofInt k.bits b).toNat)) else none
|.or=>bif decide (k=k') then some (true,true,.i k (k.wrap (ofInt k.bits a|||ofInt k.bits b).toNat)) else none
|.xor=>bif decide (k=k') then some (true,true,.i k (k.wrap (ofInt k.bits a^^^ofInt k.bits b).toNat)) else none
|.andNot=>bif decide (k=k') then some (true,true,.i k (k.wrap (ofInt k.bits a &&& ~~~ofInt k.bits b).toNat)) else none
|_=>none
def LG(op:BinOp)(t:TypeId)(x y:V)(lit:Bool)(s:T):Rs:=match x,y with
|.i k a,.i k' b=>match bX op k k' a b with
 |some (q,p,v)=>chkB (q||lit) p v s
 |none=>bif decide (k=k') then xK (bI op k a b) s else .bad
|.s a,.s b=>match op with
 |.add=>.chk (decide (a.length+b.length<=maxLen)) (.s (a++b)) s.h s.lv
 |_=>xK (bS op a b) s
|.b a,.b b=>match P.underlying t with|some .bool=>xK (bE op (a==b)) s|_=>.bad
|.pr _ _ _,.np=>match P.underlying t with|some (.pointer _)=>(match op with|.eql=>.ok (.bc false) s.h s.lv|.neq=>.ok (.bc true) s.h s.lv|_=>.bad)|_=>.bad
|.np,.np=>match P.underlying t with|some (.pointer _)=>(match op with|.eql=>.ok (.bc true) s.h s.lv|.neq=>.ok (.bc false) s.h s.lv|_=>.bad)|_=>.bad
|.bs a b,.bs c d=>bif P.eqGuardType P.depth t then .bad else (match xM P 9 t (.bs a b) (.bs c d) with|some e=>xK (bE op e) s|none=>.bad)
|.st a b,.st c d=>bif P.eqGuardType P.depth t then .bad else (match xM P 9 t (.st a b) (.st c d) with|some e=>xK (bE op e) s|none=>.bad)
|_,_=>.bad
def RX:V->UInt8
|.i _ a=>UInt8.ofNat a.toNat
|_=>0
def Ir:V->Bool
|.i .u8 _=>true
|_=>false
def RY:Operand->Bool
|.const _=>true
|_=>false
def H7(h:Nat->Nat->V)(r j:Nat):V:=match h r j with|.ro v=>v|v=>v
def tC(s:T)(t:TypeId):V->Rs
|.pz v=>bif r9 P t v&&v.mem then .ok v s.h s.lv else .bad
|.pr r j p=>let v:=H7 s.h r j
  bif v.okp p&&v.mem&&r9 P t (v.get p)&&blt 0 (v.get p).sz&&beq j 0 then .ok (v.get p) s.h s.lv else .bad
|_=>.bad
def tD:V->Bool
|.ro _=>true
|_=>false
def RZ(s:T)(t:TypeId)(x:V):V->Rs
|.pr r j p=>let v:=s.h r j
  bif !tD v&&v.okp p&&v.oks p x&&v.mem&&x.mem&&beq x.sz (v.get p).sz&&(match K2 P t with|some k=>beq k x.sz|none=>false) then .ok .un (D9 s.h r j (v.set p x).nz) s.lv else .bad
|_=>.bad
def xN(σ:Fr)(n:Nat):List (Nat×Operand)->(Nat->TypeId×Nat×Nat)->(Nat->V)->Option (Nat->V)
|[],_,g=>some g
|(i,x)::r,pl,g=>let v:=(av P σ (pl i).1 x).nb
  bif cP g n i (pl i).2.1&&v.mem&&beq v.sz (pl i).2.2&&beq v.sz (g i).sz then xN σ n r pl fun k=>bif beq k i then v else g k else none
def mP(t:TypeId)(i:Nat):TypeId×Nat×Nat:=match P.underlying t with|some (.struct fs)=>(match fs[i]? with|some f=>(f.type,f.offset,mO P f.type)|none=>(0,0,0))|_=>(0,0,0)
def xO(σ:Fr)(e z n:Nat):List (Nat×Operand)->(Nat->V)->Option (Nat->V)
|[],g=>some g
|(i,x)::r,g=>let v:=(av P σ e x).nb
  bif blt i n&&v.mem&&beq v.sz z&&v.prs d6 then xO σ e z n r fun k=>bif beq k i then v.strip.nz else g k else none
def pO(σ:Fr)(e n:Nat):List (Nat×Operand)->List UInt8->Option (List UInt8)
|[],l=>some l
|(i,x)::r,l=>let v:=av P σ e x
  bif blt i n&&Ir v then pO σ e n r (l.set i (RX v)) else none
def D6(t:TypeId):TypeId:=match P.underlying t with|some (.slice e)=>e|some (.array _ e)=>e|_=>0
def Z0(t:TypeId):Bool:=match P.underlying t with|some (.slice _)=>true|_=>false
def Y3(t:TypeId):Bool:=match P.underlying t with|some .string=>true|_=>false
def SA(t:TypeId)(i:Nat):Bool:=match P.underlying t with|some (.struct fs)=>(fs[i]?).isSome|_=>false
def Q0(t z:Nat):Bool:=Z0 P t&&(match P.info? (D6 P t) with|some i=>beq i.size z&&blt 0 i.bytes&&(match i.zero with|some v=>beq v.cells.size z|none=>false)|none=>false)
def R9(t:TypeId):Bool:=Q0 P t 1&&dW P (D6 P t)
def fO:Nat:=1000003
def fV:Nat:=1000004
def SB(s:T):Bool:=match s.σ fV with|.tu _ _=>true|_=>false
def LH(s:T):Bool:=match s.σ fO with|.tu _ _=>true|_=>false
def V.row:V->Option (Nat×Nat)
|.ar z n _=>some (z,n)
|.bs n _=>some (1,n)
|.fo _ y _ _=>y.row
|_=>none
def bB(h:Nat->Nat->V)(r z:Nat):Option Nat:=match (H7 h r 0).row with|some (z',n)=>bif beq z z'&&(H7 h r 0).mem then some n else none|none=>none
def xP(s:T)(nm:Nat)(t u:TypeId):V->V->Rs
|.os r z,y=>match y with
 |.sl _ z' m f=>match s.h r 0 with
  |.ar z2 n g=>bif blt 1 r&&s.lv.elem r&&beq z z'&&beq z z2&&Q0 P t z&&Z0 P u then
    .chk (decide ((n+m)*V3 P (D6 P t)<=140737488355328)) (.os nm z) (D9 (D9 s.h r 0 .un) nm 0 (.ar z (n+m) fun i=>bif blt i n then g i else f (i-n))) (nm::del s.lv r) else .bad
  |_=>.bad
 |_=>.bad
|.bl q l,y=>
  match y with
 |.bl _ m=>bif Z0 P u then (bif (beq q 1||s.lv.elem q)&&R9 P t then (bif LH s&&beq q 1&&l.isEmpty then .chk (decide (m.length*V3 P (D6 P t)<=140737488355328)) (.os nm 1) (D9 (D9 s.h 0 0 .un) nm 0 (.bs m.length m)) (nm::del s.lv 0) else .chk (decide ((l.length+m.length)*V3 P (D6 P t)<=140737488355328)) (.bl nm (l++m)) s.h (nm::del s.lv q)) else .bad) else .bad
 |.s m=>bif Y3 P u then (bif (beq q 1||s.lv.elem q)&&R9 P t then .chk (decide ((l.length+m.length)*V3 P (D6 P t)<=140737488355328)) (.bl nm (l++m)) s.h (nm::del s.lv q) else .bad) else .bad
 |_=>.bad
|.sl q z n g,.sl _ z' m f=>bif (beq q 1||s.lv.elem q)&&beq z z'&&Q0 P t z&&Z0 P u then (match LH s&&beq q 1,n with
  |true,0=>.chk (decide (m*V3 P (D6 P t)<=140737488355328)) (.os nm z) (D9 (D9 s.h 0 0 .un) nm 0 (.ar z m f)) (nm::del s.lv 0)
  |_,_=>.chk (decide ((n+m)*V3 P (D6 P t)<=140737488355328)) (.sl nm z (n+m) fun i=>bif blt i n then g i else f (i-n)) s.h (nm::del s.lv q)) else .bad
|_,_=>.bad
def FI(s:T)(r:Nat)(p:List Stp)(a n:Nat)(src:List UInt8):Rs:=match (s.h r 0).get p with
|.bs m l=>bif !tD (s.h r 0)&&(s.h r 0).okp p&&(s.h r 0).oks p (.bs m l)&&(s.h r 0).mem&&Nat.ble (a+n) m then
   .ok (.i .i64 (min src.length n:Nat)) (D9 s.h r 0 ((s.h r 0).set p (.bs m (l.take a++src.take n++l.drop (a+min src.length n)))).nz) s.lv else .bad
|_=>.bad
def SC(s:T)(t u:TypeId):V->V->Rs
|.vw r p a n,.bl _ src=>bif R9 P t&&Z0 P u then FI s r p a n src else .bad
|.os r 1,.bl _ src=>match s.h r 0 with
 |.bs m _=>bif R9 P t&&Z0 P u then FI s r [] 0 m src else .bad
 |_=>.bad
|_,_=>.bad
def tF:Option V->Option Int
|none=>some 0
|some (.i _ a)=>some a
|_=>none
def AW(s:T)(q:Nat)(n:Nat)(f:Nat->Int->Nat->V)(lo hi:Option V):Rs:=match tF lo,hi with
|some a,none=>.chk (decide (0<=a/\a<=n)) (f q a (n-a.toNat)) s.h s.lv
|some a,some (.i _ b)=>.chk (decide (0<=a/\a<=b/\b<=n)) (f 0 a (b.toNat-a.toNat)) s.h s.lv
|_,_=>.bad
def FJ(v:V):V->Option (Nat×Nat×V×Nat×V×Nat×List Stp)
|.pr r 0 (.e a z' _::p)=>match v with
 |.fo z y i w=>bif beq z z' then some (r,z,y,i,w,a,p) else none
 |_=>none
|_=>none
def SD:V->Nat
|.pr r _ _=>r
|_=>0
def FK(σ:Fr):Operand->Option (List UInt8)
|.tmp d=>match σ d with
 |.lb l=>some l
 |_=>none
|_=>none
def tG:V->Bool
|.i _ _|.b _|.bc _|.s _|.bl _ _|.sl _ _ _ _|.np|.pr _ _ _|.pz _|.lit _|.fn _ _ _|.os _ _|.vw _ _ _ _|.lb _=>true
|_=>false
def AX(σ:Fr):List Operand->Option (List V)
|[]=>some []
|x::r=>match tG (av P σ 0 x).nb,AX σ r with
 |true,some l=>some ((av P σ 0 x).nb::l)
 |_,_=>none
def O0(s:T)(nm:Nat)(ty:TypeId):Op->Rs
|.move x|.assign x=>.ok (av P s.σ ty x) s.h s.lv
|.nilCheck x=>match av P s.σ 0 x with
 |.pr r j p=>.ok (.pr r j p) s.h s.lv
 |.pz v=>.ok (.pz v) s.h s.lv
 |_=>.bad
|.pick c a b=>match av P s.σ 0 c with
 |.bc true=>.ok (av P s.σ ty a) s.h s.lv
 |.bc false=>.ok (av P s.σ ty b) s.h s.lv
 |.b p=>match pN (av P s.σ ty a),pN (av P s.σ ty b) with
  |some x,some y=>.ok (.b (bif p then x else y)) s.h s.lv
  |_,_=>.bad
 |_=>.bad
|.binOp o t x y _=>LG P o t (av P s.σ t x) (av P s.σ t y) (RY y) s
|.unOp .neg t x=>match av P s.σ t x with|.i k a=>.ok (.i k (k.wrap (0-a))) s.h s.lv|_=>.bad
|.unOp .xor t x=>match av P s.σ t x with|.i k a=>.ok (.i k (k.wrap (ofInt k.bits (if k.signed then -1 else k.max)^^^ofInt k.bits a).toNat)) s.h s.lv|_=>.bad
|.unOp .not t x=>match av P s.σ t x with|.b p=>.ok (.b (!p)) s.h s.lv|.bc p=>.ok (.bc (!p)) s.h s.lv|_=>.bad
|.extract x i=>match av P s.σ 0 x with|.tu n g=>bif blt i n then .ok (g i) s.h s.lv else .bad|_=>.bad
|.alloc t=>match zeroCells P t with
 |some C=>match xI P t C with
  |some v=>.ok (.pr nm 0 []) (D9 s.h nm 0 v) s.lv
  |none=>.bad
 |none=>.bad
|.box t x=>let v:=(av P s.σ t x).nb
  bif v.mem then .ok (.pr nm 0 []) (D9 s.h nm 0 v) s.lv else .bad
|.load t a=>match FJ (H7 s.h (SD (av P s.σ 0 a)) 0) (av P s.σ 0 a) with
 |some (_,z,y,i,w,a,p)=>bif w.okp p&&w.mem&&y.mem&&beq w.sz z&&r9 P t (w.get p)&&blt 0 (w.get p).sz then .chk (decide (a=i)) (w.get p) s.h s.lv else .bad
 |none=>tC P s t (av P s.σ 0 a)
|.store t a x=>match FJ (s.h (SD (av P s.σ 0 a)) 0) (av P s.σ 0 a) with
 |some (r,z,y,i,w,a,p)=>let v:=(av P s.σ t x).nb
   bif w.okp p&&w.oks p v&&w.mem&&y.mem&&beq w.sz z&&v.mem&&beq v.sz (w.get p).sz&&(match K2 P t with|some k=>beq k v.sz|none=>false) then .chk (decide (a=i)) .un (D9 s.h r 0 (V.fo z y i (w.set p v)).nz) s.lv else .bad
 |none=>RZ P s t (av P s.σ t x).nb (av P s.σ 0 a)
|.fieldAddr t x i=>match aU P t i with
 |some k=>match av P s.σ 0 x with
  |.pr r j p=>.ok (.pr r j (p++[.f i k])) s.h s.lv
  |.pz (.st n g)=>bif cP g n i k&&blt 0 (g i).sz then .ok (.pz (g i)) s.h s.lv else .bad
  |_=>.bad
 |none=>.bad
|.field t x i=>match av P s.σ t x with
 |.st n g=>bif SA P t i&&cP g n i (mP P t i).2.1&&r9 P (mP P t i).1 (g i) then .ok (g i) s.h s.lv else .bad
 |_=>.bad
|.indexAddr t x y=>match av P s.σ t x,av P s.σ 0 y with
 |.bl _ l,.i _ a=>bif R9 P t then .chk (decide (0<=a/\a<l.length)) (.pz (.i .u8 (l.getD a.toNat 0).toNat)) s.h s.lv else .bad
 |.sl _ z n g,.i _ a=>bif Q0 P t z then .chk (decide (0<=a/\a<n)) (.pz (g a.toNat)) s.h s.lv else .bad
 |.os r z,.i _ a=>match bB s.h r z with
  |some n=>bif Q0 P t z then .chk (decide (0<=a/\a<n)) (.pr r 0 [.e a.toNat z n]) s.h s.lv else .bad
  |none=>.bad
 |.pr r j p,.i _ a=>match V0 P t with
  |some (n,z)=>chkB (RY y) (decide (0<=a/\a<n)) (.pr r j (p++[.e a.toNat z n])) s
  |none=>.bad
 |_,_=>.bad
|.index t x y=>match av P s.σ t x,av P s.σ 0 y with
 |.s l,.i _ a=>bif Y3 P t then .chk (decide (0<=a/\a<l.length)) (.i .u8 (l.getD a.toNat 0).toNat) s.h s.lv else .bad
 |_,_=>.bad
|.build t ps=>match zeroCells P t with
 |some C=>match xI P t C with
  |some (.st n g)=>bif (match P.underlying t with|some (.struct fs)=>Nat.ble n fs.size|_=>false)&&(oX P t).isSome then (match xN P s.σ n ps.toList (mP P t) g with|some f=>.ok (V.st n f).nz s.h s.lv|none=>.bad) else .bad
  |some (.bs n l)=>bif (match V0 P t with|some (m,1)=>beq m n|_=>false) then (match pO P s.σ (D6 P t) n ps.toList l with|some l=>.ok (.bs n l) s.h s.lv|none=>.bad) else .bad
  |_=>.bad
 |none=>.bad
|.buildSlice t n ps=>match zeroCells P (D6 P t) with
 |some C=>bif dW P (D6 P t) then (bif R9 P t&&Nat.ble n 16777216&&(match C with|[.int .u8 0]=>true|_=>false) then (match pO P s.σ (D6 P t) n ps.toList (replicate n 0) with|some l=>.ok (bif beq n 0 then .bl 1 l else .lb l) s.h s.lv|none=>.bad) else .bad)
   else (let z:=mO P (D6 P t)
    match xI P (D6 P t) C with
   |none=>.bad
   |some v=>bif Q0 P t z&&blt 0 z&&beq v.sz z&&Nat.ble (n*z) 16777216&&v.prs d6 then (match xO P s.σ (D6 P t) z n ps.toList fun _=>v with|some g=>.ok (.sl 1 z n (bif beq n 1 then fun _=>g 0 else g)) s.h s.lv|none=>.bad) else .bad)
 |none=>.bad
|.slice t x lo hi none=>match av P s.σ t x with
 |.bl q l=>bif R9 P t then AW s q l.length (fun q a m=>.bl q ((l.drop a.toNat).take m)) (lo.map (av P s.σ 0)) (hi.map (av P s.σ 0)) else .bad
 |.sl q z n g=>bif Q0 P t z then AW s q n (fun q a m=>.sl q z m fun i=>g (a.toNat+i)) (lo.map (av P s.σ 0)) (hi.map (av P s.σ 0)) else .bad
 |.s l=>bif Y3 P t then AW s 0 l.length (fun _ a m=>.s ((l.drop a.toNat).take m)) (lo.map (av P s.σ 0)) (hi.map (av P s.σ 0)) else .bad
 |.pr r j p=>match lo,hi,V0 P t with
  |none,none,some (n,1)=>bif SB s then (bif beq j 0&&Nat.ble n maxLen then .ok (.vw r p 0 n) s.h s.lv else .bad) else let v:=H7 s.h r j
    match v.get p with
   |.bs m l=>bif beq m n&&v.okp p&&v.mem&&Nat.ble m maxLen&&v.prs d6&&beq j 0 then .ok (.bl 1 l) (bif tD (s.h r j) then s.h else D9 s.h r j (.ro v.strip)) s.lv else .bad
   |_=>.bad
  |some lo,none,some (n,1)=>match av P s.σ 0 lo with
   |.i _ a=>bif beq j 0&&Nat.ble n maxLen then .chk (decide (0<=a/\a<n)) (.vw r p a.toNat (n-a.toNat)) s.h s.lv else .bad
   |_=>.bad
  |_,_,_=>.bad
 |_=>.bad
|.convert src dst x=>match (bif Y3 P dst then none else FK s.σ x) with
 |some l=>bif beq src dst&&R9 P src && !l.isEmpty then .ok (.bl 1 l) s.h s.lv else .bad
 |none=>match av P s.σ src x with
 |.i k a=>match P.underlying src,P.underlying dst with|some _,some (.int k)=>.ok (.i k (k.wrap a)) s.h s.lv|_,_=>.bad
 |.bl q l=>bif R9 P src&&Y3 P dst then .ok (.s l) s.h s.lv else .bad
 |.s l=>bif Y3 P dst&&Y3 P src then .ok (.s l) s.h s.lv else bif Y3 P src&&R9 P dst then .ok (.bl nm l) s.h (nm::s.lv) else .bad
 |_=>.bad
|.makeSlice t x y=>match x,av P s.σ 0 x,av P s.σ 0 y with
 |.const (.int _ 0),.i _ _,.i _ b=>bif R9 P t&&beq (V3 P (D6 P t)) 1 then .chk (decide (0<=b/\b<=1000000000000)) (.bl nm []) s.h (nm::s.lv) else .bad
 |_,.i _ a,.i _ b=>bif R9 P t&&beq (V3 P (D6 P t)) 1&&(match zeroCells P (D6 P t) with|some [.int .u8 0]=>true|_=>false) then .chk (decide (0<a/\a<=b/\b<=1000000000000)) (.os nm 1) (D9 (D9 s.h 0 0 .un) nm 0 (.bs a.toNat (replicate a.toNat 0))) (nm::del s.lv 0) else .bad
 |_,_,_=>.bad
|.sliceToArrayPointer dst x=>match P.underlying dst,av P s.σ 0 x with
 |some (.array k e),.bl _ l=>bif blt 0 k&&dW P e then .chk (decide (k<=l.length)) (.pz (.bs k (l.take k))) s.h s.lv else .bad
 |_,_=>.bad
|.call ⟨.builtin b,args,ts⟩=>match b,args.toList,ts.toList with
 |.len,[x],[t]=>match av P s.σ t x with
  |.bl _ l=>bif Z0 P t&&Q0 P t 1 then .ok (.i .i64 l.length) s.h s.lv else .bad
  |.s l=>bif Y3 P t then .ok (.i .i64 l.length) s.h s.lv else .bad
  |.sl _ z n _=>bif Q0 P t z then .ok (.i .i64 n) s.h s.lv else .bad
  |.os r z=>match bB s.h r z with
   |some n=>bif Q0 P t z then .ok (.i .i64 n) s.h s.lv else .bad
   |none=>.bad
  |_=>.bad
 |.append,[x,y],[t,u]=>xP P s nm t u (av P s.σ t x) (av P s.σ u y)
 |.copy,[x,y],[t,u]=>SC P s t u (av P s.σ t x) (av P s.σ u y)
 |.min,[x,y],[t,_]=>match av P s.σ t x,av P s.σ t y with|.i k a,.i k' b=>bif decide (k=k') then .ok (.i k (if b<a then b else a)) s.h s.lv else .bad|_,_=>.bad
 |.max,[x,y],[t,_]=>match av P s.σ t x,av P s.σ t y with|.i k a,.i k' b=>bif decide (k=k') then .ok (.i k (if a<b then b else a)) s.h s.lv else .bad|_,_=>.bad
 |_,_,_=>.bad
|.makeFunc (.func f) fs cs=>bif fs.isEmpty then (match AX P s.σ cs.toList with|some l=>.ok (.fn f l.length fun k=>l.getD k .un) s.h s.lv|none=>.bad) else .bad
|_=>.bad
def FL(σ:Fr)(f:FuncId)(args:Array Operand)(n:Nat)(g:Nat->V):Option (FuncId×List V):=match P.funcs[f]? with
|some fn=>bif fn.body.isSome && !(fn.name == "runtime.NumGoroutine")&&beq fn.params.size args.size&&V.mem.all n (fun k=>tG (g k)) then some (f,List.zipWith (fun t x=>(av P σ t x).nb) fn.params.toList args.toList++(List.range n).map g) else none
|none=>none
def FM(σ:Fr):Op->Option (FuncId×List V)
|.call ⟨.value (.func f),args,_⟩=>FL P σ f args 0 fun _=>.un
|.call ⟨.value (.tmp d),args,_⟩=>match σ d with
 |.fn f n g=>FL P σ f args n g
 |_=>none
|_=>none
def FN(h:Nat->Nat->V):V->Option Nat
|.bl _ l=>some l.length
|.sl _ _ n _=>some n
|.os r z=>bB h r z
|_=>none
def LI(s:T):Op->Option (Nat×Bool)
|.binOp .eql t x (.const (.slice none 0 0)) _=>bif Z0 P t && !P.eqGuardType P.depth t then (match FN s.h (av P s.σ t x) with|some n=>some (n,true)|none=>none) else none
|.binOp .neq t x (.const (.slice none 0 0)) _=>bif Z0 P t && !P.eqGuardType P.depth t then (match FN s.h (av P s.σ t x) with|some n=>some (n,false)|none=>none) else none
|_=>none
def d8(n:Nat):Option Tmp->Bool
|some d=>blt d n
|none=>true
def f0(n:Nat)(o:Op):Option Tmp->Bool
|some d=>blt d n&&(!dV o||mN o)
|none=>dV o && !mN o
def T.put(s:T)(d:Option Tmp)(v:V):T:=match d with|some d=>{ s with σ:=cS s.σ d v}|none=>s
def tH:Op->Bool
|.alloc _|.box _ _|.store _ _ _|.buildSlice _ _ _|.makeSlice _ _ _=>false
|.convert _ dst _=> !Z0 P dst
|.call ⟨.builtin b,_,_⟩=>match b with|.append|.copy|.cap|.clear=>false|_=>true
|.call _=>false
|.lookup ..|.makeMap ..|.mapUpdate ..|.mapEntry ..|.entryStore ..=>false
|_=>true
inductive K where
|c (x:Code)
|bl (id:Nat)
|ops (all:Array Oper) (i:Nat) (rest:List Oper)
|dr (all:Array Oper) (L:Array Bool) (f:Nat)
|d1 (all:Array Oper) (L:Array Bool) (f i:Nat)
|lp (R:Act->World->Prop)
structure Cf where
 k:List K
 s:T
inductive Ev where
|fin (e:Exit) (s:T)
|br (p:Bool) (a b:Cf)
|chk (p:Bool) (k:Cf)
|call (f:FuncId) (l:List V) (d:Option Tmp) (nm:Nat) (k:Cf)
|loop (b:Code) (k:Cf)
|alt (l:List Cf)
|may (p:Bool) (a b:Cf)
|round (R:Act->World->Prop) (s:T)
|ext (o:Oper) (nm:Nat) (k:Cf)
|bad (n:Nat)
def tI(id:Nat):List K->Option (List K)
|[]=>none
|.bl i::k=>bif beq i id then some k else tI id k
|_::k=>tI id k
inductive Gs where
|yes|no
|br (d:Nat) (p:Bool)
|bad
abbrev V.nd:V:=.tu 0 fun _=>.un
def kT(all:Array Oper)(s:T)(o:Oper):Gs:=match o.guard with
|none=>.yes
|some (j,w)=>match (all[j]?).bind (·.dst) with
 |some d=>bif blt d s.n then (match s.σ d with|.bc p=>bif p==w then .yes else .no|.b p=>.br d p|.tu 0 _=>.no|_=>.bad) else .bad
 |none=>.bad
def SE(all:Array Oper)(s:T)(i:Nat):Bool:=match all[i]? with
|some o=>(match kT all s o with
 |.no=>true
 |.yes=>(match O0 P { s with h:=fun _ _=>.un} s.c o.type o.op with|.ok _ _ _=>true|_=>false)
 |_=>false)
|none=>false
def SF(all:Array Oper)(L:Array Bool)(s:T)(i:Nat):Bool:=Region.noSelect all&&Region.free .any all L i&&(AU .any all L i||SE P all s i)&&(match all[i]? with
|some o=>(match kT all s o with|.yes=>tH P o.op|.no=>true|.br _ _=>true|.bad=>false)
|none=>false)
def go:Nat->List K->T->Ev
|0,_,_=>.bad 0
|n+1,k,s=>match k with
 |[]=>.fin .normal s
 |.bl _::k=>go n k s
 |.lp R::_=>.round R s
 |.ops _ i []::k=>go n k { s with c:=s.c+64*i}
 |.ops all i (o::r)::k=>
   let k':=K.ops all (i+1) r::k
   match o.guard with
  |some (j,w)=>match (all[j]?).bind (·.dst) with
   |some d=>match s.σ d with
    |.bc p=>bif blt d s.n&&d8 s.n o.dst then (bif p==w then go n (.ops all i ({ o with guard:=none}::r)::k) s else go n k' (s.put o.dst .nd)) else .bad 5
    |.b p=>.br p ⟨.ops all i (o::r)::k,s.put (some d) (.bc true)⟩ ⟨.ops all i (o::r)::k,s.put (some d) (.bc false)⟩
    |.tu 0 _=>bif blt d s.n&&d8 s.n o.dst then go n k' (s.put o.dst .nd) else .bad 5
    |_=>.bad 1
   |none=>.bad 2
  |none=>match FM P s.σ o.op with
   |some (f,l)=>bif d8 s.n o.dst then .call f l o.dst (s.c+64*i) ⟨k',s⟩ else .bad 7
   |none=>match LI P s o.op with
    |some (m,q)=>bif f0 s.n o.op o.dst then .may (beq m 0) ⟨k',s.put o.dst (.bc q)⟩ ⟨k',s.put o.dst (.bc (!q))⟩ else .bad 8
    |none=>match O0 P s (s.c+64*i) o.type o.op with
     |.ok v h lv=>bif f0 s.n o.op o.dst then go n k' ({ s with h:=h,lv:=lv }.put o.dst v) else .bad 6
     |.chk p v h lv=>bif f0 s.n o.op o.dst then .chk p ⟨k',{ s with h:=h,lv:=lv }.put o.dst v⟩ else .bad 6
     |.bad=>bif d8 s.n o.dst then .ext o (s.c+64*i) ⟨k',s⟩ else .bad (1000+i)
 |.dr all L f::k=>match Region.ready .any all L with
  |[]=>go n k s
  |i0::rs=>match f with
   |0=>.bad 10
   |f+1=>match (i0::rs).find? (SF P all L s) with
    |none=>match rs with
     |[]=>go n (.d1 all L f i0::k) s
     |_=>.alt ((i0::rs).map fun i=>⟨.d1 all L f i::k,s⟩)
    |some i=>match all[i]? with
     |none=>.bad 11
     |some o=>match kT all s o with
      |.bad=>.bad 12
      |.br d p=>.br p ⟨.dr all L (f+1)::k,s.put (some d) (.bc true)⟩ ⟨.dr all L (f+1)::k,s.put (some d) (.bc false)⟩
      |.no=>bif d8 s.n o.dst then go n (.dr all (L.setIfInBounds i true) f::k) (s.put o.dst .nd) else .bad 13
      |.yes=>match O0 P s s.c o.type o.op with
       |.ok v h lv=>bif f0 s.n o.op o.dst then go n (.dr all (L.setIfInBounds i true) f::k) ({ s with h:=h,lv:=lv,c:=s.c+64 }.put o.dst v) else .bad 14
       |.chk p v h lv=>bif f0 s.n o.op o.dst then .chk p ⟨.dr all (L.setIfInBounds i true) f::k,{ s with h:=h,lv:=lv,c:=s.c+64 }.put o.dst v⟩ else .bad 14
       |.bad=>.bad (2000+i)
 |.d1 all L f i::k=>match all[i]? with
  |none=>.bad 15
  |some o=>match kT all s o with
   |.bad=>.bad 16
   |.br d p=>.br p ⟨.d1 all L f i::k,s.put (some d) (.bc true)⟩ ⟨.d1 all L f i::k,s.put (some d) (.bc false)⟩
   |.no=>bif d8 s.n o.dst then go n (.dr all (L.setIfInBounds i true) f::k) (s.put o.dst .nd) else .bad 17
   |.yes=>match FM P s.σ o.op with
    |some (g,l)=>bif d8 s.n o.dst&&(x6 all i==kS g) then .call g l o.dst s.c ⟨.dr all (L.setIfInBounds i true) f::k,{ s with c:=s.c+64 }⟩ else .bad 18
    |none=>match O0 P s s.c o.type o.op with
     |.ok v h lv=>bif f0 s.n o.op o.dst then go n (.dr all (L.setIfInBounds i true) f::k) ({ s with h:=h,lv:=lv,c:=s.c+64 }.put o.dst v) else .bad 19
     |.chk p v h lv=>bif f0 s.n o.op o.dst then .chk p ⟨.dr all (L.setIfInBounds i true) f::k,{ s with h:=h,lv:=lv,c:=s.c+64 }.put o.dst v⟩ else .bad 19
     |.bad=>bif d8 s.n o.dst then .ext o s.c ⟨.dr all (L.setIfInBounds i true) f::k,{ s with c:=s.c+64 }⟩ else .bad (3000+i)
 |.c x::k=>match x with
  |.skip=>go n k s
  |.region id l d=>match d with
   |false=>go n (.ops l 0 l.toList::k) s
   |true=>bif P.follows .mixedOrders then go n (.dr l (Array.replicate l.size false) l.size::k) s else .bad 9
  |.seq a b=>go n (.c a:: .c b::k) s
  |.block id b=>go n (.c b:: .bl id::k) s
  |.exit id=>match tI id k with|some k=>go n k s|none=>.fin (.exit id) s
  |.cond c a b=>match av P s.σ 0 c with
   |.bc true=>go n (.c a::k) s
   |.bc false=>go n (.c b::k) s
   |.b p=>.br p ⟨.c a::k,s⟩ ⟨.c b::k,s⟩
   |_=>.bad 3
  |.loop b=>.loop b ⟨k,s⟩
  |.ret=>.fin .ret s
  |_=>.bad 4
end
section
theorem LJ{f:Nat->List Value->Option (List Value)}{R:Nat->List Value->Prop}:∀{n:Nat} {cs r:List Value},(∀k cs r,k<n->f k cs=some r->∃a,cs=a++r/\R k a)->j9.all n f cs=some r->∃a,cs=a++r/\dR n R a
|0,cs,r,_,h=>by simp only[j9.all,F2]at h;exact⟨[],by simp[h],rfl⟩
|n+1,cs,r,hf,h=>by
  simp only[j9.all,DI]at h
  obtain⟨m,h1,h2⟩:=h
  obtain⟨a,rfl,ha⟩:=LJ (fun k cs r hk=>hf k cs r zO) h1
  obtain⟨b,rfl,hb⟩:=hf n m r zO h2
  exact⟨a++b,by simp,a,b,rfl,ha,hb⟩
theorem M7{b:Bool}{x y z:α}(h:(bif b then x else y)=z)(hn:y≠z):b=true/\x=z:=by
 cases b
 ·exact absurd h hn
 exact⟨rfl,h⟩
theorem SG:∀{l:List UInt8} {cs:List Value},j9.chkB l cs=true->∃r,cs=l.map E9++r
|[],cs,_=>⟨cs,rfl⟩
|u::l,[],h=>by cases h
|u::l,x::cs,h=>by
  cases x
  case int k a=>
   cases k
   case u8=>
    simp only[j9.chkB,A9,decide_eq_true_eq]at h
    obtain⟨r,rfl⟩:=SG h.2
    exact⟨r,by simp[h.1]⟩
   all_goals cases h
  all_goals cases h
theorem LK(z:Nat):∀k,V.sz.sum k (fun _=>z)=k*z
|0=>by simp[V.sz.sum]
|k+1=>by rw[V.sz.sum,LK z k,G7]
theorem FO{f g:Nat->Nat}:∀{n:Nat},(∀k,k<n->f k=g k)->V.sz.sum n f=V.sz.sum n g
|0,_=>rfl
|n+1,h=>by rw[V.sz.sum,V.sz.sum,FO fun k hk=>h k zO,h n zO]
theorem FP(hc:2<=c)(z:Nat)(W:Nat->Nat->Prop):SlR X.G lv c 1 0 z W [.slice none 0 0]:=⟨none,0,rfl,B2 _,by simp[maxLen],zO,fun _=>rfl,.inl ⟨.inl rfl,rfl⟩⟩
theorem Iu{n z:Nat}{R:Nat->List Value->Prop}{cs:List Value}(h:dR n R cs)(hl:∀k cs,k<n->R k cs->cs.length=z):cs.length=n*z/\∀k,k<n->R k ((cs.drop (k*z)).take z):=by
 refine⟨?_,fun k hk=>?_⟩
 ·rw[<-LK z n];exact EV h hl
 have:=(pG (f:=fun _=>z) h hl hk).2
 rwa [LK]at this
theorem SH:∀{v:V} {lv:List Nat} {c:Nat} {cs r:List Value},2<=c->v.mem=true->j9 v cs=some r->∃a,cs=a++r/\rep X v lv c a:=by
 intro v
 induction v with
|i k a=>
  intro lv c cs r hc _ h
  cases cs with
 |nil=>cases h
 |cons x cs=>
   cases x
   case int k' b=>
    simp only[j9]at h
    obtain⟨h1,h2⟩:=M7 h (by simp)
    simp only[A9,decide_eq_true_eq]at h1
    obtain⟨⟨rfl,rfl⟩,h3⟩:=h1
    cases h2
    exact⟨[_],rfl,rfl,h3⟩
   all_goals cases h
|b p=>
  intro lv c cs r hc _ h
  cases cs with
 |nil=>cases h
 |cons x cs=>
   cases x
   case bool q=>
    simp only[j9]at h
    obtain⟨h1,h2⟩:=M7 h (by simp)
    cases h2
    exact⟨[_],rfl,by rw[beq_iff_eq]at h1;rw[h1];rfl⟩
   all_goals cases h
|s l=>
  intro lv c cs r hc _ h
  cases cs with
 |nil=>cases h
 |cons x cs=>
   cases x
   case string s=>
    simp only[j9]at h
    obtain⟨h1,h2⟩:=M7 h (by simp)
    simp only[A9,decide_eq_true_eq,i6]at h1
    cases h2
    obtain⟨h3,h4⟩:=h1
    exact⟨[_],rfl,by rw[<-h3],h4⟩
   all_goals cases h
|np=>
  intro lv c cs r hc _ h
  cases cs with
 |nil=>cases h
 |cons x cs=>
   cases x
   case pointer a=>
    cases a
    ·simp only[j9]at h;cases h;exact⟨[_],rfl,rfl⟩
    cases h
   all_goals cases h
|uk n=>
  intro lv c cs r hc _ h
  cases cs with
 |nil=>cases h
 |cons x cs=>
   cases x
   case map a=>
    cases a
    ·simp only[j9]at h
     obtain⟨h1,h2⟩:=M7 h (by simp)
     cases h2
     have:=A5 h1
     subst this
     exact⟨[_],rfl,rfl,fun x hx=>by simp at hx;subst hx;rfl⟩
    cases h
   all_goals cases h
|bl t l=>
  intro lv c cs r hc _ h
  cases cs with
 |nil=>cases h
 |cons x cs=>
   cases x
   case slice a m k=>
    cases a<;>cases m<;>cases k<;>first|(cases h;done)|skip
    simp only[j9]at h
    obtain⟨h1,h2⟩:=M7 h (by simp)
    simp only[A9,List.isEmpty_iff]at h1
    cases h2
    obtain⟨h3,rfl⟩:=h1
    rw[A5 h3]
    exact⟨[_],rfl,FP hc _ _⟩
   all_goals cases h
|sl t z n g=>
  intro lv c cs r hc _ h
  cases cs with
 |nil=>cases h
 |cons x cs=>
   cases x
   case slice a m k=>
    cases a<;>cases m<;>cases k<;>first|(cases h;done)|skip
    simp only[j9]at h
    obtain⟨h1,h2⟩:=M7 h (by simp)
    simp only[A9,A8]at h1
    cases h2
    rw[A5 h1.1.1,A5 h1.1.2]
    exact⟨[_],rfl,h1.2,FP hc _ _⟩
   all_goals cases h
|bs n l=>
  intro lv c cs r hc _ h
  simp only[j9]at h
  obtain⟨h1,h2⟩:=M7 h (by simp)
  cases h2
  rw[A9]at h1
  have hl:=A5 h1.1
  obtain⟨r,rfl⟩:=SG h1.2
  refine⟨l.map E9,?_,hl,rfl⟩
  rw[<-hl, <-J7 (f:=E9),List.drop_left]
|st n g ih=>
  intro lv c cs r hc hm h
  exact LJ (fun k cs r hk hh=>ih k hc (x5 hm k hk) hh) h
|ar z n g ih=>
  intro lv c cs r hc hm h
  simp only[j9]at h
  obtain⟨h1,h2⟩:=M7 h (by simp)
  have dI:=x5 h1
  simp only[A9]at dI
  obtain⟨a,rfl,ha⟩:=LJ (R:=fun k=>rep X (g k) [] 2) (fun k cs r hk hh=>ih k (lv:=[]) (B2 2) (dI k hk).2 hh) h2
  obtain⟨q1,q2⟩:=Iu (z:=z) ha fun k cs hk hr=>by rw[X3 (dI k hk).2 hr];exact A5 (dI k hk).1
  exact⟨a,rfl,q1,fun k hk=>⟨q2 k hk,(dI k hk).2⟩⟩
|_=>intro lv c cs r hc hm h;cases h
theorem LM(hc:2<=c){v:V} :FH v cs=.un\/(FH v cs=v/\v.mem=true/\rep X v lv c cs):=by
 unfold FH
 cases hm:v.mem
 ·exact .inl rfl
 simp only[cond_true]
 cases h:j9 v cs with
 |none=>exact .inl rfl
 |some r=>
  cases r with
 |cons=>exact .inl rfl
 |nil=>
   obtain⟨a,h1,h2⟩:=SH (X:=X) (lv:=lv) hc hm h
   rw[Z5]at h1;subst h1
   exact .inr ⟨rfl,zT,h2⟩
theorem LN(hc:2<=c)(v:V)(C:Array Value):repv X lv c (tB v C.toList) (.agg C):=by
 cases v
 case st n g=>rcases LM (X:=X) (lv:=lv) hc (v:=.st n g) (cs:=C.toList) with h|⟨h1,_,h2⟩<;>simp only[tB]<;>first|(rw[h];trivial)|(rw[h1];exact⟨C,rfl,h2⟩)
 case ar z n g=>rcases LM (X:=X) (lv:=lv) hc (v:=.ar z n g) (cs:=C.toList) with h|⟨h1,_,h2⟩<;>simp only[tB]<;>first|(rw[h];trivial)|(rw[h1];exact⟨C,rfl,h2⟩)
 case bs n l=>rcases LM (X:=X) (lv:=lv) hc (v:=.bs n l) (cs:=C.toList) with h|⟨h1,_,h2⟩<;>simp only[tB]<;>first|(rw[h];trivial)|(rw[h1];exact⟨C,rfl,h2⟩)
 all_goals trivial
theorem Iv(hc:2<=c)(t:TypeId):repv X lv c (AV P t) (.slice none 0 0):=by
 unfold AV
 split
 ·rename_i e _
  cases dW P e
  ·cases hz:blt 0 (mO P e)
   ·trivial
   rw[A8]at hz
   exact⟨hz,FP hc _ _⟩
  exact FP hc _ _
 trivial
theorem Iw(hc:2<=c)(t:TypeId)(x:Value):repv X lv c (xJ P t x) x:=by
 cases x
 case int k n=>
  simp only[xJ]
  cases h:decide (k.wrap n=n)
  ·trivial
  exact⟨rfl,of_decide_eq_true h⟩
 case bool=>exact rfl
 case string s=>
  simp only[xJ]
  cases h:Nat.ble s.data.toList.length maxLen
  ·trivial
  rw[i6]at h;exact⟨rfl,h⟩
 case pointer a=>
  cases a
  ·exact rfl
  exact⟨rfl,rfl⟩
 case slice a l k=>
  cases a<;>cases l<;>cases k<;>first|exact⟨rfl,rfl⟩|exact Iv hc t
 case agg C=>
  simp only[xJ]
  split
  ·rename_i k e _
   cases dW P e
   ·exact LN hc (zv P 9 t) C
   exact LN hc (.bs k (LF C.toList)) C
  exact LN hc _ C
 case tuple=>trivial
 case func f a b=>
  cases f
  case func f=>
   simp only[xJ]
   cases h:(a.isEmpty&&b.isEmpty)
   ·trivial
   rw[A9,Array.isEmpty_iff,Array.isEmpty_iff]at h
   obtain⟨rfl,rfl⟩:=h
   exact⟨[],rfl,rfl,fun k hk=>by omega⟩
  all_goals exact⟨rfl,rfl⟩
 all_goals exact⟨rfl,rfl⟩
def FrR(X:Cx)(lv:List Nat)(c n:Nat)(σ:Fr)(τ:Nat->Value):Prop:=∀s,repv X lv c (σ s) (ev n τ (.tmp s))
variable {n:Nat} {σ:Fr}
theorem SI{v:V}(h:repv X lv c v x):repv X lv c v.ul x:=by
 cases v
 case lb l=>obtain⟨_,a,cap,h1,h2,h3,h4,h5,h6⟩:=h;exact⟨a,cap,h1,h2,h3,h4,h5,h6.imp id fun⟨b,o,q1,q2,q3⟩=>⟨b,o,q1,q2.2.2,q3⟩⟩
 all_goals exact h
theorem B5(hc:2<=c)(hF:FrR X lv c n σ τ)(t:TypeId)(x:Operand):repv X lv c (av P σ t x) (ev n τ x):=by
 cases x
 case tmp d=>exact SI (hF d)
 case const x=>exact Iw hc t x
 case global=>trivial
 case func f=>exact⟨[],rfl,rfl,fun k hk=>by omega⟩
theorem FrR.mono(hl:X.le X' lv lv' c)(hc:c<=c')(hF:FrR X lv c n σ τ):FrR X' lv' c' n σ τ:=fun s=>(hF s).mono hl hc
theorem FrR.put(hF:FrR X lv c n σ τ){d:Nat}(hd:d<n){v:V}(hv:repv X lv c v x):FrR X lv c n (cS σ d v) (up τ d x):=by
 intro s
 have:=hF s
 simp only[ev,cS,up]at this ⊢
 cases hb:beq s d
 ·exact this
 have e:=A5 hb
 subst e
 have:blt s n=true:=by rw[A8];exact hd
 rw[this];exact hv
theorem M0{k:IntKind}{a:Int}(h:repv X lv c (.i k a) x):x=.int k a/\k.wrap a=a:=by
 obtain⟨h1,h2⟩:=h
 exact⟨by simpa using h1,h2⟩
theorem pP{p:Bool}(h:repv X lv c (.b p) x):x=.bool p:=by
 have:[x]=[Value.bool p]:=h
 simpa using this
theorem Ix{p:Bool}(h:repv X lv c (.bc p) x):x=.bool p:=by
 have:[x]=[Value.bool p]:=h
 simpa using this
theorem gP{l:List UInt8}(h:repv X lv c (.s l) x):x=.string ⟨l.toArray⟩/\l.length<=maxLen:=by
 obtain⟨h1,h2⟩:=h
 exact⟨by simpa using h1,h2⟩
theorem SJ(h:repv X lv c .np x):x=.pointer none:=by
 have:[x]=[Value.pointer none]:=h
 simpa using this
theorem gQ{p:List Stp}(h:repv X lv c (.pr r j p) x):∃b o N,X.ρ r j=some (b,o,N)/\x=.pointer (some (ad b (o+B9 p)))/\∀y∈p,y.ok:=by
 obtain⟨_,b,o,N,h1,h2,h3⟩:=h
 exact⟨b,o,N,h1,by simpa using h2,h3⟩
theorem FQ{v:V}(h:repv X lv c (.pz v) x):∃b o es,x=.pointer (some (ad b o))/\rep X v [] 2 es/\0<es.length/\FzAt X.G b o es:=by
 obtain⟨b,o,es,h1,h2,h3,h4⟩:=h
 exact⟨b,o,es,by simpa using h1,h2,h3,h4⟩
theorem xQ{v:V}{p:Bool}(h:repv X lv c v x)(hp:pN v=some p):x=.bool p:=by
 cases v<;>simp only[pN,F2,reduceCtorEq]at hp
 ·subst hp;exact pP h
 subst hp;exact Ix h
theorem jJ{v:V}(h:repv X lv c v x):repv X lv c v.nb x:=by
 cases v<;>exact h
end
def Good(P:Program)(X0 X:Cx)(h:Nat->Nat->V)(lv:List Nat)(nm n:Nat)(τ:Nat->Value)(w0 w:World)(ty:TypeId)(op:Op)(v:V)(h':Nat->Nat->V)(lv':List Nat):Prop:=
 ∃X' w' rv,(∀(d:Nat) (pos:String) (aft:Array Edge) (g:Option (Nat×Bool)),(execOp (ev n τ) ⟨some d,op,ty,pos,aft,g⟩).run P w=.ok (.value rv) w')/\X.le X' lv lv' nm/\Wd X0 X' h' lv' (nm+64) w0 w'/\repv X' lv' (nm+64) v rv/\Yle (C8 X w) (C8 X' w')/\
  (tH P op=true->w'=w/\(∀b i,C8 X' w b i=C8 X w b i)/\∀u,Sy (C8 X w) u->∀(d:Nat) (pos:String) (aft:Array Edge) (g:Option (Nat×Bool)),(execOp (ev n τ) ⟨some d,op,ty,pos,aft,g⟩).run P u=.ok (.value rv) u)
section
variable {nm n:Nat} {σ:Fr} {ty t:TypeId} {x y:Operand}
theorem G0(H:Wd X0 X h lv nm w0 w){op:Op}{v:V}{rv:Value}(hr:∀u,Sy (C8 X w) u->∀(d:Nat) (pos:String) (aft:Array Edge) (g:Option (Nat×Bool)),(execOp (ev n τ) ⟨some d,op,ty,pos,aft,g⟩).run P u=.ok (.value rv) u)(hv:repv X lv nm v rv):
  Good P X0 X h lv nm n τ w0 w ty op v h lv:=⟨X,w,rv,hr w H.sy,Cx.le.rfl' X lv nm,H.up zO,hv.mono (Cx.le.rfl' X lv nm) zO,fun _ _ _ h=>h,fun _=>⟨rfl,fun _ _=>rfl,hr⟩⟩
theorem Good.nz{op:Op}{v:V}(H:Good P X0 X h lv nm n τ w0 w ty op v h' lv'):Good P X0 X h lv nm n τ w0 w ty op v.nz h' lv':=by
 obtain⟨X',w',rv,g1,g2,g3,g4,g5⟩:=H
 exact⟨X',w',rv,g1,g2,g3,FF g4,g5⟩
theorem Iy(H:Wd X0 X h lv nm w0 w)(hF:FrR X lv nm n σ τ):Good P X0 X h lv nm n τ w0 w ty (.move x) (av P σ ty x) h lv:=G0 H (fun _ _ _ _ _ _=>L4) (B5 H.c2 hF ty x)
theorem Iz(H:Wd X0 X h lv nm w0 w)(hF:FrR X lv nm n σ τ):Good P X0 X h lv nm n τ w0 w ty (.assign x) (av P σ ty x) h lv:=G0 H (fun _ _ _ _ _ _=>eT) (B5 H.c2 hF ty x)
theorem Ja(H:Wd X0 X h lv nm w0 w)(hF:FrR X lv nm n σ τ){p:List Stp}(hx:av P σ 0 x=.pr r j p):Good P X0 X h lv nm n τ w0 w ty (.nilCheck x) (.pr r j p) h lv:=by
 have hv:=B5 (P:=P) H.c2 hF 0 x
 rw[hx]at hv
 obtain⟨b,o,N,h1,h2,h3⟩:=gQ hv
 exact G0 H (fun _ _ _ _ _ _=>kN h2) (h2▸hv)
theorem Jb(H:Wd X0 X h lv nm w0 w)(hF:FrR X lv nm n σ τ){v:V}(hx:av P σ 0 x=.pz v):Good P X0 X h lv nm n τ w0 w ty (.nilCheck x) (.pz v) h lv:=by
 have hv:=B5 (P:=P) H.c2 hF 0 x
 rw[hx]at hv
 obtain⟨b,o,es,h1,_⟩:=FQ hv
 exact G0 H (fun _ _ _ _ _ _=>kN h1) (h1▸hv)
theorem SK(H:Wd X0 X h lv nm w0 w)(hF:FrR X lv nm n σ τ){p:Bool}(hx:pN (av P σ t x)=some p):Good P X0 X h lv nm n τ w0 w ty (.unOp .not t x) (.b (!p)) h lv:=
 G0 H (fun _ _ _ _ _ _=>AF (xQ (B5 H.c2 hF t x) hx)) rfl
theorem LO(H:Wd X0 X h lv nm w0 w)(hF:FrR X lv nm n σ τ){c a b:Operand}{p:Bool}{v:V}(hc:pN (av P σ 0 c)=some p)(hv:∀z,(p=true->z=ev n τ a)->(p=false->z=ev n τ b)->repv X lv nm v z):
  Good P X0 X h lv nm n τ w0 w ty (.pick c a b) v h lv:=by
 refine G0 H (fun _ _ _ _ _ _=>wY (xQ (B5 H.c2 hF 0 c) hc)) (hv _ ?_ ?_)<;>intro hp<;>subst hp<;>rfl
theorem Jc(H:Wd X0 X h lv nm w0 w)(hF:FrR X lv nm n σ τ){g:Nat->V}(hx:av P σ 0 x=.tu m g)(hi:i<m):Good P X0 X h lv nm n τ w0 w ty (.extract x i) (g i) h lv:=by
 have hv:=B5 (P:=P) H.c2 hF 0 x
 rw[hx]at hv
 obtain⟨C,h1,h2,h3⟩:=hv
 obtain⟨y,q1,q2⟩:=h3 i hi
 exact G0 H (fun _ _ _ _ _ _=>cO h1 q1) q2
theorem Jd{v:V}{x:Value}(hc:tG v=true)(h:repv X lv nm v x):rep X v lv nm [x]:=by
 cases v<;>first|exact h|cases hc
theorem SL(H:Wd X0 X h lv nm w0 w)(hF:FrR X lv nm n σ τ):∀{cs:List Operand} {l:List V},AX P σ cs=some l->cs.length=l.length/\∀k,k<l.length->∃x,(cs.map (ev n τ))[k]? =some x/\rep X (l.getD k .un) lv nm [x]
|[],l,hc=>by cases hc;exact⟨rfl,fun k hk=>by simp at hk⟩
|x::r,l,hc=>by
  simp only[AX]at hc
  split at hc
  ·rename_i l' h1 h2
   cases hc
   obtain⟨q1,q2⟩:=SL H hF h2
   refine⟨by simp[q1],fun k hk=>?_⟩
   cases k with
  |zero=>exact⟨_,rfl,Jd h1 (jJ (B5 H.c2 hF 0 x))⟩
  |succ k=>obtain⟨y,y1,y2⟩:=q2 k (by simpa using hk);exact⟨y,by simpa using y1,by simpa using y2⟩
  cases hc
theorem Je(H:Wd X0 X h lv nm w0 w)(hF:FrR X lv nm n σ τ){f:FuncId}{cs:Array Operand}{l:List V}(hc:AX P σ cs.toList=some l):Good P X0 X h lv nm n τ w0 w ty (.makeFunc (.func f) #[] cs) (.fn f l.length fun k=>l.getD k .un) h lv:=by
 obtain⟨q1,q2⟩:=SL H hF hc
 refine G0 H (rv:=.func (.func f) #[] (cs.toList.map (ev n τ)).toArray) (fun u _ d pos aft g=>?_) ⟨_,rfl,by simpa using q1,q2⟩;have ea:cs.map (ev n τ)=(cs.toList.map (ev n τ)).toArray:=by apply U2;simp
 simp[execOp,Instr.makeFunc,ea]
theorem mQ(k:IntKind)(a:Int):k.wrap (k.wrap a)=k.wrap a:=by
 unfold IntKind.wrap
 cases k<;>simp[IntKind.bits,IntKind.signed]<;>omega
theorem Jf{k:IntKind}{p q:Int}(w:World):(binOp .add t (.int k p) (.int k q)).run P w=.ok (.int k (k.wrap (p+q))) w:=by simp[binOp,Op.intArith]
theorem Jg{k:IntKind}{p q:Int}(w:World):(binOp .sub t (.int k p) (.int k q)).run P w=.ok (.int k (k.wrap (p-q))) w:=by simp[binOp,Op.intArith]
theorem Jh{k:IntKind}{p q:Int}(w:World):(binOp .mul t (.int k p) (.int k q)).run P w=.ok (.int k (k.wrap (p*q))) w:=by simp[binOp,Op.intArith]
theorem Ji(H:Wd X0 X h lv nm w0 w)(hF:FrR X lv nm n σ τ){op:BinOp}{k:IntKind}{a b:Int}{v:V}(hx:av P σ t x=.i k a)(hy:av P σ t y=.i k b)(hv:bI op k a b=some v):Good P X0 X h lv nm n τ w0 w ty (.binOp op t x y yt) v h lv:=by
 have ex:=B5 (P:=P) H.c2 hF t x
 have ey:=B5 (P:=P) H.c2 hF t y
 rw[hx]at ex;rw[hy]at ey
 have e1:=(M0 ex).1
 have e2:=(M0 ey).1
 cases op<;>simp only[bI,F2,reduceCtorEq]at hv<;>subst hv
 case add=>exact G0 H (fun _ _ _ _ _ _=>D1 e1 e2 fun w=>Jf w) ⟨rfl,mQ _ _⟩
 case sub=>exact G0 H (fun _ _ _ _ _ _=>D1 e1 e2 fun w=>Jg w) ⟨rfl,mQ _ _⟩
 case mul=>exact G0 H (fun _ _ _ _ _ _=>D1 e1 e2 fun w=>Jh w) ⟨rfl,mQ _ _⟩
 case eql=>exact G0 H (fun _ _ _ _ _ _=>D1 e1 e2 fun _=>JT) rfl
 case neq=>exact G0 H (fun _ _ _ _ _ _=>D1 e1 e2 fun _=>DQ) rfl
 case lss=>exact G0 H (fun _ _ _ _ _ _=>D1 e1 e2 fun _=>aB) rfl
 case leq=>exact G0 H (fun _ _ _ _ _ _=>D1 e1 e2 fun _=>Cs) rfl
 case gtr=>exact G0 H (fun _ _ _ _ _ _=>D1 e1 e2 fun _=>zY) rfl
 case geq=>exact G0 H (fun _ _ _ _ _ _=>D1 e1 e2 fun _=>JS) rfl
theorem SM{k:IntKind}{a r:Int}(h:k.wrap a=a)(h1:0<=a->0<=r/\r<=a)(h2:a<0->a<=r/\r<=0):k.wrap r=r:=by
 unfold IntKind.wrap at h ⊢
 cases k<;>simp[IntKind.bits,IntKind.signed]at h ⊢<;>omega
theorem SN(a b:Int):(0<=a->0<=a.tmod b/\a.tmod b<=a)/\(a<0->a<=a.tmod b/\a.tmod b<=0):=by
 have key:∀a:Int,0<=a->0<=a.tmod b/\a.tmod b<=a:=fun a ha=>by
  obtain⟨n,rfl⟩:=qL ha
  have h1:=Int.tmod_nonneg b ha
  refine⟨h1,?_⟩
  have h2:((n:Int).tmod b).natAbs<=n:=by rw[Int.natAbs_tmod];exact Nat.mod_le _ _
  omega
 refine⟨key a,fun ha=>?_⟩
 have h1:=key (-a) zO
 rw[Int.neg_tmod]at h1
 omega
theorem SO(a:Int)(n:Nat):(0<=a->0<=a.fdiv (2 ^ n)/\a.fdiv (2 ^ n)<=a)/\(a<0->a<=a.fdiv (2 ^ n)/\a.fdiv (2 ^ n)<=0):=by
 have hp:(0:Int)<2 ^ n:=Int.pow_pos zO
 rw[JA a zO]
 generalize (2:Int) ^ n=d at hp ⊢
 refine⟨fun ha=>⟨Int.ediv_nonneg ha zO,Int.ediv_le_self d ha⟩,fun ha=>⟨?_,?_⟩⟩
 ·rw[Int.le_ediv_iff_mul_le hp]
  have:a*d<=a*1:=Int.mul_le_mul_of_nonpos_left zO zO
  omega
 have:=Int.ediv_neg_of_neg_of_pos ha hp;omega
theorem Jj(H:Wd X0 X h lv nm w0 w)(hF:FrR X lv nm n σ τ){op:BinOp}{k:IntKind}{a b:Int}{q:Bool}{v:V}(hx:av P σ t x=.i k a)(hy:av P σ t y=.i k' b)(hv:bX op k k' a b=some (q,true,v)):Good P X0 X h lv nm n τ w0 w ty (.binOp op t x y yt) v h lv:=by
 have ex:=B5 (P:=P) H.c2 hF t x
 have ey:=B5 (P:=P) H.c2 hF t y
 rw[hx]at ex;rw[hy]at ey
 obtain⟨e1,f1⟩:=M0 ex
 have e2:=(M0 ey).1
 cases op<;>simp only[bX]at hv<;>first|(cases hv;done)|skip
 case shl=>
  simp only[F2,G6,decide_eq_true_eq]at hv
  obtain⟨_,h0,rfl⟩:=hv
  exact G0 H (fun _ _ _ _ _ _=>oY e1 e2 (.inl rfl) fun w=>by simp[Op.shift,show ¬ b<0 by omega]) ⟨rfl,mQ _ _⟩
 case shr=>
  simp only[F2,G6,decide_eq_true_eq]at hv
  obtain⟨_,h0,rfl⟩:=hv
  exact G0 H (fun _ _ _ _ _ _=>oY e1 e2 (.inr rfl) fun w=>by simp[Op.shift,show ¬ b<0 by omega]) ⟨rfl,SM f1 (SO a _).1 (SO a _).2⟩
 all_goals
  obtain⟨hk,aP⟩:=M7 hv (by simp)
  have hk:=of_decide_eq_true hk
  clear hv
  subst hk
  have aP:=qR aP
  have h0:=congrArg (fun z=>z.2.1) aP
  have hv3:=congrArg (fun z=>z.2.2) aP
  simp only at h0 hv3
  subst hv3
 case quo=>
  have h0:b≠0:=of_decide_eq_true h0
  exact G0 H (fun _ _ _ _ _ _=>D1 e1 e2 fun w=>by simp[binOp,Op.intDiv,h0]) ⟨rfl,mQ _ _⟩
 case rem=>
  have h0:b≠0:=of_decide_eq_true h0
  exact G0 H (fun _ _ _ _ _ _=>D1 e1 e2 fun w=>by simp[binOp,Op.intDiv,h0]) ⟨rfl,SM f1 (SN a b).1 (SN a b).2⟩
 all_goals
  exact G0 H (fun _ _ _ _ _ _=>D1 e1 e2 fun w=>by simp[binOp,Op.intBits]) ⟨rfl,mQ _ _⟩
theorem Jk(H:Wd X0 X h lv nm w0 w)(hF:FrR X lv nm n σ τ){k:IntKind}{a:Int}(hx:av P σ t x=.i k a):Good P X0 X h lv nm n τ w0 w ty (.unOp .neg t x) (.i k (k.wrap (0-a))) h lv:=by
 have ex:=B5 (P:=P) H.c2 hF t x
 rw[hx]at ex
 exact G0 H (fun _ _ _ _ _ _=>KF (M0 ex).1 fun w=>by simp[Op.unary,Op.intArith]) ⟨rfl,mQ _ _⟩
theorem Jl(H:Wd X0 X h lv nm w0 w)(hF:FrR X lv nm n σ τ){k:IntKind}{a:Int}(hx:av P σ t x=.i k a):Good P X0 X h lv nm n τ w0 w ty (.unOp .xor t x) (.i k (k.wrap (ofInt k.bits (if k.signed then -1 else k.max)^^^ofInt k.bits a).toNat)) h lv:=by
 have ex:=B5 (P:=P) H.c2 hF t x
 rw[hx]at ex
 exact G0 H (fun _ _ _ _ _ _=>KF (M0 ex).1 fun w=>by simp[Op.unary,Op.intBits]) ⟨rfl,mQ _ _⟩
theorem Jm(b:ByteArray):∀(k i:Nat) (r:List UInt8),b.size-i=k->ByteArray.toList.loop b i r=r.reverse++b.data.toList.drop i:=by
 intro k
 induction k with
|zero=>
  intro i r h
  have hd:b.data.toList.drop i=[]:=List.drop_of_length_le (by have:b.data.toList.length=b.size:=rfl;omega)
  rw[ByteArray.toList.loop,if_neg zO,hd,Z5]
|succ k ih=>
  intro i r h
  have hlt:i<b.size:=by omega
  have hl:i<b.data.toList.length:=hlt
  rw[ByteArray.toList.loop,if_pos hlt,ih (i+1) _ zO,JD hl]
  have:b.get! i=b.data.toList[i]:=by
   show b.data[i]! =_
   rw[getElem!_pos b.data i hlt];rfl
  rw[this];simp
theorem LP(l:List UInt8):(⟨l.toArray⟩:ByteArray).toList=l:=by
 rw[ByteArray.toList,Jm _ _ 0 [] rfl];simp
theorem Jn(H:Wd X0 X h lv nm w0 w)(hF:FrR X lv nm n σ τ){op:BinOp}{a b:List UInt8}{v:V}(hx:av P σ t x=.s a)(hy:av P σ t y=.s b)(hv:bS op a b=some v):Good P X0 X h lv nm n τ w0 w ty (.binOp op t x y yt) v h lv:=by
 have ex:=B5 (P:=P) H.c2 hF t x
 have ey:=B5 (P:=P) H.c2 hF t y
 rw[hx]at ex;rw[hy]at ey
 have e1:=(gP ex).1
 have e2:=(gP ey).1
 have hbe:(a==b)=decide (a=b):=by rw[vA];simp
 cases op<;>simp only[bS,F2,reduceCtorEq]at hv<;>subst hv
 all_goals refine G0 H (fun _ _ _ _ _ _=>QE e1 e2 (fun w=>by simp only[Op.stringOp,LP];rfl) (by decide)) ?_
 case eql=>show [Value.bool (a==b)]=[_];rw[hbe]
 case neq=>show [Value.bool (!(a==b))]=[_];rw[hbe]
 case lss=>rfl
 case geq=>rfl
 case leq=>show [Value.bool (Op.bytesLess a b||(a==b))]=[_];rw[hbe]
 case gtr=>show [Value.bool !(Op.bytesLess a b||(a==b))]=[_];rw[hbe]
theorem Jo(H:Wd X0 X h lv nm w0 w)(hF:FrR X lv nm n σ τ){a b:List UInt8}(hx:av P σ t x=.s a)(hy:av P σ t y=.s b)(hl:a.length+b.length<=maxLen):Good P X0 X h lv nm n τ w0 w ty (.binOp .add t x y yt) (.s (a++b)) h lv:=by
 have ex:=B5 (P:=P) H.c2 hF t x
 have ey:=B5 (P:=P) H.c2 hF t y
 rw[hx]at ex;rw[hy]at ey
 have e1:=(gP ex).1
 have e2:=(gP ey).1
 refine G0 H (rv:=.string ⟨(a++b).toArray⟩) (fun _ _ _ _ _ _=>QE e1 e2 (fun w=>?_) (by decide)) ⟨rfl,by simpa using hl⟩;have hs:¬ (((ByteArray.size ⟨a.toArray⟩+ByteArray.size ⟨b.toArray⟩:Nat):Int) > i64.max):=by
  have h1:i64.max=9223372036854775807:=by decide
  have h2:maxLen=9223372036854775807:=rfl
  simp[ByteArray.size];omega
 have he:(⟨a.toArray⟩:ByteArray)++⟨b.toArray⟩=⟨(a++b).toArray⟩:=by
  apply ByteArray.ext
  simp[ByteArray.data_append]
 simp only[Op.stringOp,if_neg hs,he]
 rfl
theorem Jp(H:Wd X0 X h lv nm w0 w)(hF:FrR X lv nm n σ τ){op:BinOp}{a b:Bool}{v:V}(hu:P.underlying t=some .bool)(hx:av P σ t x=.b a)(hy:av P σ t y=.b b)(hv:bE op (a==b)=some v):Good P X0 X h lv nm n τ w0 w ty (.binOp op t x y yt) v h lv:=by
 have ex:=B5 (P:=P) H.c2 hF t x
 have ey:=B5 (P:=P) H.c2 hF t y
 rw[hx]at ex;rw[hy]at ey
 cases op<;>simp only[bE,F2,reduceCtorEq]at hv<;>subst hv
 ·exact G0 H (fun _ _ _ _ _ _=>QD hu (pP ex) (pP ey)) rfl
 exact G0 H (fun _ _ _ _ _ _=>Dv hu (pP ex) (pP ey)) rfl
end
section
variable {nm n:Nat} {σ:Fr} {ty t:TypeId} {x y:Operand}
def V.agg:V->Bool
|.st _ _|.ar _ _ _|.bs _ _=>true
|_=>false
theorem SP{v:V}{lv:List Nat}(hm:v.mem=true)(ha:v.agg=false)(ht:r9 P t v=true)(hr:rep X v lv c cs):∃x,cs=[x]:=by
 have:=X3 hm hr
 have h1:v.sz=1:=by
  cases v
  case uk n=>simp only[r9,A9]at ht;exact A5 ht.1
  all_goals first|rfl|(cases ha;done)|(cases ht;done)
 rw[h1]at this
 match cs,this with
|[x],_=>exact⟨x,rfl⟩
theorem SQ{v:V}{lv:List Nat}{x:Value}(hm:v.mem=true)(ha:v.agg=false)(hr:rep X v lv c [x]):repv X lv c v x:=by
 cases v<;>first|exact hr|(cases ha;done)|(cases hm;done)
theorem SR{v:V}{lv:List Nat}(ha:v.agg=true)(hr:rep X v lv c cs):repv X lv c v (.agg cs.toArray):=by
 cases v<;>first|exact⟨_,rfl,by simpa using hr⟩|(cases ha;done)
theorem Jq{x:Value}(h:x.oneCell'=true):x.cells= #[x]:=by cases x<;>simp_all[Value.cells,Value.oneCell']
theorem AY(H:Wd X0 X h lv nm w0 w){v:V}{x:Value}(hm:v.mem=true)(hr:repv X lv nm v x):rep X v lv nm x.cells.toList:=by
 cases ha:v.agg
 ·have K5:rep X v lv nm [x]:=by cases v<;>first|exact hr|(cases ha;done)|(cases hm;done)
  have:=r8 hm K5 x (by simp)
  rw[Jq this];exact K5
 cases v<;>first|(obtain⟨C,rfl,hC⟩:=hr;exact hC)|(cases ha;done)
theorem SS{v:V}(ha:v.agg=true)(ht:r9 P t v=true):T5 P t=some v.sz:=by
 cases v<;>first|(cases ha;done)|skip
 all_goals
  simp only[r9]at ht
  split at ht
  ·rename_i e;rw[e,A5 ht]
  cases ht
theorem ST{v:V}(ha:v.agg=false)(ht:r9 P t v=true):v.mem=true/\O5 P t=true:=by
 cases v<;>first|(cases ha;done)|skip
 all_goals (simp only[r9,A9,zM]at ht;first|exact ht|exact⟨rfl,ht.2⟩|skip)
theorem LQ{lv:List Nat}{b:Nat}{v:V}(hm:v.mem=true)(aQ:r9 P t v=true)(hr:rep X v lv c cs):
  ∃rv,(∀u:World,(∀(k:Nat) x,cs[k]? =some x->u.cell? (ad b (o+k))=some x)->(Instr.loadAt t (.pointer (some (ad b o)))).run P u=.ok rv u)/\repv X lv c v rv:=by
 cases ha:v.agg
 ·obtain⟨x,rfl⟩:=SP hm ha aQ hr
  exact⟨x,fun u dD=>sS (ST ha aQ).2 (dD 0 x rfl),SQ hm ha hr⟩
 have y7:=SS ha aQ
 have D7:=X3 hm hr
 refine⟨.agg cs.toArray,fun u dD=>?_,SR ha hr⟩
 have h1:=KA y7 u
 have h2:=mI (KB y7) u
 have h3:=run_loadCells_list (P:=P) u (ad b o) cs (fun j v hj=>by rw[iD];exact dD j v hj)
 rw[D7]at h3
 simp[Instr.loadAt,Instr.sureAddr,loadVar,h1,h2,h3]
theorem LR(H:Wd X0 X h lv nm w0 w){b:Nat}(hx:ev n τ x=.pointer (some (ad b o)))(dD:∀u,Sy (C8 X w) u->∀(k:Nat) x,cs[k]? =some x->u.cell? (ad b (o+k))=some x){v:V}(hm:v.mem=true)(aQ:r9 P t v=true)(hr:rep X v lv nm cs):
  Good P X0 X h lv nm n τ w0 w ty (.load t x) v h lv:=by
 obtain⟨rv,h1,h2⟩:=LQ (P:=P) (b:=b) (o:=o) hm aQ hr
 exact G0 H (fun u hu _ _ _ _=>by simp[execOp,hx,h1 u (dD u hu)]) h2
theorem AZ(H:Wd X0 X h lv nm w0 w){b:Nat}(hr:X.ρ r j=some (b,o,N))(hm:(H7 h r j).mem=true)(hj:j=0):∃cs,rep X (H7 h r j) lv nm cs/\(H7 h r j).mem=true/\cs.length=N/\∀u,Sy (C8 X w) u->∀(k:Nat) x,cs[k]? =some x->u.cell? (ad b (o+k))=some x:=by
 subst hj
 have:=H.rt r 0 b o N hr
 unfold H7 at hm ⊢
 cases hv:h r 0<;>rw[hv]at hm
 case un=>cases hm
 case ro v=>
  rw[hv]at this
  obtain⟨cs,h1,h2,h3,h4⟩:=this
  exact⟨cs,h1.out (fun t ht=>(H.lvc t ht).1) H.c2,h2,h3,fun u hu k x hk=>hu.fz (h4 k x hk) (r8 h2 h1 x (E3 hk))⟩
 all_goals
  rw[hv]at this
  obtain⟨cs,h1,h2,h3,h4⟩:=this
  exact⟨cs,h1,h2,h3,fun u hu k x hk=>hu.rt (h4 k x hk).1 (h4 k x hk).2.1⟩
theorem Q1(H:Wd X0 X h lv nm w0 w):∀t,t∈lv->2<=t:=fun t ht=>(H.lvc t ht).1
theorem Jr(H:Wd X0 X h lv nm w0 w)(hF:FrR X lv nm n σ τ){p:List Stp}(hx:av P σ 0 x=.pr r j p)(hk:(H7 h r j).okp p=true)(j5:(H7 h r j).mem=true)(aQ:r9 P t ((H7 h r j).get p)=true)(hj:j=0):
  Good P X0 X h lv nm n τ w0 w ty (.load t x) ((H7 h r j).get p) h lv:=by
 have hv:=B5 (P:=P) H.c2 hF 0 x
 rw[hx]at hv
 obtain⟨b,o,N,h1,h2,h3⟩:=gQ hv
 obtain⟨cs,q1,q2,q3,q4⟩:=AZ H h1 j5 hj
 obtain⟨r1,r2,r3⟩:=dS (Q1 H) H.c2 hk h3 q2 q1
 refine LR H h2 (fun u hu k x hk=>?_) r2 aQ r3
 rw[t7]at hk
 split at hk
 ·rw[Q5]at hk
  rw[O7];exact q4 u hu _ _ hk
 cases hk
theorem Js(H:Wd X0 X h lv nm w0 w)(hF:FrR X lv nm n σ τ){v:V}(hx:av P σ 0 x=.pz v)(hm:v.mem=true)(aQ:r9 P t v=true):
  Good P X0 X h lv nm n τ w0 w ty (.load t x) v h lv:=by
 have hv:=B5 (P:=P) H.c2 hF 0 x
 rw[hx]at hv
 obtain⟨b,o,es,h1,h2,h3,h4⟩:=FQ hv
 exact LR H h1 (fun u hu k x hk=>hu.fz (h4 k x hk) (r8 hm h2 x (E3 hk))) hm aQ (h2.out (Q1 H) H.c2)
def BA(P:Program)(X0 X:Cx)(lv:List Nat)(nm n:Nat)(τ:Nat->Value)(w0 w:World)(ty:TypeId)(op:Op)(h':Nat->Nat->V)(lv':List Nat):Prop:=
 ∃X' w',(∀(pos:String) (aft:Array Edge) (g:Option (Nat×Bool)),(execOp (ev n τ) ⟨none,op,ty,pos,aft,g⟩).run P w=.ok .skip w')/\X.le X' lv lv' nm/\Wd X0 X' h' lv' (nm+64) w0 w'
theorem Jt(H:Wd X0 X h lv nm w0 w)(hF:FrR X lv nm n σ τ){p:List Stp}{v:V}(hx:av P σ 0 x=.pr r j p)(hy:repv X lv nm v (ev n τ y))(wA:tD (h r j)=false)(hk:(h r j).okp p=true)(hs:(h r j).oks p v=true)(j5:(h r j).mem=true)(hm:v.mem=true)
  (hz:v.sz=((h r j).get p).sz)(hc:K2 P t=some v.sz):BA P X0 X lv nm n τ w0 w ty (.store t x y) (D9 h r j ((h r j).set p v)) lv:=by
 have hv:=B5 (P:=P) H.c2 hF 0 x
 rw[hx]at hv
 obtain⟨b,o,N,h1,h2,h3⟩:=gQ hv
 have hR:=H.rt r j b o N h1
 have oA:∃cs,rep X (h r j) lv nm cs/\(h r j).mem=true/\cs.length=N/\R4 X w r j b o cs:=by
  cases hv:h r j<;>rw[hv]at j5
  case ro v=>rw[hv]at wA;cases wA
  case un=>cases j5
  all_goals (rw[hv]at hR;exact hR)
 obtain⟨cs,q1,q2,q3,q4⟩:=oA
 have wC:=AY H hm hy
 have fT:=X3 hm wC
 have fit:=(dS (Q1 H) H.c2 hk h3 q2 q1).1
 obtain⟨s1,s2,s3⟩:=FA (Q1 H) H.c2 hk hs h3 q2 q1 hm hz wC
 have H2:=H.store h1 (off:=B9 p) (xs:=(ev n τ y).cells.toList) q4 q3 zO s2 s1
 have eO:∀k,k<(ev n τ y).cells.toList.length->X.G b (o+B9 p+k)=.rt r j (B9 p+k)/\(w.cell? (ad b (o+B9 p+k))).isSome=true/\w.frozen? (ad b (o+B9 p+k))=false:=fun k hk=>by
  obtain⟨a1,a2,a3⟩:=q4 (B9 p+k) _ (B6 zO)
  rw[O7]
  exact⟨a1,by rw[a2];rfl,a3.1⟩
 have I0:=run_storeCells_cells (P:=P) b (o+B9 p) (ev n τ y).cells.toList 0 w (fun k hk=>by simpa using (eO k hk).2.1) (fun k hk=>by simpa using (eO k hk).2.2) (fun z hz=>r8 hm wC z hz)
 simp only[t8]at I0
 have G3:(ev n τ y).cells.size=v.sz:=by rw[<-fT,u6]
 have h5:=mI hc w
 refine⟨X,_,fun _ _ _=>?_,Cx.le.rfl' X lv nm,H2.up zO⟩
 simp[execOp,h2,Instr.storeAt,Instr.sureAddr,storeVar,h5,G3,I0]
theorem LS:∀(p q:List Stp),B9 (p++q)=B9 p+B9 q
|[],q=>by simp[B9]
|x::p,q=>by simp only[v6,B9,LS p q];omega
theorem Ju(H:Wd X0 X h lv nm w0 w)(hF:FrR X lv nm n σ τ){p:List Stp}(hf:aU P t i=some k)(hx:av P σ 0 x=.pr r j p):Good P X0 X h lv nm n τ w0 w ty (.fieldAddr t x i) (.pr r j (p++[.f i k])) h lv:=by
 have hv:=B5 (P:=P) H.c2 hF 0 x
 rw[hx]at hv
 obtain⟨b,o,N,h1,h2,h3⟩:=gQ hv
 refine G0 H (fun _ _ _ _ _ _=>eW h2 hf) ⟨hv.1,b,o,N,h1,?_,fun y hy=>?_⟩
 ·rw[LS];simp only[B9,Stp.off,t8,O7]
 rcases S3.1 hy with hy|hy
 ·exact h3 y hy
 simp at hy;subst hy;trivial
theorem fF{b:Nat}(hf:FzAt X.G b o cs)(k m:Nat):FzAt X.G b (o+k) ((cs.drop k).take m):=fun i x hi=>by
 rw[t7]at hi
 split at hi
 ·rw[Q5]at hi
  rw[O7];exact hf _ _ hi
 cases hi
theorem Jv(H:Wd X0 X h lv nm w0 w)(hF:FrR X lv nm n σ τ){g:Nat->V}(hf:aU P t i=some k)(hx:av P σ 0 x=.pz (.st m g))(hk:cP g m i k=true)(hz:0<(g i).sz):Good P X0 X h lv nm n τ w0 w ty (.fieldAddr t x i) (.pz (g i)) h lv:=by
 have hv:=B5 (P:=P) H.c2 hF 0 x
 rw[hx]at hv
 obtain⟨b,o,es,h1,h2,h3,h4⟩:=FQ hv
 obtain⟨a1,a2,a3⟩:=pH hk
 obtain⟨q1,q2⟩:=pG (f:=fun k=>(g k).sz) h2 (fun k cs hk hr=>X3 (a3 k hk) hr) a1
 rw[a2]at q1 q2
 refine G0 H (fun _ _ _ _ _ _=>eW h1 hf) ⟨b,o+k,_,rfl,q2,?_,fF h4 _ _⟩
 simp;omega
theorem SU(H:Wd X0 X h lv nm w0 w)(hF:FrR X lv nm n σ τ){z:Nat}{p:List Stp}{k:IntKind}{a:Int}(ht:V0 P t=some (m,z))(hx:av P σ t x=.pr r j p)(hy:av P σ 0 y=.i k a)(h0:0<=a)(h1:a<m):
  Good P X0 X h lv nm n τ w0 w ty (.indexAddr t x y) (.pr r j (p++[.e a.toNat z m])) h lv:=by
 have hv:=B5 (P:=P) H.c2 hF t x
 have hi:=B5 (P:=P) H.c2 hF 0 y
 rw[hx]at hv;rw[hy]at hi
 obtain⟨b,o,N,e1,e2,e3⟩:=gQ hv
 refine G0 H (fun _ _ _ _ _ _=>T6 e2 (M0 hi).1 ht h0 h1) ⟨hv.1,b,o,N,e1,?_,fun y hy=>?_⟩
 ·rw[LS];simp only[B9,Stp.off,t8,O7]
 rcases S3.1 hy with hy|hy
 ·exact e3 y hy
 simp at hy;subst hy;simp only[Stp.ok];omega
theorem Y4{z:Nat}(hs:Q0 P t z=true):a7 P t=some z/\SlTy P t (D6 P t) z (V3 P (D6 P t))/\0<V3 P (D6 P t):=by
 unfold Q0 Z0 at hs
 rw[A9]at hs
 obtain⟨h1,h2⟩:=hs
 split at h1
 ·rename_i e hu
  have he:D6 P t=e:=by unfold D6;rw[hu]
  rw[he]at h2 ⊢
  split at h2
  ·rename_i i hi
   rw[A9,A9,A8]at h2
   obtain⟨⟨h3,h5⟩,h4⟩:=h2
   have h3:=A5 h3
   split at h4
   ·rename_i v hv
    have h4:=A5 h4
    refine⟨by unfold a7;rw[hu];simp[hi,h3],⟨hu,i,v,hi,hv,h3,by unfold V3;rw[hi],h4⟩,by unfold V3;rw[hi];exact h5⟩
   cases h4
  cases h2
 cases h1
theorem aD(hs:R9 P t=true):Q0 P t 1=true/\P.underlying (D6 P t)=some (.int .u8):=by
 unfold R9 dW at hs
 rw[A9]at hs
 refine⟨hs.1,?_⟩
 have:=hs.2
 split at this
 ·assumption
 cases this
theorem Jw(H:Wd X0 X h lv nm w0 w)(hF:FrR X lv nm n σ τ){l:List UInt8}{k:IntKind}{a:Int}(ht:R9 P t=true)(hx:av P σ t x=.bl q l)(hy:av P σ 0 y=.i k a)(h0:0<=a)(h1:a<l.length):
  Good P X0 X h lv nm n τ w0 w ty (.indexAddr t x y) (.pz (.i .u8 (l.getD a.toNat 0).toNat)) h lv:=by
 have hv:=B5 (P:=P) H.c2 hF t x
 have hi:=B5 (P:=P) H.c2 hF 0 y
 rw[hx]at hv;rw[hy]at hi
 obtain⟨ao,cap,e1,e2,e3,e4,e5,e6⟩:=hv
 have e1:ev n τ x=.slice ao l.length cap:=by simpa using e1
 rcases e6 with⟨e6,e7⟩|⟨b,o,e6,e7,_⟩
 ·omega
 have hl:a.toNat<l.length:=by omega
 refine G0 H (fun _ _ _ _ _ _=>EF e1 (M0 hi).1 (Y4 (aD ht).1).1 e6 h0 h1) ⟨b,o+a.toNat*1,[E9 (l.getD a.toNat 0)],rfl,⟨rfl,JW _⟩,by simp,?_⟩;intro m z hm
 cases m with
 |zero=>
  simp at hm;subst hm
  refine e7 _ _ ?_
  simp[List.getD,hl]
 |succ m=>simp at hm
theorem Jx(H:Wd X0 X h lv nm w0 w)(hF:FrR X lv nm n σ τ){z:Nat}{g:Nat->V}{k:IntKind}{a:Int}(ht:Q0 P t z=true)(hx:av P σ t x=.sl q z m g)(hy:av P σ 0 y=.i k a)(h0:0<=a)(h1:a<m):
  Good P X0 X h lv nm n τ w0 w ty (.indexAddr t x y) (.pz (g a.toNat)) h lv:=by
 have hv:=B5 (P:=P) H.c2 hF t x
 have hi:=B5 (P:=P) H.c2 hF 0 y
 rw[hx]at hv;rw[hy]at hi
 obtain⟨hz,ao,cap,e1,e2,e3,e4,e5,e6⟩:=hv
 have e1:ev n τ x=.slice ao m cap:=by simpa using e1
 rcases e6 with⟨e6,e7⟩|⟨b,o,e6,e7,_⟩
 ·omega
 obtain⟨es,f1,f2,f3,f4⟩:=e7 a.toNat zO
 exact G0 H (fun _ _ _ _ _ _=>EF e1 (M0 hi).1 (Y4 ht).1 e6 h0 h1) ⟨b,o+a.toNat*z,es,rfl,f1,zO,f4⟩
end
section
variable {nm n:Nat} {σ:Fr} {ty t:TypeId} {x y:Operand}
theorem LT(X:Cx)(b nm N:Nat):(X.own b nm N).ρ nm 0=some (b,0,N):=by simp[Cx.own]
theorem Jy(H:Wd X0 X h lv nm w0 w){v:V}(hz:zeroCells P t=some C)(hm:v.mem=true)(hr:rep X v lv nm C):Good P X0 X h lv nm n τ w0 w ty (.alloc t) (.pr nm 0 []) (D9 h nm 0 v) lv:=by
 obtain⟨z,rE,jY⟩:=PT hz w
 refine⟨_,_,.pointer (some (ad w.heap.size 0)),fun _ _ _ _=>?_,H.own_le (B2 nm),(H.own (B2 nm) hm hr t).up zO,⟨⟨H.c2,zO⟩,w.heap.size,0,C.length,LT ..,rfl,fun _ h=>by simp at h⟩,H.own_y _ _ _,fun h=>(by cases h)⟩
 simp[execOp,Instr.alloc,rE,newVar,newRow,jY]
theorem Jz(H:Wd X0 X h lv nm w0 w){v:V}(hm:v.mem=true)(hr:repv X lv nm v (ev n τ x)):Good P X0 X h lv nm n τ w0 w ty (.box t x) (.pr nm 0 []) (D9 h nm 0 v) lv:=by
 have hc:=AY H hm hr
 have H2:=H.own (B2 nm) hm hc t
 refine⟨_,_,.pointer (some (ad w.heap.size 0)),fun _ _ _ _=>?_,H.own_le (B2 nm),H2.up zO,⟨⟨H.c2,zO⟩,w.heap.size,0,_,LT ..,rfl,fun _ h=>by simp at h⟩,H.own_y _ _ _,fun h=>(by cases h)⟩
 simp[execOp,Instr.box,newVar,newRow]
theorem SlR.sub{q' l z:Nat}{W W':Nat->Nat->Prop}{a:Option Addr}(B1:N<=cap)(N2:cap<=maxLen)(hc:q<c)(hfull:q=1->cap=N)
  (kC:((a=none\/q=0)/\cap=0)\/∃b o,a=some ⟨b,o,none⟩/\W b o/\(q∈lv->∀i,N*z<=i->i<cap*z->G b (o+i)=.tp q))(hlm:l+m<=N)(hq:q'=0\/q'=q/\l+m=N)(wD:∀t,t∈lv->2<=t)(W4:2<=c)
  (hW:∀b o,W b o->W' b (o+l*z))(hW0:∀b o,m=0->W' b o):SlR G lv c q' m z W' [.slice (sa a l cap z) m (cap-l)]:=by
 refine⟨sa a l cap z,cap-l,rfl,zO,zO,?_,?_,?_⟩
 ·rcases hq with rfl|⟨rfl,_⟩<;>omega
 ·intro h1
  rcases hq with rfl|⟨rfl,h2⟩
  ·cases h1
  have:=hfull h1;omega
 rcases kC with⟨h0,rfl⟩|⟨b,o,rfl,h1,h2⟩
 ·left;constructor
  ·rcases h0 with rfl|rfl
   ·left;unfold sa;split<;>rfl
   right;rcases hq with h|h;exact h;exact h.1
  omega
 right
 unfold sa
 split
 ·rename_i e
  refine⟨b,o,rfl,hW0 b o zO,fun _ i hi G9=>?_⟩
  have:cap-l=0:=by omega
  rw[this]at G9;omega
 refine⟨b,o+l*z,by simp[iD],hW b o h1,fun ht i hi G9=>?_⟩
 rcases hq with rfl|⟨rfl,h3⟩
 ·have:=wD 0 ht;omega
 have e1:N*z=l*z+m*z:=by rw[<-U3,h3]
 have e2:(cap-l)*z=cap*z-l*z:=nN ..
 rw[O7]
 exact h2 ht (l*z+i) zO zO
structure Cut (P:Program) (τ:Nat->Value) (n:Nat) (lo hi:Option Operand) (N l m:Nat):Prop where
 ok:∀(s:Bool) (cap:Nat) (w:World),N<=cap->(Instr.sliceBounds s N cap (lo.map (ev n τ)) (hi.map (ev n τ)) none).run P w=.ok (l,l+m,cap) w
 le:l+m<=N
theorem Ka(H:Wd X0 X h lv nm w0 w)(hF:FrR X lv nm n σ τ){lo:Option Operand}{a:Int}(hl:tF (lo.map (av P σ 0))=some a)(h0:0<=a)(h1:a<=N):Cut P τ n lo none N a.toNat (N-a.toNat):=by
 refine⟨fun s cap w hN=>?_,zO⟩
 cases lo with
|none=>
  simp only[Option.map_none,tF,F2]at hl
  subst hl
  simpa using EC w
|some y=>
  have hv:=B5 (P:=P) H.c2 hF 0 y
  simp only[X8,Option.map_none]at hl ⊢
  cases hy:av P σ 0 y<;>rw[hy]at hl hv<;>simp only[tF,F2,reduceCtorEq]at hl
  subst hl
  rw[(M0 hv).1,EB h0 h1 w]
  congr 3;omega
theorem Kb(H:Wd X0 X h lv nm w0 w)(hF:FrR X lv nm n σ τ){lo:Option Operand}{y:Operand}{k:IntKind}{a b:Int}(hl:tF (lo.map (av P σ 0))=some a)(hy:av P σ 0 y=.i k b)(h0:0<=a)(h1:a<=b)(h2:b<=N):Cut P τ n lo (some y) N a.toNat (b.toNat-a.toNat):=by
 have hv:=B5 (P:=P) H.c2 hF 0 y
 rw[hy]at hv
 have e1:=(M0 hv).1
 refine⟨fun s cap w hN=>?_,zO⟩
 cases lo with
|none=>
  simp only[Option.map_none,tF,F2]at hl
  subst hl
  simp only[X8,Option.map_none,e1]
  rw[PV zO zO w]
  congr 3;simp
|some z=>
  have hv:=B5 (P:=P) H.c2 hF 0 z
  simp only[X8]at hl ⊢
  cases hz:av P σ 0 z<;>rw[hz]at hl hv<;>simp only[tF,F2,reduceCtorEq]at hl
  subst hl
  rw[(M0 hv).1,e1,Dk h0 h1 zO w]
  congr 3;omega
theorem Kc(H:Wd X0 X h lv nm w0 w)(hF:FrR X lv nm n σ τ){lo:Option Operand}{q':Nat}{l:List UInt8}(ht:R9 P t=true)(hx:av P σ t x=.bl q l)(hc:Cut P τ n lo hi l.length k m)(hq:q'=0\/q'=q/\k+m=l.length):
  Good P X0 X h lv nm n τ w0 w ty (.slice t x lo hi none) (.bl q' ((l.drop k).take m)) h lv:=by
 have hv:=B5 (P:=P) H.c2 hF t x
 rw[hx]at hv
 obtain⟨a,cap,e1,e2,e3,e4,e5,e6⟩:=hv
 have e1:ev n τ x=.slice a l.length cap:=by simpa using e1
 have D7:((l.drop k).take m).length=m:=by have:=hc.le;simp;omega
 refine G0 H (fun _ _ _ _ _ _=>KH e1 (Y4 (aD ht).1).1 rfl rfl rfl fun w=>hc.ok true cap w e2) ?_;have:=SlR.sub (lv:=lv) (z:=1) (W':=fun b o=>FzAt X.G b o (((l.drop k).take m).map E9)) e2 e3 e4 e5 e6 hc.le hq (Q1 H) H.c2 (fun b o hw=>by
  rw[l5]
  have:=fF hw k m
  rwa [<-List.map_drop, <-vC]at this) (fun b o h0=>by subst h0;intro i x hi;simp at hi)
 show SlR X.G lv nm q' ((l.drop k).take m).length 1 _ _
 rw[D7]
 rw[show k+m-k=m by omega]
 exact this
theorem Kd(H:Wd X0 X h lv nm w0 w)(hF:FrR X lv nm n σ τ){lo:Option Operand}{q' z:Nat}{g:Nat->V}(ht:Q0 P t z=true)(hx:av P σ t x=.sl q z N g)(hc:Cut P τ n lo hi N k m)(hq:q'=0\/q'=q/\k+m=N):
  Good P X0 X h lv nm n τ w0 w ty (.slice t x lo hi none) (.sl q' z m fun i=>g (k+i)) h lv:=by
 have hv:=B5 (P:=P) H.c2 hF t x
 rw[hx]at hv
 obtain⟨hz,a,cap,e1,e2,e3,e4,e5,e6⟩:=hv
 have e1:ev n τ x=.slice a N cap:=by simpa using e1
 refine G0 H (fun _ _ _ _ _ _=>KH e1 (Y4 ht).1 rfl rfl rfl fun w=>hc.ok true cap w e2) ⟨hz,?_⟩;have:=SlR.sub (lv:=lv) (z:=z) (W':=fun b o=>∀i,i<m->∃es,rep X (g (k+i)) [] 2 es/\es.length=z/\(g (k+i)).mem=true/\FzAt X.G b (o+i*z) es) e2 e3 e4 e5 e6 hc.le hq (Q1 H) H.c2 (fun b o hw i hi=>by
  have:=hw (k+i) (by have:=hc.le;omega)
  rwa [U3, <-O7]at this) (fun b o h0 i hi=>by omega)
 rw[show k+m-k=m by omega]
 exact this
theorem Ke(H:Wd X0 X h lv nm w0 w)(hF:FrR X lv nm n σ τ){lo:Option Operand}{l:List UInt8}(ht:Y3 P t=true)(hx:av P σ t x=.s l)(hc:Cut P τ n lo hi l.length k m):
  Good P X0 X h lv nm n τ w0 w ty (.slice t x lo hi none) (.s ((l.drop k).take m)) h lv:=by
 have hv:=B5 (P:=P) H.c2 hF t x
 rw[hx]at hv
 obtain⟨e1,e2⟩:=gP hv
 have hu:P.underlying t=some .string:=by
  unfold Y3 at ht;split at ht
  ·assumption
  cases ht
 have B1:=hc.le
 refine G0 H (rv:=.string ⟨((l.drop k).take m).toArray⟩) (fun w _ _ _ _ _=>?_) ⟨rfl,by simp;omega⟩;have hs:(⟨l.toArray⟩:ByteArray).size=l.length:=rfl
 have:=Dx (P:=P) (ty:=ty) (d:=0) (pos:= "") (aft:= #[]) (g:=none) (w:=w) hu e1 rfl rfl (fun w=>by rw[hs];exact hc.ok false l.length w (B2 _))
 have e3:ByteArray.extract ⟨l.toArray⟩ k (k+m)=⟨((l.drop k).take m).toArray⟩:=by
  apply ByteArray.ext
  rw[ByteArray.data_extract]
  apply U2
  simp[List.drop_take]
 rw[e3]at this
 exact this
theorem Kf(H:Wd X0 X h lv nm w0 w)(hF:FrR X lv nm n σ τ){dst:TypeId}{k:IntKind}{a:Int}{ds:TypeDesc}(hs:P.underlying t=some ds)(hd:P.underlying dst=some (.int k'))(hx:av P σ t x=.i k a):
  Good P X0 X h lv nm n τ w0 w ty (.convert t dst x) (.i k' (k'.wrap a)) h lv:=by
 have hv:=B5 (P:=P) H.c2 hF t x
 rw[hx]at hv
 exact G0 H (fun _ _ _ _ _ _=>iZ hs hd (M0 hv).1 rfl) ⟨rfl,mQ _ _⟩
theorem tJ(ht:Y3 P t=true):P.underlying t=some .string:=by
 unfold Y3 at ht;split at ht
 ·assumption
 cases ht
theorem Kg(H:Wd X0 X h lv nm w0 w)(hF:FrR X lv nm n σ τ){dst:TypeId}{l:List UInt8}(hs:R9 P t=true)(hd:Y3 P dst=true)(hx:av P σ t x=.bl q l):
  Good P X0 X h lv nm n τ w0 w ty (.convert t dst x) (.s l) h lv:=by
 have hv:=B5 (P:=P) H.c2 hF t x
 rw[hx]at hv
 obtain⟨a,cap,e1,e2,e3,e4,e5,e6⟩:=hv
 have e1:ev n τ x=.slice a l.length cap:=by simpa using e1
 have iN:∀u,Sy (C8 X w) u->RdS u a (l.map V8):=fun u hu=>by
  rcases e6 with⟨h1,h2⟩|⟨b,o,rfl,hw,_⟩
  ·have:l=[]:=l4.1 zO
   subst this;exact .inl rfl
  exact hu.rd (xD _) hw
 exact G0 H (fun u hu _ _ _ _=>Eb (Y4 (aD hs).1).2.1.und (aD hs).2 (tJ hd) e1 (iN u hu) rfl) ⟨rfl,zO⟩
theorem Kh(H:Wd X0 X h lv nm w0 w)(hF:FrR X lv nm n σ τ){dst:TypeId}{l:List UInt8}(hs:Y3 P t=true)(hd:Y3 P dst=true)(hx:av P σ t x=.s l):
  Good P X0 X h lv nm n τ w0 w ty (.convert t dst x) (.s l) h lv:=by
 have hv:=B5 (P:=P) H.c2 hF t x
 rw[hx]at hv
 have e1:=(gP hv).1
 refine G0 H (fun _ _ _ _ _ _=>?_) hv
 simp[execOp,e1,convert,run_underlying (tJ hs),run_underlying (tJ hd)]
theorem Ki(h:R9 P t=true):Z0 P t=true:=by
 unfold R9 Q0 at h
 simp only[A9]at h
 exact h.1.1
theorem Kj(H:Wd X0 X h lv nm w0 w)(hF:FrR X lv nm n σ τ){dst:TypeId}{l:List UInt8}(hs:Y3 P t=true)(hd:R9 P dst=true)(hx:av P σ t x=.s l):
  Good P X0 X h lv nm n τ w0 w ty (.convert t dst x) (.bl nm l) h (nm::lv):=by
 have hv:=B5 (P:=P) H.c2 hF t x
 rw[hx]at hv
 obtain⟨e1,e2⟩:=gP hv
 have hr:=run_bytes_of_string (P:=P) w t dst _ ⟨l.toArray⟩ (tJ hs) (Y4 (aD hd).1).2.1.und (aD hd).2
 have G3:(⟨l.toArray⟩:ByteArray).size=l.length:=rfl
 have U6:=grownCap_ge w l.length 0 (D6 P dst)
 have w3:grownCap w l.length 0 (D6 P dst)<=maxLen:=grownCap_le_maxLen w l.length 0 _ e2
 rw[G3]at hr
 generalize v8:grownCap w l.length 0 (D6 P dst)=cap at hr U6 w3
 have rK:(bytesRow ⟨l.toArray⟩ cap).size=cap:=by
  simp only[bytesRow,zQ,Array.size_map,Array.size_replicate,G3]
  have h1:(⟨l.toArray⟩:ByteArray).data.size=l.toArray.size:=rfl
  have h2:l.toArray.size=l.length:=by simp
  omega
 let f:Nat->Ow:=fun i=>if i<l.length then .fz (E9 (l.getD i 0)) else if i<cap then .tp nm else .no
 have rel:X.le X lv (nm::lv) nm/\Wd X0 X h (nm::lv) (nm+1) w0 w:=H.relv zO (fun t' ht' hlt=>by
   rcases K8.1 ht' with rfl|ht'
   ·omega
   ·exact ht') (fun t' ht'=>by
   rcases K8.1 ht' with rfl|ht'
   ·have:=H.c2;omega
   have:=H.lvc t' ht';omega)
 have H2:=rel.2.drew.new (bytesRow ⟨l.toArray⟩ cap) (D6 P dst) ((bytesRow ⟨l.toArray⟩ cap).size,(bytesRow ⟨l.toArray⟩ cap).size+1) f (fun i x hx=>by
  simp only[f]at hx
  split at hx
  ·rename_i hi
   cases hx
   refine⟨?_,rfl⟩
   have:i<(⟨l.toArray⟩:ByteArray).data.size:=hi
   rw[bytesRow_at _ _ i this]
   simp[List.getD,hi]
  ·split at hx<;>cases hx) (fun i t hx=>by
  simp only[f]at hx
  split at hx
  ·cases hx
  split at hx
  ·refine⟨by rw[rK];assumption,?_⟩
   simp only[rK];omega
  cases hx) (.inr (B2 _))
 have B1:=rel.2.drew.new_le f
 refine⟨_,_,_,fun _ _ _ _=>?_,⟨fun b i x hx=>B1.fz _ _ _ hx,fun b i t' ht' hlt hx=>B1.tp _ _ _ ht' zO hx,rel.1.lv,fun _ _ _ _ _ h=>h,rfl⟩,H2.up zO,⟨some ⟨w.heap.size,0,none⟩,cap,rfl,U6,w3,zO,fun h1=>by have:=H.c2;omega,.inr ⟨_,0,rfl,fun k x hk=>?_,fun _ i hi G9=>?_⟩⟩,rel.2.drew.new_y f _,fun h=>(by simp[tH,(Ki hd)]at h)⟩
 ·simp only[execOp,D0,e1,hr,F6];rfl
 ·have hlt:=(N1.1 hk).1
  rw[J7]at hlt
  show(X.new w.drew.heap.size f).G w.heap.size (0+k)=_
  have e1:w.drew.heap.size=w.heap.size:=rfl
  simp only[Cx.new,e1,if_true,f,J5]
  rw[if_pos hlt]
  rw[Y6,B6 hlt]at hk
  simp only[X8,F2]at hk
  rw[<-hk,List.getD,B6 hlt];rfl
 show(X.new w.drew.heap.size f).G w.heap.size (0+i)=_
 have e1:w.drew.heap.size=w.heap.size:=rfl
 simp only[Cx.new,e1,if_true,f,J5]
 rw[if_neg zO,if_pos zO]
theorem BB(h:k<=maxLen):i64.wrap (k:Int)=k:=wrap_i64 zO (by have:maxLen=9223372036854775807:=rfl;omega)
theorem Kk(H:Wd X0 X h lv nm w0 w)(hF:FrR X lv nm n σ τ){l:List UInt8}(ht:Q0 P t 1=true)(hx:av P σ t x=.bl q l):Good P X0 X h lv nm n τ w0 w ty (.call ⟨.builtin .len, #[x], #[t]⟩) (.i .i64 l.length) h lv:=by
 have hv:=B5 (P:=P) H.c2 hF t x
 rw[hx]at hv
 obtain⟨a,cap,e1,e2,e3,_⟩:=hv
 have e1:ev n τ x=.slice a l.length cap:=by simpa using e1
 exact G0 H (fun _ _ _ _ _ _=>aC (Y4 ht).1 e1) ⟨rfl,BB zO⟩
theorem Kl(H:Wd X0 X h lv nm w0 w)(hF:FrR X lv nm n σ τ){z:Nat}{g:Nat->V}(ht:Q0 P t z=true)(hx:av P σ t x=.sl q z N g):Good P X0 X h lv nm n τ w0 w ty (.call ⟨.builtin .len, #[x], #[t]⟩) (.i .i64 N) h lv:=by
 have hv:=B5 (P:=P) H.c2 hF t x
 rw[hx]at hv
 obtain⟨_,a,cap,e1,e2,e3,_⟩:=hv
 have e1:ev n τ x=.slice a N cap:=by simpa using e1
 exact G0 H (fun _ _ _ _ _ _=>aC (Y4 ht).1 e1) ⟨rfl,BB zO⟩
theorem Km(H:Wd X0 X h lv nm w0 w)(hF:FrR X lv nm n σ τ){l:List UInt8}(ht:Y3 P t=true)(hx:av P σ t x=.s l):Good P X0 X h lv nm n τ w0 w ty (.call ⟨.builtin .len, #[x], #[t]⟩) (.i .i64 l.length) h lv:=by
 have hv:=B5 (P:=P) H.c2 hF t x
 rw[hx]at hv
 obtain⟨e1,e2⟩:=gP hv
 exact G0 H (fun _ _ _ _ _ _=>Dy (tJ ht) e1) ⟨rfl,BB e2⟩
theorem Kn(H:Wd X0 X h lv nm w0 w)(hF:FrR X lv nm n σ τ){k:IntKind}{a b:Int}(hx:av P σ t x=.i k a)(hy:av P σ t y=.i k b):Good P X0 X h lv nm n τ w0 w ty (.call ⟨.builtin .min, #[x,y],W0⟩) (.i k (if b<a then b else a)) h lv:=by
 have ex:=B5 (P:=P) H.c2 hF t x
 have ey:=B5 (P:=P) H.c2 hF t y
 rw[hx]at ex;rw[hy]at ey
 refine G0 H (fun _ _ _ _ _ _=>Dz (M0 ex).1 (M0 ey).1) ⟨rfl,?_⟩
 split
 ·exact(M0 ey).2
 exact(M0 ex).2
theorem Ko(H:Wd X0 X h lv nm w0 w)(hF:FrR X lv nm n σ τ){k:IntKind}{a b:Int}(hx:av P σ t x=.i k a)(hy:av P σ t y=.i k b):Good P X0 X h lv nm n τ w0 w ty (.call ⟨.builtin .max, #[x,y],W0⟩) (.i k (if a<b then b else a)) h lv:=by
 have ex:=B5 (P:=P) H.c2 hF t x
 have ey:=B5 (P:=P) H.c2 hF t y
 rw[hx]at ex;rw[hy]at ey
 refine G0 H (fun _ _ _ _ _ _=>Ea (M0 ex).1 (M0 ey).1) ⟨rfl,?_⟩
 split
 ·exact(M0 ey).2
 exact(M0 ex).2
theorem Kp(H:Wd X0 X h lv nm w0 w)(hF:FrR X lv nm n σ τ){l:List UInt8}{k:IntKind}{a:Int}(ht:Y3 P t=true)(hx:av P σ t x=.s l)(hy:av P σ 0 y=.i k a)(h0:0<=a)(h1:a<l.length):Good P X0 X h lv nm n τ w0 w ty (.index t x y) (.i .u8 (l.getD a.toNat 0).toNat) h lv:=by
 have ex:=B5 (P:=P) H.c2 hF t x
 have ey:=B5 (P:=P) H.c2 hF 0 y
 rw[hx]at ex;rw[hy]at ey
 have hl:a.toNat<l.length:=by omega
 exact G0 H (fun _ _ _ _ _ _=>Ec (tJ ht) (gP ex).1 (M0 ey).1 h0 (by simp[List.getD,hl])) ⟨rfl,JW _⟩
theorem Kq(H:Wd X0 X h lv nm w0 w)(hF:FrR X lv nm n σ τ){l:List UInt8}(hu:P.underlying t=some (.array k e))(hk:0<k)(hx:av P σ 0 x=.bl q l)(hl:k<=l.length):Good P X0 X h lv nm n τ w0 w ty (.sliceToArrayPointer t x) (.pz (.bs k (l.take k))) h lv:=by
 have hv:=B5 (P:=P) H.c2 hF 0 x
 rw[hx]at hv
 obtain⟨a,cap,e1,e2,e3,e4,e5,e6⟩:=hv
 have e1:ev n τ x=.slice a l.length cap:=by simpa using e1
 rcases e6 with⟨h1,h2⟩|⟨b,o,rfl,hw,_⟩
 ·omega
 refine G0 H (fun _ _ _ _ _ _=>Ee hu e1 hl) ⟨b,o,(l.take k).map E9,rfl,⟨by simp;omega,rfl⟩,by simp;omega,?_⟩
 intro i x hi
 rw[vC,t7]at hi
 split at hi
 ·exact hw _ _ hi
 cases hi
end
section
variable {nm n:Nat} {σ:Fr} {ty t u:TypeId} {x y:Operand}
theorem Kr{b:Nat}{a c:List Value}(ha:FzAt G b o a)(hc:FzAt G b (o+a.length) c):FzAt G b o (a++c):=fun k x hk=>by
 by_cases h:k<a.length
 ·rw[N5 h]at hk;exact ha k x hk
 rw[L7 zO]at hk
 have:=hc _ x hk
 rwa [show o+a.length+(k-a.length)=o+k by omega]at this
theorem FR{G:Nat->Nat->Ow}{b o z:Nat}{g:Nat->V}:∀{m:Nat},(∀i,i<m->∃es,rep X (g i) [] 2 es/\es.length=z/\(g i).mem=true/\FzAt G b (o+i*z) es)->
  ∃cs,cs.length=m*z/\FzAt G b o cs/\∀i,i<m->rep X (g i) [] 2 ((cs.drop (i*z)).take z)/\(g i).mem=true
|0,_=>⟨[],by simp,fun k x hk=>by simp at hk,fun i hi=>by omega⟩
|m+1,hh=>by
  obtain⟨cs,h1,h2,h3⟩:=FR (m:=m) fun i hi=>hh i zO
  obtain⟨es,q1,q2,q3,q4⟩:=hh m zO
  refine⟨cs++es,by rw[C6,h1,q2,G7],Kr h2 (by rw[h1];exact q4),fun i hi=>?_⟩
  by_cases he:i<m
  ·have:i*z+z<=m*z:=by rw[<-G7];exact G2 _ he
   rw[qO zO,lG (by simp;omega)]
   exact h3 i he
  obtain rfl:i=m:=by omega
  rw[<-h1,List.drop_left, <-q2,List.take_length]
  exact⟨q1,q3⟩
theorem pQ(ht:Z0 P t=true):∃e,P.underlying t=some (.slice e):=by
 unfold Z0 at ht;split at ht
 ·exact⟨_,by assumption⟩
 cases ht
inductive SrcB (P:Program) (n:Nat) (τ:Nat->Value) (w:World) (u:TypeId) (y:Operand) (m:List UInt8):Prop
|mk (h:Src P 1 u (ev n τ y) m.length (m.map E9) w) (hl:m.length<=maxLen)
theorem SV(H:Wd X0 X h lv nm w0 w)(hF:FrR X lv nm n σ τ){m:List UInt8}(hu:Z0 P u=true)(hy:av P σ u y=.bl q m):SrcB P n τ w u y m:=by
 have hv:=B5 (P:=P) H.c2 hF u y
 rw[hy]at hv
 obtain⟨a,cap,e1,e2,e3,e4,e5,e6⟩:=hv
 have e1:ev n τ y=.slice a m.length cap:=by simpa using e1
 obtain⟨e',hk⟩:=pQ hu
 have iN:RdS w a (m.map E9):=by
  rcases e6 with⟨h1,h2⟩|⟨b,o,rfl,hw,_⟩
  ·have:m=[]:=l4.1 zO
   subst this;exact .inl rfl
  exact H.rd (xD _) hw
 exact⟨by rw[e1];exact iN.src hk (by simp) zO (fun x hx=>by obtain⟨_,_,rfl⟩:=J6.1 hx;rfl),zO⟩
theorem Ks(H:Wd X0 X h lv nm w0 w)(hF:FrR X lv nm n σ τ){m:List UInt8}(hu:Y3 P u=true)(hy:av P σ u y=.s m):SrcB P n τ w u y m:=by
 have hv:=B5 (P:=P) H.c2 hF u y
 rw[hy]at hv
 obtain⟨e1,e2⟩:=gP hv
 have:=Src.ofString (P:=P) w (tJ hu) ⟨m.toArray⟩
 refine⟨?_,e2⟩
 rw[e1]
 have e3:byteCells ⟨m.toArray⟩=m.map E9:=by unfold byteCells;simp
 rw[e3]at this
 exact this
theorem SW(H:Wd X0 X h lv nm w0 w)(hF:FrR X lv nm n σ τ){l m:List UInt8}(ht:R9 P t=true)(hx:av P σ t x=.bl q l)(hq:q=1\/q∈lv)(hs:SrcB P n τ w u y m)(hb:(l.length+m.length)*V3 P (D6 P t)<=140737488355328):
  Good P X0 X h lv nm n τ w0 w ty (.call ⟨.builtin .append, #[x,y], #[t,u]⟩) (.bl nm (l++m)) h (nm::del lv q):=by
 have hv:=B5 (P:=P) H.c2 hF t x
 rw[hx]at hv
 obtain⟨a,cap,e1,e2,e3,e4,e5,e6⟩:=hv
 have e1:ev n τ x=.slice a l.length cap:=by simpa using e1
 obtain⟨lW,hs2⟩:=hs
 obtain⟨f1,f2,f3⟩:=Y4 (aD ht).1
 have N2:l.length+m.length<=maxLen:=by
  have:l.length+m.length<=(l.length+m.length)*V3 P (D6 P t):=vF _ f3
  have:maxLen=9223372036854775807:=rfl
  omega
 have kC:Loc X.G a l.length cap 1 (l.map E9) (· ∈ lv) q:=by
  rcases e6 with⟨h1,h2⟩|⟨b,o,h1,h2,h3⟩
  ·exact .inl ⟨h1.resolve_right fun e=>by rcases hq with h|h;omega;have:=H.lvc q h;omega,h2,by have:l=[]:=l4.1 zO;subst this;rfl⟩
  exact .inr ⟨b,o,h1,h2,h3⟩
 obtain⟨a',M5,w',X',r1,r2,r3,r4,r5,r6,r7⟩:=RQ (ty:=ty) H (B2 nm) (vG 0) (by simp) e2 e3 kC (hq.imp e5 id) f2 lW hb N2 (fun x hx=>by obtain⟨_,_,rfl⟩:=J6.1 hx;rfl) H.c2
 refine⟨X',w',.slice a' (l.length+m.length) M5,fun _ _ _ _=>cJ (s:=Builtin.append_ #[t,u] ty #[.slice a l.length cap,ev n τ y]) (vs:= #[.slice a l.length cap,ev n τ y]) (by simp[e1]) (fun _=>rfl) r1,r2,r3.up zO,?_,r7,fun h=>(by cases h)⟩
 refine⟨a',M5,by simp,by simpa using r4,r5,zO,fun h1=>by have:=H.c2;omega,?_⟩
 rcases r6 with⟨h1,h2,h3⟩|⟨b,o,h1,h2,h3⟩
 ·exact .inl ⟨.inl h1,h2⟩
 exact .inr ⟨b,o,h1,by rw[lI];exact h2,fun _ i hi G9=>h3 trivial i (by simpa using hi) G9⟩
theorem Kt(H:Wd X0 X h lv nm w0 w)(hF:FrR X lv nm n σ τ){q2 z:Nat}{g f:Nat->V}(ht:Q0 P t z=true)(hu:Z0 P u=true)(hx:av P σ t x=.sl q z N g)(hq:q=1\/q∈lv)(hy:av P σ u y=.sl q2 z M f)(hb:(N+M)*V3 P (D6 P t)<=140737488355328):
  Good P X0 X h lv nm n τ w0 w ty (.call ⟨.builtin .append, #[x,y], #[t,u]⟩) (.sl nm z (N+M) fun i=>bif blt i N then g i else f (i-N)) h (nm::del lv q):=by
 have hv:=B5 (P:=P) H.c2 hF t x
 rw[hx]at hv
 obtain⟨hz,a,cap,e1,e2,e3,e4,e5,e6⟩:=hv
 have e1:ev n τ x=.slice a N cap:=by simpa using e1
 have aP:=B5 (P:=P) H.c2 hF u y
 rw[hy]at aP
 obtain⟨_,a2,cap2,g1,g2,g3,g4,g5,g6⟩:=aP
 have g1:ev n τ y=.slice a2 M cap2:=by simpa using g1
 obtain⟨f1,f2,f3⟩:=Y4 ht
 obtain⟨e',hk⟩:=pQ hu
 have N2:N+M<=maxLen:=by
  have:N+M<=(N+M)*V3 P (D6 P t):=vF _ f3
  have:maxLen=9223372036854775807:=rfl
  omega
 have bU:∃olds:List Value,olds.length=N*z/\Loc X.G a N cap z olds (· ∈ lv) q/\(∀x∈olds,x.oneCell'=true)/\∀i,i<N->rep X (g i) [] 2 ((olds.drop (i*z)).take z)/\(g i).mem=true:=by
  rcases e6 with⟨h1,h2⟩|⟨b,o,h1,h2,h3⟩
  ·have:N=0:=by omega
   subst this
   exact⟨[],by simp,.inl ⟨h1.resolve_right fun e=>by rcases hq with h|h;omega;have:=H.lvc q h;omega,h2,rfl⟩,fun _ h=>by simp at h,fun i hi=>by omega⟩
  obtain⟨cs,q1,q2,q3⟩:=FR h2
  exact⟨cs,q1,.inr ⟨b,o,h1,q2,h3⟩,AQ q1 q3,q3⟩
 obtain⟨olds,o1,o2,o3,o4⟩:=bU
 have kE:∃news:List Value,news.length=M*z/\RdS w a2 news/\(∀x∈news,x.oneCell'=true)/\∀i,i<M->rep X (f i) [] 2 ((news.drop (i*z)).take z)/\(f i).mem=true:=by
  rcases g6 with⟨h1,h2⟩|⟨b,o,h1,h2,h3⟩
  ·have:M=0:=by omega
   subst this
   exact⟨[],by simp,.inl rfl,fun _ h=>by simp at h,fun i hi=>by omega⟩
  obtain⟨cs,q1,q2,q3⟩:=FR h2
  exact⟨cs,q1,h1▸H.rd (AQ q1 q3) q2,AQ q1 q3,q3⟩
 obtain⟨news,n1,n2,n3,n4⟩:=kE
 have hs:Src P z u (ev n τ y) M news w:=by rw[g1];exact n2.src hk n1 hz n3
 obtain⟨a',M5,w',X',r1,r2,r3,r4,r5,r6,r7⟩:=RQ (ty:=ty) H (B2 nm) hz o1 e2 e3 o2 (hq.imp e5 id) f2 hs hb N2 o3 H.c2
 refine⟨X',w',.slice a' (N+M) M5,fun _ _ _ _=>cJ (s:=Builtin.append_ #[t,u] ty #[.slice a N cap,ev n τ y]) (vs:= #[.slice a N cap,ev n τ y]) (by simp[e1]) (fun _=>rfl) r1,r2,r3.up zO,⟨hz,?_⟩,r7,fun h=>(by cases h)⟩
 refine⟨a',M5,rfl,r4,r5,zO,fun h1=>by have:=H.c2;omega,?_⟩
 rcases r6 with⟨h1,h2,h3⟩|⟨b,o,h1,h2,h3⟩
 ·exact .inl ⟨.inl h1,h2⟩
 refine .inr ⟨b,o,h1,fun i hi=>?_,fun _ i hi G9=>h3 trivial i hi G9⟩
 have lX:i*z+z<=(N+M)*z:=by rw[<-G7];exact G2 _ hi
 rw[U3]at lX
 have jZ:(olds++news).length=N*z+M*z:=by rw[C6,o1,n1]
 refine⟨((olds++news).drop (i*z)).take z,?_,by simp;omega,?_,fF h2 _ _⟩
 ·cases hb:blt i N
  ·have I2:¬ i<N:=by rw[<-A8,hb];simp
   have hNz:N*z<=i*z:=G2 _ zO
   have:=(n4 (i-N) zO).1
   rw[uZ,eK zO,Y5,o1, <-nN]
   show rep X' (bif blt i N then g i else f (i-N)) [] 2 _
   rw[hb]
   exact this.mono r2.nil (B2 _)
  have T4:=hb
  rw[A8]at hb
  have hNz:i*z+z<=N*z:=by rw[<-G7];exact G2 _ hb
  rw[qO zO,lG (by simp;omega)]
  show rep X' (bif blt i N then g i else f (i-N)) [] 2 _
  rw[T4]
  exact(o4 i hb).1.mono r2.nil (B2 _)
 cases hb:blt i N
 ·have I2:¬ i<N:=by rw[<-A8,hb];simp
  show(bif blt i N then g i else f (i-N)).mem=true
  rw[hb]
  exact(n4 (i-N) zO).2
 have T4:=hb
 rw[A8]at hb
 show(bif blt i N then g i else f (i-N)).mem=true
 rw[T4]
 exact(o4 i hb).2
theorem Ku(H:Wd X0 X h lv nm w0 w)(hF:FrR X lv nm n σ τ){p:List Stp}{l:List UInt8}(ha:V0 P t=some (m,1))(hx:av P σ t x=.pr r j p)(hk:(H7 h r j).okp p=true)(hg:(H7 h r j).get p=.bs m l)(j5:(H7 h r j).mem=true)(iL:m<=maxLen)(hpr:(H7 h r j).prs d6=true)(hj:j=0):
  Good P X0 X h lv nm n τ w0 w ty (.slice t x none none none) (.bl 1 l) (bif tD (h r j) then h else D9 h r j (.ro (H7 h r j).strip)) lv:=by
 have hv:=B5 (P:=P) H.c2 hF t x
 rw[hx]at hv
 obtain⟨b,o,N,h1,h2,h3⟩:=gQ hv
 obtain⟨cs,q1,q2,q3,q4⟩:=AZ H h1 j5 hj
 obtain⟨r1,r2,r3⟩:=dS (Q1 H) H.c2 hk h3 q2 q1
 rw[hg]at r1 r3
 obtain⟨hl,w4⟩:=r3
 have key:∃X',X.le X' lv lv nm/\Wd X0 X' (bif tD (h r j) then h else D9 h r j (.ro (H7 h r j).strip)) lv nm w0 w/\FzAt X'.G b o cs/\∀b i,C8 X' w b i=C8 X w b i:=by
  have hR:=H.rt r j b o N h1
  cases hv:h r j
  case ro v=>
   rw[hv]at hR
   obtain⟨ds,d1,d2,d3,d4⟩:=hR
   have:ds=cs:=by
    apply V7
    intro i
    by_cases hi:i<ds.length
    ·rw[B6 hi]
     have e1:=H.cell (d4 i _ (B6 hi)) (r8 d2 d1 _ (eG hi))
     have e2:=q4 w H.sy i _ (B6 zO)
     rw[e1]at e2
     rw[B6 zO];exact e2
    rw[V6 zO,V6 zO]
   subst this
   exact⟨X,Cx.le.rfl' X lv nm,H,d4,fun _ _=>rfl⟩
  case un=>unfold H7 at j5;rw[hv]at j5;cases j5
  all_goals
   have iN:H7 h r j=h r j:=by unfold H7;rw[hv]
   rw[hv]at hR
   obtain⟨ds,d1,d2,d3,d4⟩:=hR
   obtain⟨s1,s2,s3⟩:=H.frz h1 d1 d2 (by rw[iN,hv]at hpr;exact hpr) d3 d4
   have:ds=cs:=by
    apply V7
    intro i
    by_cases hi:i<ds.length
    ·rw[B6 hi]
     have e1:=(d4 i _ (B6 hi)).2.1
     have e2:=q4 w H.sy i _ (B6 zO)
     rw[e1]at e2
     rw[B6 zO];exact e2
    rw[V6 zO,V6 zO]
   subst this
   rw[iN,hv]
   exact⟨_,s1,s2,s3,H.frz_y d1 d2 d3 d4 hj⟩
 obtain⟨X',k1,k2,k3,k4⟩:=key
 have ex:∀(u:World) (d:Nat) (pos:String) (aft:Array Edge) (g:Option (Nat×Bool)),(execOp (ev n τ) ⟨some d,.slice t x none none none,ty,pos,aft,g⟩).run P u=.ok (.value (.slice (some (ad b (o+B9 p))) m m)) u:=fun u d pos aft g=>by
  have:=EE (P:=P) (ty:=ty) (d:=d) (pos:=pos) (aft:=aft) (g:=g) (w:=u) (lo:=none) (hi:=none) (mx:=none) h2 ha rfl rfl rfl (fun w=>EC w)
  have e:sa (some (ad b (o+B9 p))) 0 m 1=some (ad b (o+B9 p)):=by
   unfold sa;split
   ·rfl
   simp[Addr.add]
  rw[e]at this
  simpa using this
 refine⟨X',w,.slice (some (ad b (o+B9 p))) m m,ex w,k1,k2.up zO,?_,fun b i x hx=>by rw[k4];exact hx,fun _=>⟨rfl,k4,fun u _=>ex u⟩⟩
 refine⟨some (ad b (o+B9 p)),m,by rw[hl],zO,iL,by have:=H.c2;omega,fun _=>hl.symm,.inr ⟨b,o+B9 p,rfl,?_,fun ht=>?_⟩⟩
 ·rw[<-w4];exact fF k3 _ _
 have:=Q1 H 1 ht;omega
end
section
variable {nm n:Nat} {σ:Fr} {ty t u:TypeId} {x y:Operand}
theorem LU{lv:List Nat}{off:Nat}{C:Array Value}{v:V}(hm:v.mem=true)(aQ:r9 P t v=true)(hr:rep X v lv c ((C.toList.drop off).take v.sz))(Y9:off+v.sz<=C.size):
  ∃rv,(∀w,(part t C off).run P w=.ok rv w)/\repv X lv c v rv:=by
 cases ha:v.agg
 ·obtain⟨x,hx⟩:=SP hm ha aQ hr
  have hv:=(ST ha aQ).2
  have h1:v.sz=1:=by have:=X3 hm hr;rw[hx]at this;simpa using this.symm
  have hc:C[off]? =some x:=by
   have:((C.toList.drop off).take v.sz)[0]? =some x:=by rw[hx];rfl
   rw[t7,if_pos zO,Q5]at this
   simpa using this
  rw[hx]at hr
  exact⟨x,fun w=>by simp[part,oU hv w,hc],SQ hm ha hr⟩
 have y7:=SS ha aQ
 refine⟨.agg (C.extract off (off+v.sz)),fun w=>by simp[part,KA y7 w,mI (KB y7) w],?_⟩
 have e:C.extract off (off+v.sz)=((C.toList.drop off).take v.sz).toArray:=by
  apply U2
  simp[List.drop_take]
 rw[e]
 exact SR ha hr
theorem Kv(H:Wd X0 X h lv nm w0 w)(hF:FrR X lv nm n σ τ){g:Nat->V}{fs:Array Field}{f:Field}(hu:P.underlying t=some (.struct fs))(hf:fs[i]? =some f)(hx:av P σ t x=.st m g)(hk:cP g m i f.offset=true)(aQ:r9 P f.type (g i)=true):
  Good P X0 X h lv nm n τ w0 w ty (.field t x i) (g i) h lv:=by
 have hv:=B5 (P:=P) H.c2 hF t x
 rw[hx]at hv
 obtain⟨C,e1,e2⟩:=hv
 obtain⟨a1,a2,a3⟩:=pH hk
 obtain⟨q1,q2⟩:=pG (f:=fun k=>(g k).sz) e2 (fun k cs hk hr=>X3 (a3 k hk) hr) a1
 rw[a2]at q1 q2
 obtain⟨rv,r1,r2⟩:=LU (P:=P) (t:=f.type) (a3 i a1) aQ q2 (by simpa using q1)
 exact G0 H (fun _ _ _ _ _ _=>by simp[execOp,e1,Instr.field,run_underlying hu,hf,asAgg,r1]) r2
theorem SX(off:Nat):∀(xs:List Value) (k:Nat) (C:Array Value) (i:Nat),i<C.size->
  ((xs.zipIdx k).foldl (fun cs (q:Value×Nat)=>cs.setIfInBounds (off+q.2) q.1) C)[i]? =if off+k<=i/\i<off+k+xs.length then xs[i-off-k]? else C[i]?
|[],k,C,i,hi=>by simp;omega
|x::xs,k,C,i,hi=>by
  rw[List.zipIdx_cons,List.foldl_cons,SX off xs (k+1) _ i (by simpa using hi)]
  simp only[G8]
  by_cases h1:off+(k+1)<=i/\i<off+(k+1)+xs.length
  ·rw[if_pos h1,if_pos zO,show i-off-k=(i-off-(k+1))+1 by omega,DC]
  rw[if_neg h1,JI]
  by_cases h2:off+k=i
  ·rw[if_pos h2,if_pos zO,if_pos zO,show i-off-k=0 by omega];rfl
  rw[if_neg h2,if_neg zO]
theorem SY(off:Nat):∀(xs:List Value) (k:Nat) (C:Array Value),((xs.zipIdx k).foldl (fun cs (q:Value×Nat)=>cs.setIfInBounds (off+q.2) q.1) C).size=C.size
|[],k,C=>rfl
|x::xs,k,C=>by rw[List.zipIdx_cons,List.foldl_cons,SY off xs (k+1)];simp
theorem Kw(off:Nat)(xs C:Array Value)(Y9:off+xs.size<=C.size):(xs.zipIdx.foldl (fun cs (q:Value×Nat)=>cs.setIfInBounds (off+q.2) q.1) C)=(ins C.toList off xs.toList).toArray:=by
 have e:xs.zipIdx.foldl (fun cs (q:Value×Nat)=>cs.setIfInBounds (off+q.2) q.1) C=(xs.toList.zipIdx 0).foldl (fun cs (q:Value×Nat)=>cs.setIfInBounds (off+q.2) q.1) C:=by
  rw[<-Array.foldl_toList,Array.toList_zipIdx]
 rw[e]
 have hs:=SY off xs.toList 0 C
 have hl:(ins C.toList off xs.toList).length=C.size:=by rw[o9 (by simpa using Y9)];simp
 apply U2
 apply V7
 intro i
 rw[vE]
 by_cases hi:i<C.size
 ·rw[SX off xs.toList 0 C i hi]
  simp only[DF]
  unfold ins
  simp only[H9,zL,F7,u6,t7,Q5]
  have e1:min off C.size=off:=by omega
  rw[e1]
  by_cases h1:i<off
  ·rw[if_neg zO,if_pos h1,if_pos h1];simp
  by_cases h2:i<off+xs.size
  ·rw[if_pos zO,if_neg h1,if_pos zO,qT]
  rw[if_neg zO,if_neg h1,if_neg zO,show off+xs.size+(i-off-xs.size)=i by omega];simp
 rw[DG zO,V6 (by simp only[DF];omega)]
theorem tK{places:Nat->Option (Nat×Nat)}{C:Array Value}{off size:Nat}{v:Value}{rest:List (Nat×Value)}(hp:places i=some (off,size))(hs:v.cells.size=size)(Y9:off+v.cells.size<=C.size):
  Instr.fill places C ((i,v)::rest)=Instr.fill places (ins C.toList off v.cells.toList).toArray rest:=by
 simp only[Instr.fill,hp]
 rw[if_neg (by simp;omega)]
 congr 1
 exact Kw off v.cells C Y9
theorem Kx(v x:V):v.set [] x=x:=by cases v<;>rfl
theorem Ky(v:V):v.get []=v:=by cases v<;>rfl
theorem SZ(H:Wd X0 X h lv nm w0 w)(hF:FrR X lv nm n σ τ){m:Nat}{pl:Nat->TypeId×Nat×Nat}{places:Nat->Option (Nat×Nat)}(hpl:∀i,i<m->places i=some ((pl i).2.1,(pl i).2.2)):∀{ps:List (Nat×Operand)} {g f:Nat->V} {C:Array Value},xN P σ m ps pl g=some f->rep X (.st m g) lv nm C.toList->
  ∃C',Instr.fill places C (W6 n τ ps)=some C'/\rep X (.st m f) lv nm C'.toList
|[],g,f,C,hf,hr=>by simp only[xN,F2]at hf;subst hf;exact⟨C,rfl,hr⟩
|(i,x)::ps,g,f,C,hf,hr=>by
  simp only[xN]at hf
  obtain⟨h1,h2⟩:=M7 hf (by simp)
  simp only[A9]at h1
  obtain⟨⟨⟨k1,k2⟩,k3⟩,k4⟩:=h1
  obtain⟨a1,a2,a3⟩:=pH k1
  have hv:=jJ (B5 (P:=P) H.c2 hF (pl i).1 x)
  have hc:=AY H k2 hv
  have bQ:=X3 k2 hc
  have k4':=A5 k4
  have k3':=A5 k3
  have nP:(V.st m g).mem=true:=EZ a3
  have M4:(V.st m g).okp [.f i (pl i).2.1]=true:=by simp only[V.okp,k1,Bool.true_and]
  have nT:(V.st m g).get [.f i (pl i).2.1]=g i:=Ky (g i)
  have q:=dS (Q1 H) H.c2 M4 (fun y hy=>by simp at hy;subst hy;trivial) nP hr
  rw[nT]at q
  have ho:B9 [Stp.f i (pl i).2.1]=(pl i).2.1:=by simp[B9,Stp.off]
  have s:=FA (x:=(av P σ (pl i).1 x).nb) (Q1 H) H.c2 M4 (by simp only[V.oks]) (fun y hy=>by simp at hy;subst hy;trivial) nP hr k2 (by rw[nT];exact k4') hc
  rw[ho]at s q
  have Y9:(pl i).2.1+(ev n τ x).cells.size<=C.size:=by
   have:=q.1
   rw[u6]at this bQ
   omega
  obtain⟨C',c1,c2⟩:=SZ H hF hpl (C:=(ins C.toList (pl i).2.1 (ev n τ x).cells.toList).toArray) h2 (by
   have e:(V.st m g).set [.f i (pl i).2.1] (av P σ (pl i).1 x).nb=.st m fun k=>bif beq k i then (av P σ (pl i).1 x).nb else g k:=by
    show V.st m (fun k=>bif beq k i then (g i).set [] _ else g k)=_
    rw[Kx]
   have:=s.1
   rw[e]at this
   simpa using this)
  refine⟨C',?_,c2⟩
  simp only[W6]
  rw[tK (hpl i a1) (by rw[u6]at bQ;omega) Y9]
  exact c1
theorem TA{α β:Type}{f:α->Option β}:∀{l:List α} {r:List β},l.mapM f=some r->r.length=l.length/\∀(i:Nat) a,l[i]? =some a->∃b,f a=some b/\r[i]? =some b
|[],r,h=>by simp at h;subst h;exact⟨rfl,fun i a hi=>by simp at hi⟩
|a::l,r,h=>by
  simp only[List.mapM_cons,Option.bind_eq_bind,DI,Option.pure_def,F2]at h
  obtain⟨b,h1,r',h2,rfl⟩:=h
  obtain⟨q1,q2⟩:=TA h2
  refine⟨by simp[q1],fun i a' hi=>?_⟩
  cases i with
 |zero=>simp at hi;subst hi;exact⟨b,h1,rfl⟩
 |succ i=>simpa using q2 i a' (by simpa using hi)
theorem Kz{fs:Array Field}{pl:Array (Nat×Nat)}(hu:P.underlying t=some (.struct fs))(hp:oX P t=some pl):∀i,i<fs.size->pl[i]? =some ((mP P t i).2.1,(mP P t i).2.2):=by
 intro i hi
 unfold oX at hp
 rw[hu]at hp
 simp only[eL]at hp
 obtain⟨l,h1,rfl⟩:=hp
 obtain⟨_,q⟩:=TA h1
 obtain⟨b,b1,b2⟩:=q i fs[i] (by simp[hi])
 simp only[eL]at b1
 obtain⟨T3,b3,rfl⟩:=b1
 rw[fQ,b2]
 unfold mP mO
 rw[hu]
 simp only[hi,zR,b3]
theorem La(H:Wd X0 X h lv nm w0 w)(hF:FrR X lv nm n σ τ){g f:Nat->V}{ps:Array (Nat×Operand)}{fs:Array Field}{pl:Array (Nat×Nat)}(hu:P.underlying t=some (.struct fs))(hz:zeroCells P t=some C)(hp:oX P t=some pl)(hr:rep X (.st m g) lv nm C)
  (hm:m<=fs.size)(hf:xN P σ m ps.toList (mP P t) g=some f):Good P X0 X h lv nm n τ w0 w ty (.build t ps) (.st m f) h lv:=by
 obtain⟨C',c1,c2⟩:=SZ H hF (places:=fun i=>pl[i]?) (fun i hi=>Kz hu hp i zO) (C:=C.toArray) hf (by simpa using hr)
 exact G0 H (fun _ _ _ _ _ _=>KI rfl (by rw[(Bld.str hp hz).eq];exact c1)) ⟨C',rfl,c2⟩
theorem TC(H:Wd X0 X h lv nm w0 w)(hF:FrR X lv nm n σ τ){e z m:Nat}:∀{ps:List (Nat×Operand)} {g f:Nat->V} {C:Array Value},xO P σ e z m ps g=some f->rep X (.ar z m g) lv nm C.toList->
  ∃C',Instr.fill (fun i=>some (i*z,z)) C (W6 n τ ps)=some C'/\rep X (.ar z m f) lv nm C'.toList
|[],g,f,C,hf,hr=>by simp only[xO,F2]at hf;subst hf;exact⟨C,rfl,hr⟩
|(i,x)::ps,g,f,C,hf,hr=>by
  simp only[xO]at hf
  obtain⟨h1,h2⟩:=M7 hf (by simp)
  simp only[A9,A8]at h1
  obtain⟨⟨⟨k1,k2⟩,k3⟩,k4⟩:=h1
  have k3':=A5 k3
  have hv:=jJ (B5 (P:=P) H.c2 hF e x)
  have hc:=AY H k2 hv
  have bQ:=X3 k2 hc
  obtain⟨r1,r2⟩:=hr
  have Y9:i*z+z<=C.toList.length:=by rw[r1, <-G7];exact G2 _ k1
  have hcl':(ev n τ x).cells.toList.length=z:=by omega
  have kE:rep X (.ar z m fun k=>bif beq k i then (av P σ e x).nb.strip.nz else g k) lv nm (ins C.toList (i*z) (ev n τ x).cells.toList):=by
   refine⟨by rw[o9 zO];exact r1,fun k hk=>?_⟩
   have hkz:k*z+z<=C.toList.length:=by rw[r1, <-G7];exact G2 _ hk
   cases hb:beq k i
   ·have D5:k≠i:=fun e=>by subst e;rw[P6]at hb;cases hb
    have:List.take z (List.drop (k*z) (ins C.toList (i*z) (ev n τ x).cells.toList))=List.take z (List.drop (k*z) C.toList):=by
     generalize (ev n τ x).cells.toList=ys at hcl'
     apply V7
     intro j
     unfold ins
     simp only[t7,Q5,H9,zL,F7]
     by_cases hj:j<z
     ·rcases JC D5 with hlt|hgt
      ·have:k*z+z<=i*z:=by rw[<-G7];exact G2 _ hlt
       simp only[hj,if_true,show k*z+j<min (i*z) C.toList.length by omega,show k*z+j<i*z by omega]
      have:i*z+z<=k*z:=by rw[<-G7];exact G2 _ hgt
      simp only[hj,if_true,show ¬ (k*z+j<min (i*z) C.toList.length) by omega,if_false,show ¬ (k*z+j-min (i*z) C.toList.length<ys.length) by omega]
      congr 1;omega
     simp[hj]
    rw[this]
    simp only[hb,cond_false]
    exact r2 k hk
   have he:=A5 hb
   subst he
   have:List.take z (List.drop (k*z) (ins C.toList (k*z) (ev n τ x).cells.toList))=(ev n τ x).cells.toList:=by
    generalize (ev n τ x).cells.toList=ys at hcl'
    unfold ins
    have hm:(List.take (k*z) C.toList).length=k*z:=by rw[F7];omega
    rw[H9,List.drop_left' hm,List.take_left' hcl']
   rw[this]
   simp only[hb,cond_true]
   exact⟨pM (sZ k4 hc),FG (by rw[EX];exact k2)⟩
  obtain⟨C',c1,c2⟩:=TC H hF (C:=(ins C.toList (i*z) (ev n τ x).cells.toList).toArray) h2 (by simpa using kE)
  refine⟨C',?_,c2⟩
  simp only[W6]
  rw[tK (off:=i*z) (size:=z) rfl (by rw[<-u6];exact hcl') (by rw[<-u6, <-u6,hcl'];exact Y9)]
  exact c1
theorem LV(H:Wd X0 X h lv nm w0 w)(hF:FrR X lv nm n σ τ){e m:Nat}:∀{ps:List (Nat×Operand)} {l r:List UInt8} {C:Array Value},pO P σ e m ps l=some r->rep X (.bs m l) lv nm C.toList->
  ∃C',Instr.fill (fun i=>some (i*1,1)) C (W6 n τ ps)=some C'/\rep X (.bs m r) lv nm C'.toList
|[],l,r,C,hf,hr=>by simp only[pO,F2]at hf;subst hf;exact⟨C,rfl,hr⟩
|(i,x)::ps,l,r,C,hf,hr=>by
  simp only[pO]at hf
  obtain⟨h1,h2⟩:=M7 hf (by simp)
  simp only[A9,A8]at h1
  obtain⟨k1,k2⟩:=h1
  have hv:=B5 (P:=P) H.c2 hF e x
  have hb:∃a,av P σ e x=.i .u8 a:=by
   cases hh:av P σ e x<;>rw[hh]at k2<;>first|(cases k2;done)|skip
   rename_i k a
   cases k<;>first|exact⟨a,rfl⟩|(cases k2;done)
  obtain⟨a,hb⟩:=hb
  rw[hb]at hv h2
  obtain⟨e1,e2⟩:=M0 hv
  obtain⟨r1,r2⟩:=hr
  have bQ:(ev n τ x).cells.toList=[.int .u8 a]:=by rw[e1];rfl
  have D7:C.toList.length=m:=by rw[r2,J7,r1]
  have kE:rep X (.bs m (l.set i (UInt8.ofNat a.toNat))) lv nm (ins C.toList (i*1) (ev n τ x).cells.toList):=by
   refine⟨by simpa using r1,?_⟩
   rw[bQ,r2,List.map_set,show E9 (UInt8.ofNat a.toNat)=.int .u8 a from congrArg (Value.int .u8) (RP e2),l5]
   exact EA _ i _ (by rw[J7,r1];exact k1)
  obtain⟨C',c1,c2⟩:=LV H hF (C:=(ins C.toList (i*1) (ev n τ x).cells.toList).toArray) h2 (by simpa [RX] using kE)
  refine⟨C',?_,c2⟩
  simp only[W6]
  rw[tK (off:=i*1) (size:=1) rfl (by rw[e1];rfl) (by rw[<-u6, <-u6,bQ,D7];simp;omega)]
  exact c1
theorem Lc(H:Wd X0 X h lv nm w0 w)(hF:FrR X lv nm n σ τ){l r:List UInt8}{ps:Array (Nat×Operand)}(hz:zeroCells P t=some C)(ha:V0 P t=some (m,1))(hr:rep X (.bs m l) lv nm C)
  (hf:pO P σ (D6 P t) m ps.toList l=some r):Good P X0 X h lv nm n τ w0 w ty (.build t ps) (.bs m r) h lv:=by
 obtain⟨C',c1,c2⟩:=LV H hF (C:=C.toArray) hf (by simpa using hr)
 exact G0 H (fun _ _ _ _ _ _=>KI rfl (by rw[(Bld.arr ha hz).eq];exact c1)) ⟨C',rfl,c2⟩
theorem TD(H:Wd X0 X h lv nm w0 w){z by_:Nat}{ps:Array (Nat×Operand)}{C':Array Value}(hT:SlTy P t (D6 P t) z by_)(hz:zeroCells P (D6 P t)=some C)(h0:0<z)(D7:m*z<=16777216)
  (wE:Instr.fill (fun i=>some (i*z,z)) ((Array.range (m*z)).map (C.toArray[· % C.toArray.size]!)) (W6 n τ ps.toList)=some C')(dK:∀x∈C'.toList,x.oneCell'=true):
  ∃X' w',(∀(d:Nat) (pos:String) (aft:Array Edge) (g:Option (Nat×Bool)),(execOp (ev n τ) ⟨some d,.buildSlice t m ps,ty,pos,aft,g⟩).run P w=.ok (.value (.slice (some (ad w.heap.size 0)) m m)) w')/\X.le X' lv lv nm/\Wd X0 X' h lv nm w0 w'/\FzAt X'.G w.heap.size 0 C'.toList/\Yle (C8 X w) (C8 X' w'):=by
 let f:Nat->Ow:=fun i=>match C'[i]? with|some x=>.fz x|none=>.no
 have H2:=H.new C' (D6 P t) (0,0) f (fun i x hx=>by
  simp only[f]at hx
  cases hc:C'[i]? with
 |none=>rw[hc]at hx;cases hx
 |some y=>rw[hc]at hx;cases hx;exact⟨rfl,dK x (by rw[Array.mem_toList_iff];exact Array.mem_of_getElem? hc)⟩) (fun i t hx=>by
  simp only[f]at hx
  cases hc:C'[i]? with
 |none=>rw[hc]at hx;cases hx
 |some y=>rw[hc]at hx;cases hx) (.inl rfl)
 refine⟨_,_,fun d pos aft g=>?_,H.new_le f,H2,fun k x hk=>?_,H.new_y f _⟩
 ·have hp:(ps.map fun(i,x)=>(i,ev n τ x)).toList=W6 n τ ps.toList:=by rw[sJ,zJ]
  have hr:=KE (P:=P) (w:=w) hT hz h0 D7 (ps.map fun(i,x)=>(i,ev n τ x)) (by rw[hp];exact wE)
  simp only[execOp,D0,hr,F6]
  rfl
 simp only[Cx.new,if_true,f,J5]
 rw[vE]at hk
 rw[hk]
theorem TE{z:Nat}(hC:C.length=z)(h0:0<z):((Array.range (m*z)).map (C.toArray[· % C.toArray.size]!)).toList.length=m*z/\∀k,k<m->((((Array.range (m*z)).map (C.toArray[· % C.toArray.size]!)).toList.drop (k*z)).take z)=C:=by
 refine⟨by simp,fun k hk=>?_⟩
 have hkz:k*z+z<=m*z:=by rw[<-G7];exact G2 _ hk
 apply V7
 intro i
 rw[t7]
 by_cases hi:i<z
 ·rw[if_pos hi,Q5]
  simp only[zJ,Y6,Array.toList_range]
  rw[JF zO]
  simp only[X8,bO,hC]
  have e:(k*z+i) % z=i:=by rw[Nat.add_comm,Nat.add_mul_mod_self_right,Nat.mod_eq_of_lt hi]
  rw[e]
  have:i<C.length:=by omega
  rw[B6 this]
  simp[this]
 rw[if_neg hi,V6 zO]
theorem Ld(H:Wd X0 X h lv nm w0 w)(hF:FrR X lv nm n σ τ){z:Nat}{v:V}{f:Nat->V}{ps:Array (Nat×Operand)}(hs:Q0 P t z=true)(hz:zeroCells P (D6 P t)=some C)(h0:0<z)(fX:v.mem=true)(hvz:v.sz=z)(hr:rep X v lv nm C)(D7:m*z<=16777216)
  (hv1:v.strip=v)(hvp:v.prs d6=true)(hf:xO P σ (D6 P t) z m ps.toList (fun _=>v)=some f):Good P X0 X h lv nm n τ w0 w ty (.buildSlice t m ps) (.sl 1 z m f) h lv:=by
 have hC:=X3 fX hr
 have aR:rep X v [] 2 C:=by have:=sZ hvp hr;rwa [hv1]at this
 obtain⟨p1,p2⟩:=TE (m:=m) (hC.trans hvz) h0
 obtain⟨C',c1,c2,c3⟩:=TC H hF (C:=(Array.range (m*z)).map (C.toArray[· % C.toArray.size]!)) hf ⟨p1,fun k hk=>⟨by rw[p2 k hk];exact aR,fX⟩⟩
 have dK:∀x∈C'.toList,x.oneCell'=true:=r8 (v:=.ar z m f) (lv:=lv) (c:=nm) rfl ⟨c2,c3⟩
 obtain⟨X',w',r1,r2,r3,r4,r5⟩:=TD (ty:=ty) (τ:=τ) (n:=n) H (Y4 hs).2.1 hz h0 D7 c1 dK
 have hm:m<=maxLen:=by
  have:m<=m*z:=vF _ h0
  have:maxLen=9223372036854775807:=rfl
  omega
 refine⟨X',w',_,r1,r2,r3.up zO,⟨h0,some (ad w.heap.size 0),m,rfl,B2 _,hm,by have:=H.c2;omega,fun _=>rfl,.inr ⟨_,0,rfl,fun i hi=>?_,fun ht=>by have:=Q1 H 1 ht;omega⟩⟩,r5,fun h=>(by cases h)⟩
 have lX:i*z+z<=m*z:=by rw[<-G7];exact G2 _ hi
 exact⟨_,(c3 i hi).1.mono r2.nil (B2 _),by simp at c2 ⊢;omega,(c3 i hi).2,fF r4 _ _⟩
theorem Le{X:Cx}{lv:List Nat}{t z n:Nat}{g g':Nat->V}(h:∀i,i<n->g i=g' i)(hr:rep X (.sl t z n g) lv c cs):rep X (.sl t z n g') lv c cs:=by
 obtain⟨h1,a,cap,q1,q2,q3,q4,q5,q6⟩:=hr
 exact⟨h1,a,cap,q1,q2,q3,q4,q5,q6.imp id fun⟨b,o,r1,r2,r3⟩=>⟨b,o,r1,fun i hi=>by rw[<-h i hi];exact r2 i hi,r3⟩⟩
theorem Lf(f:Nat->V):∀i,i<m->f i=(bif beq m 1 then fun _=>f 0 else f) i:=fun i hi=>by
 cases hb:beq m 1
 ·rfl
 have:=A5 hb
 subst this
 obtain rfl:i=0:=by omega
 rfl
theorem Lg(H:Wd X0 X h lv nm w0 w)(hF:FrR X lv nm n σ τ){l:List UInt8}{ps:Array (Nat×Operand)}(hs:Q0 P t 1=true)(hz:zeroCells P (D6 P t)=some [.int .u8 0])(D7:m<=16777216)
  (hf:pO P σ (D6 P t) m ps.toList (replicate m 0)=some l):Good P X0 X h lv nm n τ w0 w ty (.buildSlice t m ps) (bif beq m 0 then .bl 1 l else .lb l) h lv:=by
 obtain⟨p1,p2⟩:=TE (C:=[Value.int .u8 0]) (z:=1) (m:=m) rfl (vG 0)
 have rM:rep X (.bs m (replicate m 0)) lv nm ((Array.range (m*1)).map (([Value.int .u8 0]:List Value).toArray[· % ([Value.int .u8 0]:List Value).toArray.size]!)).toList:=by
  refine⟨by simp,?_⟩
  apply V7
  intro i
  by_cases hi:i<m
  ·have:=p2 i hi
   have h2:=congrArg (·[0]?) this
   simp only[t7,Q5,l5,t8]at h2
   simp only[l5]
   rw[if_pos zO]at h2
   rw[h2]
   simp[hi,E9]
  rw[V6 zO,V6 (by simp;omega)]
 obtain⟨C',c1,c2,c3⟩:=LV H hF hf rM
 have dK:∀x∈C'.toList,x.oneCell'=true:=by rw[c3];intro x hx;obtain⟨_,_,rfl⟩:=J6.1 hx;rfl
 obtain⟨X',w',r1,r2,r3,r4,r5⟩:=TD (ty:=ty) (τ:=τ) (n:=n) H (Y4 hs).2.1 hz (vG 0) zO c1 dK
 have hm:m<=maxLen:=by have:maxLen=9223372036854775807:=rfl;omega
 have W4:=H.c2
 refine⟨X',w',_,r1,r2,r3.up zO,?_,r5,fun h=>(by cases h)⟩
 cases beq m 0
 ·exact⟨zO,some (ad w.heap.size 0),m,by rw[c2],zO,hm,zO,fun _=>c2.symm,.inr ⟨_,0,rfl,⟨by rw[r2.ν,H.νe];exact H.νs,rfl,by rw[<-c3];exact r4⟩,fun ht=>by have:=Q1 H 1 ht;omega⟩⟩
 exact⟨some (ad w.heap.size 0),m,by rw[c2],zO,hm,zO,fun _=>c2.symm,.inr ⟨_,0,rfl,by rw[<-c3];exact r4,fun ht=>by have:=Q1 H 1 ht;omega⟩⟩
theorem TF{d N:Nat}{E:TypeId->V->V->Option Bool}{f g:Nat->V}{xs ys:Array Value}{lv:List Nat}{c:Nat}(hE:∀t x y e a b w,E t x y=some e->repv X lv c x a->repv X lv c y b->(Op.equalIn d t a b).run P w=.ok e w)
  (hx:rep X (.st N f) lv c xs.toList)(hy:rep X (.st N g) lv c ys.toList):∀{fs:List Field} {k:Nat} {e:Bool} (w:World),xL P E N f g fs k=some e->(Op.eqFields d xs ys fs).run P w=.ok e w
|[],k,e,w,h=>by simp only[xL,F2]at h;subst h;simp[Op.eqFields]
|q::r,k,e,w,h=>by
  simp only[xL]at h
  obtain⟨h1,h2⟩:=M7 h (by simp)
  simp only[A9,lH,beq_eq_false_iff_ne]at h1
  obtain⟨⟨⟨⟨k1,k2⟩,k3⟩,k4⟩,k5⟩:=h1
  obtain⟨a1,a2,a3⟩:=pH k1
  obtain⟨b1,b2,b3⟩:=pH k2
  obtain⟨q1,q2⟩:=pG (f:=fun k=>(f k).sz) hx (fun k cs hk hr=>X3 (a3 k hk) hr) a1
  obtain⟨p1,p2⟩:=pG (f:=fun k=>(g k).sz) hy (fun k cs hk hr=>X3 (b3 k hk) hr) b1
  rw[a2]at q1 q2;rw[b2]at p1 p2
  obtain⟨rx,x1,x2⟩:=LU (P:=P) (t:=q.type) (a3 k a1) k3 q2 (by simpa using q1)
  obtain⟨ry,y1,y2⟩:=LU (P:=P) (t:=q.type) (b3 k b1) k4 p2 (by simpa using p1)
  cases he:E q.type (f k) (g k) with
 |none=>rw[he]at h2;cases h2
 |some ea=>
   cases hr:xL P E N f g r (k+1) with
  |none=>rw[he,hr]at h2;cases h2
  |some eb=>
    rw[he,hr]at h2
    simp only[F2]at h2
    have ih:=TF hE hx hy w hr
    have h3:=hE _ _ _ _ _ _ w he x2 y2
    simp only[Op.eqFields,if_pos k5,D0,x1,y1,F6,h3]
    cases ea
    ·simp at h2;subst h2;simp
    simp at h2;subst h2;simpa using ih
theorem LW{lv:List Nat}{c:Nat}:∀{m d:Nat} {t:TypeId} {x y:V} {e:Bool} {a b:Value} (w:World),m<=d->xM P m t x y=some e->repv X lv c x a->repv X lv c y b->(Op.equalIn d t a b).run P w=.ok e w
|0,_,_,_,_,_,_,_,_,_,h,_,_=>by cases h
|m+1,0,_,_,_,_,_,_,_,hd,_,_,_=>by omega
|m+1,d+1,t,x,y,e,a,b,w,hd,h,ha,hb=>by
  unfold xM at h
  split at h
  ·rename_i k1 k a' k' b' hu
   obtain⟨h1,h2⟩:=M7 h (by simp)
   have h1:=of_decide_eq_true h1
   subst h1
   rw[(M0 ha).1,(M0 hb).1,run_equalIn_int w d t k _ a' b' hu]
   simp only[F2]at h2
   rw[<-h2];rfl
  ·rename_i a' b' hu
   simp only[F2]at h
   rw[pP ha,pP hb,run_equalIn_bool' w d t _ _ hu,h]
  ·rename_i a' b' hu
   simp only[F2]at h
   rw[(gP ha).1,(gP hb).1,run_equalIn_string w d t _ _ hu,LP,LP, <-h]
   congr 1
   rw[vA];simp
  ·rename_i N e' k a' k' b' hu
   obtain⟨h1,h2⟩:=M7 h (by simp)
   simp only[A9,A8]at h1
   obtain⟨⟨⟨⟨u1,u2⟩,u3⟩,u4⟩,u5⟩:=h1
   have u2:=A5 u2
   have u3:=A5 u3
   have hc:K2 P e'=some 1:=by
    split at u4
    ·assumption
    cases u4
   have ue:P.underlying e'=some (.int .u8):=by
    unfold dW at u1;split at u1
    ·assumption
    cases u1
   obtain⟨C,rfl,c1,c2⟩:=ha
   obtain⟨D,rfl,d1,d2⟩:=hb
   obtain⟨d,rfl⟩:∃d',d=d'+1:=⟨d-1,zO⟩
   simp only[F2]at h2
   have eC:C=(a'.map V8).toArray:=by apply U2;rw[c2]
   have eD:D=(b'.map V8).toArray:=by apply U2;rw[d2]
   subst eC eD
   cases hi:P.info? e' with
  |none=>simp[K2,hi]at hc
  |some i=>
    have hco:P.cellsOf e'=1:=by simpa [K2,hi,Program.cellsOf] using hc
    rw[run_equalIn_array w (d+1) _ _ hu hi,hco,QC ue d a' b' zO w _ (by intro i hi;rw[qQ]at hi;omega), <-h2]
    congr 1
    rw[vA]
    simp only[P5,qQ,beq_iff_eq,decide_eq_true_eq]
    constructor
    ·intro h
     apply V7
     intro j
     by_cases hj:j<N
     ·exact h j hj
     rw[V6 zO,V6 zO]
    rintro rfl j _;rfl
  ·rename_i fs N f N' g hu
   obtain⟨h1,h2⟩:=M7 h (by simp)
   rw[A9]at h1
   have hN:=A5 h1.2
   subst hN
   obtain⟨C,rfl,c1⟩:=ha
   obtain⟨D,rfl,d1⟩:=hb
   have Y8:P.fieldsOf t=fs:=by unfold Program.fieldsOf;rw[hu]
   rw[run_equalIn_struct w d t C D (by rw[Y8];exact hu) (by simpa using h1.1),Y8]
   exact TF (fun t x y e a b w he hx hy=>LW w zO he hx hy) c1 d1 w h2
  cases h
theorem TG{lv:List Nat}{v:V}{a:Value}(ha:v.agg=true)(h:repv X lv c v a):∃C,a=.agg C:=by
 cases v<;>first|(obtain⟨C,h1,_⟩:=h;exact⟨C,h1⟩)|(cases ha;done)
theorem TH(H:Wd X0 X h lv nm w0 w)(hF:FrR X lv nm n σ τ){op:BinOp}{e:Bool}{v:V}(hg:P.eqGuardType P.depth t=false)(ax:(av P σ t x).agg=true)(ay:(av P σ t y).agg=true)(he:xM P 9 t (av P σ t x) (av P σ t y)=some e)(hv:bE op e=some v):Good P X0 X h lv nm n τ w0 w ty (.binOp op t x y yt) v h lv:=by
 have ex:=B5 (P:=P) H.c2 hF t x
 have ey:=B5 (P:=P) H.c2 hF t y
 have key:∀w,(Op.equal t (ev n τ x) (ev n τ y)).run P w=.ok e w:=fun w=>LW w (by decide) he ex ey
 obtain⟨C,e1⟩:=TG ax ex
 obtain⟨D,e2⟩:=TG ay ey
 rw[e1,e2]at key
 have hgd:∀op w,(eqGuard op t x y (.agg C) (.agg D)).run P w=.ok () w:=fun op w=>by cases op<;>simp[eqGuard,hg]
 cases op<;>simp only[bE,F2,reduceCtorEq]at hv<;>subst hv
 ·refine G0 H (rv:=.bool e) (fun _ _ _ _ _ _=>?_) rfl
  have e2':binOp .eql t (.agg C) (.agg D)=(do pure (.bool (<-Op.equal t (.agg C) (.agg D)))):=rfl
  simp only[execOp,e1,e2,D0,hgd,F6,e2',key]
  simp
 refine G0 H (rv:=.bool (!e)) (fun _ _ _ _ _ _=>?_) rfl
 have e2':binOp .neq t (.agg C) (.agg D)=(do pure (.bool (!(<-Op.equal t (.agg C) (.agg D))))):=rfl
 simp only[execOp,e1,e2,D0,hgd,F6,e2',key]
 simp
theorem FS(H:Wd X0 X h lv nm w0 w)(hF:FrR X lv nm n σ τ){op:BinOp}{b:Bool}{v:V}(hu:P.underlying t=some (.pointer e))(hx:∃a,ev n τ x=.pointer a/\a.isNone=b)(hy:av P σ t y=.np)(hv:(op=.eql/\v=.bc b)\/(op=.neq/\v=.bc (!b))):Good P X0 X h lv nm n τ w0 w ty (.binOp op t x y yt) v h lv:=by
 have ey:=B5 (P:=P) H.c2 hF t y
 rw[hy]at ey
 have ey:=SJ ey
 obtain⟨a,ex,ha⟩:=hx
 have e1:∀w,(Op.equal t (.pointer a) (.pointer none)).run P w=.ok a.isNone w:=fun w=>by
  unfold Op.equal Op.maxDepth Op.equalIn
  rw[D0,run_underlying hu]
  cases a<;>simp
 rcases hv with⟨rfl,rfl⟩|⟨rfl,rfl⟩
 ·refine G0 H (rv:=.bool b) (fun _ _ _ _ _ _=>?_) rfl
  have e2:binOp .eql t (.pointer a) (.pointer none)=(do pure (.bool (<-Op.equal t (.pointer a) (.pointer none)))):=by cases a<;>rfl
  simp only[execOp,ex,ey,D0,e2]
  simp[eqGuard,e1,ha]
 refine G0 H (rv:=.bool (!b)) (fun _ _ _ _ _ _=>?_) rfl
 have e2:binOp .neq t (.pointer a) (.pointer none)=(do pure (.bool (!(<-Op.equal t (.pointer a) (.pointer none))))):=by cases a<;>rfl
 simp only[execOp,ex,ey,D0,e2]
 simp[eqGuard,e1,ha]
end
section
variable {nm n:Nat} {σ:Fr} {ty t u:TypeId} {x y:Operand}
theorem Lh{a:Option Addr}{l d:Nat}{pos:String}{aft:Array Edge}{gd:Option (Nat×Bool)}(hu:P.underlying t=some (.slice e))(hg:P.eqGuardType P.depth t=false)(hx:ev n τ x=.slice a l c)(hy:ev n τ y=.slice none 0 0):
  (execOp (ev n τ) ⟨some d,.binOp .eql t x y yt,ty,pos,aft,gd⟩).run P w=.ok (.value (.bool a.isNone)) w:=by
 have e3:(eqGuard .eql t x y (.slice a l c) (.slice none 0 0)).run P w=.ok () w:=by simp[eqGuard,hg]
 have e4:(binOp .eql t (.slice a l c) (.slice none 0 0)).run P w=.ok (.bool a.isNone) w:=by
  simp[binOp,run_equal_slice_nil w t e a l c hu]
 simp[execOp,hx,hy,e3,e4]
theorem Li{a:Option Addr}{l d:Nat}{pos:String}{aft:Array Edge}{gd:Option (Nat×Bool)}(hu:P.underlying t=some (.slice e))(hg:P.eqGuardType P.depth t=false)(hx:ev n τ x=.slice a l c)(hy:ev n τ y=.slice none 0 0):
  (execOp (ev n τ) ⟨some d,.binOp .neq t x y yt,ty,pos,aft,gd⟩).run P w=.ok (.value (.bool (!a.isNone))) w:=by
 have e3:(eqGuard .neq t x y (.slice a l c) (.slice none 0 0)).run P w=.ok () w:=by simp[eqGuard,hg]
 have e4:(binOp .neq t (.slice a l c) (.slice none 0 0)).run P w=.ok (.bool (!a.isNone)) w:=by
  simp[binOp,run_equal_slice_nil w t e a l c hu]
 simp[execOp,hx,hy,e3,e4]
theorem Lj:∀{v:V} {z m:Nat} {cs:List Value},v.row=some (z,m)->rep X v lv c cs->cs.length=m*z:=by
 intro v
 induction v with
|ar z' n' g=>intro z m cs h hr;cases h;exact hr.1
|bs n' l=>intro z m cs h hr;cases h;obtain⟨h1,rfl⟩:=hr;simp[h1]
|fo z' y i v N3 _=>
  intro z m cs h hr
  obtain⟨h1,⟨es,h2,h3⟩,_⟩:=hr
  have:=N3 h h3
  rw[o9 zO]at this
  exact this
|_=>intro z m cs h hr;cases h
theorem Lk{z:Nat}(h1:bB h r z=some m):(H7 h r 0).row=some (z,m)/\(H7 h r 0).mem=true:=by
 unfold bB at h1
 split at h1
 ·rename_i z' n' h2
  obtain⟨h3,h4⟩:=M7 h1 (by simp)
  rw[A9]at h3
  have:=A5 h3.1
  subst this
  cases h4
  exact⟨h2,h3.2⟩
 cases h1
theorem tL(H:Wd X0 X h lv nm w0 w){z:Nat}{v:Value}(hv:repv X lv nm (.os r z) v)(hr:bB h r z=some m):2<=r/\r<nm/\0<z/\∃b o a cap,X.ρ r 0=some (b,o,m*z)/\v=.slice a m cap/\m<=cap/\cap<=maxLen/\o=0/\(∀b' o' sp,a=some ⟨b',o',sp⟩->sp=none)/\((m=0/\(r∈lv->cap=0))\/0<m/\a=some ⟨b,o,none⟩/\(r∈lv->∀i,m*z<=i->i<cap*z->X.G b (o+i)=.tp r)):=by
 obtain⟨h1,h2⟩:=Lk hr
 obtain⟨q1,q2,b,k,q3,⟨a,cap,q4,q5,q6,q7,q8,q9⟩,q10⟩:=hv
 obtain⟨cs,r1,r2,r3,_⟩:=AZ H q3 h2 rfl
 have:=Lj h1 r1
 have hk:k=m:=PJ q2 zO
 subst hk
 refine⟨q1,q7,q2,b,0,a,cap,q3,by simpa using q4,q5,q6,rfl,fun b' o' sp e=>?_,?_⟩
 ·rcases q9 with⟨q9,_⟩|⟨_,_,e1,_⟩
  ·rw[q9.resolve_right zO]at e;cases e
  rw[e1]at e;cases e;rfl
 rcases Nat.eq_zero_or_pos k with h0|h0
 ·refine .inl ⟨h0,fun hr=>?_⟩
  obtain⟨a',e⟩:=q10 h0 hr
  rw[q4]at e
  simp only[qP,Value.slice.injEq]at e
  exact e.1.2.2
 rcases q9 with q9|⟨b',o',e1,e2,e3⟩
 ·omega
 obtain⟨rfl,rfl⟩:=e2 h0
 exact .inr ⟨h0,e1,e3⟩
theorem Ll(H:Wd X0 X h lv nm w0 w)(hF:FrR X lv nm n σ τ){z:Nat}(ht:Q0 P t z=true)(hx:av P σ t x=.os r z)(hr:bB h r z=some m):Good P X0 X h lv nm n τ w0 w ty (.call ⟨.builtin .len, #[x], #[t]⟩) (.i .i64 m) h lv:=by
 have hv:=B5 (P:=P) H.c2 hF t x
 rw[hx]at hv
 obtain⟨_,_,_,b,o,a,cap,_,e1,e2,e3,_,_,_⟩:=tL H hv hr
 exact G0 H (fun _ _ _ _ _ _=>aC (Y4 ht).1 e1) ⟨rfl,BB zO⟩
theorem Lm(H:Wd X0 X h lv nm w0 w)(hF:FrR X lv nm n σ τ){z:Nat}{k:IntKind}{a:Int}(ht:Q0 P t z=true)(hx:av P σ t x=.os r z)(hr:bB h r z=some m)(hy:av P σ 0 y=.i k a)(h0:0<=a)(h1:a<m):
  Good P X0 X h lv nm n τ w0 w ty (.indexAddr t x y) (.pr r 0 [.e a.toNat z m]) h lv:=by
 have hv:=B5 (P:=P) H.c2 hF t x
 have hi:=B5 (P:=P) H.c2 hF 0 y
 rw[hx]at hv;rw[hy]at hi
 obtain⟨q1,q2,q3,b,o,a',cap,e1,e2,e3,e4,_,_,e5⟩:=tL H hv hr
 rcases e5 with⟨e6,e7⟩|⟨_,e6,e7⟩
 ·omega
 refine G0 H (fun _ _ _ _ _ _=>EF e2 (M0 hi).1 (Y4 ht).1 e6 h0 h1) ⟨⟨q1,q2⟩,b,o,_,e1,?_,fun y hy=>?_⟩
 ·simp[B9,Stp.off]
 simp at hy;subst hy;simp only[Stp.ok];omega
theorem Ln{z:Nat}{g f:Nat->V}{olds:List Value}(o1:olds.length=N*z)(n1:news.length=M*z)(o4:∀i,i<N->rep X (g i) [] 2 ((olds.drop (i*z)).take z)/\(g i).mem=true)(n4:∀i,i<M->rep X (f i) [] 2 ((news.drop (i*z)).take z)/\(f i).mem=true):
  rep X (.ar z (N+M) fun i=>bif blt i N then g i else f (i-N)) [] 2 (olds++news):=by
 refine⟨by rw[C6,o1,n1,U3],fun i hi=>?_⟩
 have lX:i*z+z<=(N+M)*z:=by rw[<-G7];exact G2 _ hi
 rw[U3]at lX
 cases hb:blt i N
 ·have I2:¬ i<N:=by rw[<-A8,hb];simp
  have hNz:N*z<=i*z:=G2 _ zO
  have:=n4 (i-N) zO
  rw[uZ,eK zO,Y5,o1, <-nN]
  simp only[hb,cond_false]
  exact this
 have T4:=hb
 rw[A8]at hb
 have hNz:i*z+z<=N*z:=by rw[<-G7];exact G2 _ hb
 rw[qO zO,lG (by simp;omega)]
 simp only[T4,cond_true]
 exact o4 i hb
theorem TI(H:Wd X0 X h lv nm w0 w)(hF:FrR X lv nm n σ τ){q2 z:Nat}{f:Nat->V}(hu:Z0 P u=true)(hz:0<z)(hy:av P σ u y=.sl q2 z M f):∃news,Src P z u (ev n τ y) M news w/\news.length=M*z/\∀i,i<M->rep X (f i) [] 2 ((news.drop (i*z)).take z)/\(f i).mem=true:=by
 have aP:=B5 (P:=P) H.c2 hF u y
 rw[hy]at aP
 obtain⟨_,a2,cap2,g1,g2,g3,g4,g5,g6⟩:=aP
 have g1:ev n τ y=.slice a2 M cap2:=by simpa using g1
 obtain⟨e',hk⟩:=pQ hu
 have kE:∃news:List Value,news.length=M*z/\RdS w a2 news/\(∀x∈news,x.oneCell'=true)/\∀i,i<M->rep X (f i) [] 2 ((news.drop (i*z)).take z)/\(f i).mem=true:=by
  rcases g6 with⟨h1,h2⟩|⟨b,o,h1,h2,h3⟩
  ·have:M=0:=by omega
   subst this
   exact⟨[],by simp,.inl rfl,fun _ h=>by simp at h,fun i hi=>by omega⟩
  obtain⟨cs,q1,q2,q3⟩:=FR h2
  exact⟨cs,q1,h1▸H.rd (AQ q1 q3) q2,AQ q1 q3,q3⟩
 obtain⟨news,n1,n2,n3,n4⟩:=kE
 exact⟨news,by rw[g1];exact n2.src hk n1 hz n3,n1,n4⟩
theorem Lo(H:Wd X0 X h lv nm w0 w)(hF:FrR X lv nm n σ τ){q2 z:Nat}{g f:Nat->V}(dH:2<=r)(rN:r∈lv)(ht:Q0 P t z=true)(hu:Z0 P u=true)(hx:av P σ t x=.os r z)(hh:h r 0=.ar z N g)(hy:av P σ u y=.sl q2 z M f)(hb:(N+M)*V3 P (D6 P t)<=140737488355328):
  Good P X0 X h lv nm n τ w0 w ty (.call ⟨.builtin .append, #[x,y], #[t,u]⟩) (.os nm z) (D9 (D9 h r 0 .un) nm 0 (.ar z (N+M) fun i=>bif blt i N then g i else f (i-N))) (nm::del lv r):=by
 have hv:=B5 (P:=P) H.c2 hF t x
 rw[hx]at hv
 have y7:bB h r z=some N:=by unfold bB H7;rw[hh];simp[V.row,V.mem]
 obtain⟨q1,q2',q3,b,o,a,cap,e1,e2,e3,e4,eo,es,e5⟩:=tL H hv y7
 have hR:=H.rt r 0 b o _ e1
 rw[hh]at hR
 obtain⟨olds,o1,o2,o3,o4⟩:=hR
 obtain⟨f1,f2,f3⟩:=Y4 ht
 obtain⟨news,n1,n2,n3⟩:=TI H hF hu q3 hy
 have N2:N+M<=maxLen:=by
  have:N+M<=(N+M)*V3 P (D6 P t):=vF _ f3
  have:maxLen=9223372036854775807:=rfl
  omega
 obtain⟨a',M5,w',X',r1,r2,r3,r4,r5⟩:=FE (ty:=ty) (v:=.ar z (N+M) fun i=>bif blt i N then g i else f (i-N)) H (B2 nm) q2' q3 o3 e3 e4 (e5.imp (fun⟨h0,h1⟩=>⟨h0,h1 rN⟩) fun⟨h0,h1,h2⟩=>⟨b,o,eo,h0,e1,o4,.inr ⟨h1,h2 rN⟩⟩) f2 n1 es hb N2 (r8 o2 o1) rfl (Ln o3 n2 o1.2 n3)
 exact⟨X',w',.slice a' (N+M) M5,fun _ _ _ _=>cJ (s:=Builtin.append_ #[t,u] ty #[.slice a N cap,ev n τ y]) (vs:= #[.slice a N cap,ev n τ y]) (by simp[e2]) (fun _=>rfl) r1,r2,r3.up zO,rep.mono (v:=.os nm z) (Cx.le.rfl' _ _ _) zO r4,r5,fun h=>(by cases h)⟩
theorem Lp(H:Wd X0 X h lv nm w0 w)(hF:FrR X lv nm n σ τ){q2 z:Nat}{g f:Nat->V}(hz:0<z)(ht:Q0 P t z=true)(hu:Z0 P u=true)(hx:av P σ t x=.sl 1 z 0 g)(hy:av P σ u y=.sl q2 z M f)(hb:M*V3 P (D6 P t)<=140737488355328):
  Good P X0 X h lv nm n τ w0 w ty (.call ⟨.builtin .append, #[x,y], #[t,u]⟩) (.os nm z) (D9 (D9 h 0 0 .un) nm 0 (.ar z M f)) (nm::del lv 0):=by
 have hv:=B5 (P:=P) H.c2 hF t x
 rw[hx]at hv
 obtain⟨_,a,cap,e1,e2,e3,e4,e5,e6⟩:=hv
 have e1:ev n τ x=.slice a 0 cap:=by simpa using e1
 have e5:=e5 rfl
 subst e5
 obtain⟨f1,f2,f3⟩:=Y4 ht
 obtain⟨news,n1,n2,n3⟩:=TI H hF hu hz hy
 have N2:0+M<=maxLen:=by
  have:M<=M*V3 P (D6 P t):=vF _ f3
  have:maxLen=9223372036854775807:=rfl
  omega
 have W4:=H.c2
 obtain⟨a',M5,w',X',r1,r2,r3,r4,r5⟩:=FE (ty:=ty) (r:=0) (olds:=[]) (v:=.ar z M f) H (B2 nm) zO hz (by simp) e2 e3 (.inl ⟨rfl,rfl⟩) f2 n1 (fun b' o' sp h=>by
  rcases e6 with⟨h1,_⟩|⟨b2,o2,h1,_⟩
  ·have h3:=(h1.resolve_right (by decide)).symm.trans h;cases h3
  have h3:=h1.symm.trans h;cases h3;rfl) (by rw[J5];exact hb) N2 (fun _ h=>by simp at h) rfl ⟨by simpa using n2,fun i hi=>by simpa using n3 i hi⟩
 rw[J5]at r1 r4
 exact⟨X',w',.slice a' M M5,fun _ _ _ _=>cJ (s:=Builtin.append_ #[t,u] ty #[.slice a 0 0,ev n τ y]) (vs:= #[.slice a 0 0,ev n τ y]) (by simp[e1]) (fun _=>rfl) r1,r2,r3.up zO,rep.mono (v:=.os nm z) (Cx.le.rfl' _ _ _) zO r4,r5,fun h=>(by cases h)⟩
theorem Lq(H:Wd X0 X h lv nm w0 w)(hF:FrR X lv nm n σ τ){m:List UInt8}(ht:R9 P t=true)(hx:av P σ t x=.bl 1 [])(hs:SrcB P n τ w u y m)(hb:m.length*V3 P (D6 P t)<=140737488355328):
  Good P X0 X h lv nm n τ w0 w ty (.call ⟨.builtin .append, #[x,y], #[t,u]⟩) (.os nm 1) (D9 (D9 h 0 0 .un) nm 0 (.bs m.length m)) (nm::del lv 0):=by
 have hv:=B5 (P:=P) H.c2 hF t x
 rw[hx]at hv
 obtain⟨a,cap,e1,e2,e3,e4,e5,e6⟩:=hv
 have e1:ev n τ x=.slice a 0 cap:=by simpa using e1
 have e5:cap=0:=e5 rfl
 subst e5
 obtain⟨lW,hs2⟩:=hs
 obtain⟨f1,f2,f3⟩:=Y4 (aD ht).1
 have N2:0+m.length<=maxLen:=by
  have:m.length<=m.length*V3 P (D6 P t):=vF _ f3
  have:maxLen=9223372036854775807:=rfl
  omega
 have W4:=H.c2
 obtain⟨a',M5,w',X',r1,r2,r3,r4,r5⟩:=FE (ty:=ty) (r:=0) (n:=0) (cap:=0) (olds:=[]) (v:=.bs m.length m) H (B2 nm) zO (vG 0) (by simp) (B2 0) (by decide) (.inl ⟨rfl,rfl⟩) f2 lW (fun b' o' sp h=>by
  rcases e6 with⟨h1,_⟩|⟨b2,o2,h1,_⟩
  ·have h3:=(h1.resolve_right (by decide)).symm.trans h;cases h3
  have h3:=h1.symm.trans h;cases h3;rfl) (by rw[J5];exact hb) N2 (fun _ h=>by simp at h) rfl ⟨rfl,by simp⟩
 rw[J5]at r1 r4
 exact⟨X',w',.slice a' m.length M5,fun _ _ _ _=>cJ (s:=Builtin.append_ #[t,u] ty #[.slice a 0 0,ev n τ y]) (vs:= #[.slice a 0 0,ev n τ y]) (by simp[e1]) (fun _=>rfl) r1,r2,r3.up zO,rep.mono (v:=.os nm 1) (Cx.le.rfl' _ _ _) zO r4,r5,fun h=>(by cases h)⟩
theorem TJ{v q:V}{z a:Nat}{y w:V}{p:List Stp}(h1:FJ v q=some (r,z,y,i,w,a,p)):∃n',q=.pr r 0 (.e a z n'::p)/\v=.fo z y i w:=by
 cases q<;>simp only[FJ]at h1<;>try (cases h1;done)
 rename_i r' j p'
 cases j with
|succ j=>cases h1
|zero=>
  cases p' with
 |nil=>cases h1
 |cons s p'=>
   cases s with
  |f=>cases h1
  |e a' z' n'=>
    cases v<;>simp only at h1<;>try (cases h1;done)
    obtain⟨h2,h3⟩:=M7 h1 (by simp)
    have:=A5 h2
    subst this
    cases h3
    exact⟨n',rfl,rfl⟩
theorem Ls(H:Wd X0 X h lv nm w0 w)(hF:FrR X lv nm n σ τ){z a n':Nat}{y' v:V}{p:List Stp}(hx:av P σ 0 x=.pr r 0 (.e a z n'::p))(hh:H7 h r 0=.fo z y' i v)(hai:a=i)(hk:v.okp p=true)(hm:v.mem=true)(hym:y'.mem=true)(G3:v.sz=z)(aQ:r9 P t (v.get p)=true):
  Good P X0 X h lv nm n τ w0 w ty (.load t x) (v.get p) h lv:=by
 have hv:=B5 (P:=P) H.c2 hF 0 x
 rw[hx]at hv
 obtain⟨b,o,N,h1,h2,h3⟩:=gQ hv
 have j5:(H7 h r 0).mem=true:=by rw[hh];simp[V.mem,hm,hym,G3]
 obtain⟨cs,q1,q2,q3,q4⟩:=AZ H h1 j5 rfl
 rw[hh]at q1
 obtain⟨f1,_,f3⟩:=q1
 subst hai
 obtain⟨r1,r2,r3⟩:=dS (Q1 H) H.c2 hk (fun y hy=>h3 y (R5 _ hy)) hm f3
 have D7:(List.take z (List.drop (a*z) cs)).length=z:=by simp;omega
 rw[D7]at r1
 rw[LD _ _ _ _ _ r1]at r3
 refine LR H h2 (fun u hu k x hk=>?_) r2 aQ r3
 rw[t7]at hk
 split at hk
 ·rw[Q5]at hk
  simp only[B9,Stp.off]
  rw[show o+(a*z+B9 p)+k=o+(a*z+B9 p+k) by omega];exact q4 u hu _ _ hk
 cases hk
theorem Lt{a:Nat}(h1:a+es.length<=cs.length)(h2:o+xs.length<=es.length):ins (ins cs (a+o) xs) a es=ins cs a es:=by
 have hl:(ins cs (a+o) xs).length=cs.length:=o9 zO
 apply V7
 intro i
 unfold ins at hl ⊢
 simp only[H9,zL,F7,K4,C6,t7,Q5]at hl ⊢
 have e1:min (a+o) cs.length=a+o:=by omega
 have e2:min a cs.length=a:=by omega
 simp only[e1,e2]at hl ⊢
 have e3:min a (a+o+(xs.length+(cs.length-(a+o+xs.length))))=a:=by omega
 simp only[e3]
 by_cases hi:i<a
 ·simp[hi,show i<a+o by omega]
 by_cases hj:i-a<es.length
 ·simp[hi,hj]
 simp only[hi,hj,if_false,show ¬ (a+es.length+(i-a-es.length)<a+o) by omega,show ¬ (a+es.length+(i-a-es.length)-(a+o)<xs.length) by omega]
 congr 1;omega
theorem Lu{ys:List Value}{a z:Nat}(h1:a+z<=cs.length)(h2:ys.length=z):((ins cs a ys).drop a).take z=ys:=by
 unfold ins
 have hm:(List.take a cs).length=a:=by simp;omega
 rw[H9,List.drop_left' hm,List.take_left' h2]
theorem Lw(H:Wd X0 X h lv nm w0 w)(hF:FrR X lv nm n σ τ){z a n':Nat}{y' v v2:V}{p:List Stp}(hx:av P σ 0 x=.pr r 0 (.e a z n'::p))(hy:repv X lv nm v2 (ev n τ y))(hh:h r 0=.fo z y' i v)(hai:a=i)(hk:v.okp p=true)(hs:v.oks p v2=true)(hm:v.mem=true)(hym:y'.mem=true)(G3:v.sz=z)
  (dL:v2.mem=true)(hz:v2.sz=(v.get p).sz)(hc:K2 P t=some v2.sz):BA P X0 X lv nm n τ w0 w ty (.store t x y) (D9 h r 0 (.fo z y' i (v.set p v2))) lv:=by
 have hv:=B5 (P:=P) H.c2 hF 0 x
 rw[hx]at hv
 obtain⟨b,o,N,h1,h2,h3⟩:=gQ hv
 have hR:=H.rt r 0 b o N h1
 rw[hh]at hR
 obtain⟨cs,⟨f1,⟨es,f2,f4⟩,f3⟩,q2,q3,q4⟩:=hR
 subst hai
 have h3':∀y∈p,y.ok:=fun y hy=>h3 y (R5 _ hy)
 have wC:=AY H dL hy
 have fT:=X3 dL wC
 have fit:=(dS (Q1 H) H.c2 hk h3' hm f3).1
 have D7:(List.take z (List.drop (a*z) cs)).length=z:=by simp;omega
 rw[D7]at fit
 obtain⟨s1,s2,s3⟩:=FA (Q1 H) H.c2 hk hs h3' hm f3 dL hz wC
 have kE:rep X (.fo z y' a (v.set p v2)) lv nm (ins cs (a*z+B9 p) (ev n τ y).cells.toList):=by
  have hl:(ins cs (a*z+B9 p) (ev n τ y).cells.toList).length=cs.length:=o9 zO
  refine⟨by rw[hl];exact f1,⟨es,f2,?_⟩,?_⟩
  ·rw[Lt zO zO];exact f4
  rw[<-EY (l:=z) zO zO]
  rw[Lu zO (by rw[o9 zO];exact D7)]
  exact s1
 have j5:(V.fo z y' a (v.set p v2)).mem=true:=by simp only[V.mem,hym,s2,s3,G3,P6,Bool.and_self]
 have H2:=H.store h1 (off:=a*z+B9 p) (xs:=(ev n τ y).cells.toList) q4 q3 zO j5 kE
 have eO:∀k,k<(ev n τ y).cells.toList.length->X.G b (o+(a*z+B9 p)+k)=.rt r 0 (a*z+B9 p+k)/\(w.cell? (ad b (o+(a*z+B9 p)+k))).isSome=true/\w.frozen? (ad b (o+(a*z+B9 p)+k))=false:=fun k hk=>by
  obtain⟨a1,a2,a3⟩:=q4 (a*z+B9 p+k) _ (B6 zO)
  rw[O7]
  exact⟨a1,by rw[a2];rfl,a3.1⟩
 have I0:=run_storeCells_cells (P:=P) b (o+(a*z+B9 p)) (ev n τ y).cells.toList 0 w (fun k hk=>by simpa using (eO k hk).2.1) (fun k hk=>by simpa using (eO k hk).2.2) (fun z hz=>r8 dL wC z hz)
 simp only[t8]at I0
 have hszz:(ev n τ y).cells.size=v2.sz:=by rw[<-fT,u6]
 have h5:=mI hc w
 refine⟨X,_,fun _ _ _=>?_,Cx.le.rfl' X lv nm,H2.up zO⟩
 simp only[B9,Stp.off]at h2
 simp[execOp,h2,Instr.storeAt,Instr.sureAddr,storeVar,h5,hszz,I0]
theorem UnM.mark{b:Nat}{w:World}{C:Array Value}{T:TypeId}{fr:Nat×Nat}(h:UnM w b)(hb:w.heap[b]? =some (.cells C T fr)):∃bR,(bR=(0,0)\/C.size<=bR.1)/\∀j,(w.freeze ⟨b,C.size,none⟩ 1).heap[j]? =if b=j then some (.cells C T bR) else w.heap[j]? :=by
 obtain⟨x,y⟩:=fr
 refine⟨if x==y then (C.size,C.size+1) else (min x C.size,max y (C.size+1)),?_,fun k=>?_⟩
 ·rcases h C T _ hb with h|h
  ·cases h;exact .inr (B2 _)
  split
  ·exact .inr (B2 _)
  refine .inr ?_;simp only[Nat.le_min];exact⟨h,B2 _⟩
 unfold World.freeze
 rw[if_neg (by decide)]
 simp only[JH]
 split
 ·rename_i hk;subst hk;rw[hb];rfl
 rfl
theorem Wd.mark(H:Wd X0 X h lv nm w0 w){b:Nat}{C:Array Value}{T:TypeId}{fr:Nat×Nat}(hk:X.ν<=b)(hb:w.heap[b]? =some (.cells C T fr))(hi:∃x,X.G b 0=.fz x):Wd X0 X h lv nm w0 (w.freeze ⟨b,C.size,none⟩ 1):=by
 rw[H.νe]at hk
 obtain⟨bR,f1,hh⟩:=(H.nf b hk ⟨0,by obtain⟨x,hx⟩:=hi;rw[hx];simp⟩).mark hb
 have e:(w.freeze ⟨b,C.size,none⟩ 1).heap.size=w.heap.size:=by unfold World.freeze;rw[if_neg (by decide)];simp
 have es:(w.freeze ⟨b,C.size,none⟩ 1).os=w.os/\(w.freeze ⟨b,C.size,none⟩ 1).tape=w.tape/\(w.freeze ⟨b,C.size,none⟩ 1).output=w.output:=by unfold World.freeze;rw[if_neg (by decide)];exact⟨rfl,rfl,rfl⟩
 have cell:∀b' i,(w.freeze ⟨b,C.size,none⟩ 1).cell? (ad b' i)=w.cell? (ad b' i):=fun b' i=>by
  unfold World.cell?
  rw[hh]
  by_cases O3:b=b'
  ·subst O3;simp[hb]
  simp[O3]
 have frz:∀b' i,(w.cell? (ad b' i)).isSome=true->w.frozen? (ad b' i)=false->(w.freeze ⟨b,C.size,none⟩ 1).frozen? (ad b' i)=false:=fun b' i hc hf=>by
  unfold World.frozen? at hf ⊢
  rw[hh]
  by_cases O3:b=b'
  ·subst O3
   unfold World.cell? at hc
   simp only[hb]at hc
   have hi:i<C.size:=by
    cases hci:C[i]? with
   |none=>simp[hci]at hc
   |some v=>exact(Z4.1 hci).1
   simp only[if_true]
   obtain⟨x,y⟩:=bR
   simp only at f1 ⊢
   rcases f1 with f1|f1
   ·cases f1;simp
   simp only[Bool.and_eq_false_iff,decide_eq_false_iff_not];left;omega
  rw[if_neg O3];exact hf
 refine { H with kb:=⟨es.1.trans H.kb.1,es.2.2.trans H.kb.2.1,fun i hi=>?_⟩,tape:=es.2.1.trans H.tape,ex:=fun b i hn=>by rw[e];exact H.ex b i hn,fz:=fun b' i x hx=>FzOk.move (w:=w) (fun _ _ _ h=>h) (cell b' i) (fun es F8 hm=>by rw[hh];by_cases O3:b=b';(subst O3;rw[hb]at hm;cases hm);(rw[if_neg O3];exact hm)) (H.fz b' i x hx),tp:=fun b i t hx=>?_,rt:=fun r j b' o N hr=>?_,νs:=by rw[e];exact H.νs,nf:=fun b' I2 G9 C' T' fr2 he=>?_}
 ·have:=H.kb.2.2 i hi
  rw[hh,if_neg (by have:=H.ν0;omega)]
  exact this
 ·obtain⟨q1,q2⟩:=H.tp b i t hx
  exact⟨by rw[cell];exact q1,frz _ _ q1 q2⟩
 ·refine(H.rt r j b' o N hr).mono (Cx.le.rfl' X lv nm) (B2 _) fun _ cs _ hL _ k x hk=>?_
  obtain⟨q1,q2,q3⟩:=hL k x hk
  refine⟨q1,by rw[cell];exact q2,frz _ _ (by rw[q2];rfl) q3.1,fun e0 j=>?_⟩
  have O3:b≠b':=fun e=>by
   obtain⟨x,hx⟩:=hi
   rw[e0, <-e,hx]at q1;cases q1
  have:=q3.2 e0 j
  unfold World.frozen? at this ⊢
  rw[hh,if_neg O3];exact this
 rw[hh]at he
 split at he
 ·cases he;exact f1
 exact H.nf b' I2 G9 C' T' fr2 he
theorem Lx(H:Wd X0 X h lv nm w0 w)(hF:FrR X lv nm n σ τ){l:List UInt8}(hs:R9 P t=true)(hx:FK σ x=some l)(h0:l≠[]):Good P X0 X h lv nm n τ w0 w ty (.convert t t x) (.bl 1 l) h lv:=by
 have hpos:0<l.length:=JE.2 h0
 cases x<;>simp only[FK]at hx<;>try (cases hx;done)
 rename_i d
 have hv:=hF d
 cases hd:σ d<;>rw[hd]at hx hv<;>simp only[F2,reduceCtorEq]at hx
 rename_i l2
 subst hx
 have aP:=SI hv
 obtain⟨_,a,cap,e1,e2,e3,e4,e5,e6⟩:=hv
 have e1':ev n τ (.tmp d)=.slice a l2.length cap:=by simpa using e1
 rcases e6 with⟨e6,e7⟩|⟨b,o,e6,⟨e7,rfl,e8⟩,_⟩
 ·omega
 subst e6
 obtain⟨q1,q2⟩:=aD hs
 obtain⟨hu,rF⟩:(∃e,P.underlying t=some (.slice e))/\True:=by
  have:=q1;unfold Q0 at this;rw[A9]at this;exact⟨pQ this.1,zT⟩
 obtain⟨e,hu⟩:=hu
 have he:P.underlying e=some (.int .u8):=by
  have:D6 P t=e:=by unfold D6;rw[hu]
  rw[this]at q2
  exact q2
 have Q7:X.G b 0=.fz (E9 (l2[0]'hpos)):=by have:=e8 0 (E9 (l2[0]'hpos)) (by simp[hpos]);simpa using this
 have oB:=H.cell Q7 rfl
 unfold World.cell? at oB
 cases hb:w.heap[b]? with
|none=>simp[hb]at oB
|some ob=>
  cases ob<;>simp only[hb]at oB<;>try (cases oB;done)
  rename_i C T fr
  have hsh:w.shape? b=some (T,C.size):=by simp[World.shape?, hb]
  have hi:∃x,X.G b 0=.fz x:=⟨_,Q7⟩
  have H2:=H.mark e7 hb hi
  refine⟨X,w.freeze ⟨b,C.size,none⟩ 1,.slice (some ⟨b,0,none⟩) l2.length cap,fun dd pos aft g=>?_,Cx.le.rfl' X lv nm,H2.up zO,?_,fun b' i x hx=>?_,fun hp=>?_⟩
  ·simp only[execOp,e1',D0,convert,run_underlying hu,F6]
   simp[run_underlying he,markStringish,hsh]
  ·rw[<-e1'];exact aP.mono (Cx.le.rfl' X lv nm) zO
  ·have:C8 X (w.freeze ⟨b,C.size,none⟩ 1) b' i=C8 X w b' i:=by
    unfold C8
    cases X.G b' i<;>try rfl
    rw[show(w.freeze ⟨b,C.size,none⟩ 1).cell? (ad b' i)=w.cell? (ad b' i) from by
     obtain⟨bR,f1,hh⟩:=(H.nf b (by rw[<-H.νe];exact e7) ⟨0,by rw[Q7];simp⟩).mark hb
     unfold World.cell?
     rw[hh]
     by_cases O3:b=b'
     ·subst O3;simp[hb]
     simp[O3]]
   rw[this];exact hx
  simp only[tH]at hp
  have:Z0 P t=true:=by have:=q1;unfold Q0 at this;rw[A9]at this;exact this.1
  rw[this]at hp;cases hp
theorem Lz(i m:Nat)(h:i<m):(madeCells #[Value.int .u8 0] m)[i]? =some (.int .u8 0):=by simp[madeCells,h,Nat.mod_one]
theorem Ma{l d:Nat}{k:IntKind}{pos:String}{aft:Array Edge}{gd:Option (Nat×Bool)}(ht:R9 P t=true)(P8:V3 P (D6 P t)=1)(hz:zeroCells P (D6 P t)=some [.int .u8 0])(hx:ev n τ x=.int k (l:Int))(hy:ev n τ y=.int k' (c:Int))(hlc:l<=c)(hc:c<=1000000000000):
  (execOp (ev n τ) ⟨some d,.makeSlice t x y,ty,pos,aft,gd⟩).run P w=.ok (.value (.slice (some ⟨w.heap.size,0,none⟩) l c)) (w.alloc (.cells (madeCells #[.int .u8 0] c) (D6 P t))):=by
 obtain⟨T3,z0,hi,y8,G3,fS,eM⟩:=(Y4 (aD ht).1).2.1.row
 have hzc:z0.cells= #[.int .u8 0]:=by
  unfold zeroCells at hz
  simp[hi,y8]at hz
  apply U2;simpa using hz
 have hr:=run_make (P:=P) (w:=w) t (D6 P t) T3 z0 (Y4 (aD ht).1).2.1.und hi y8 k k' (l:Int) (c:Int) zO zO (by rw[fS,P8];omega) zO
 rw[jT,jT,G3,hzc,l5]at hr
 simp only[execOp,hx,hy,D0,hr,F6];rfl
theorem Mb(H:Wd X0 X h lv nm w0 w)(hF:FrR X lv nm n σ τ){a b:Int}{k:IntKind}(ht:R9 P t=true)(P8:V3 P (D6 P t)=1)(hz:zeroCells P (D6 P t)=some [.int .u8 0])(hx:av P σ 0 x=.i k a)(hy:av P σ 0 y=.i k' b)(h0:0<a/\a<=b/\b<=1000000000000):
  Good P X0 X h lv nm n τ w0 w ty (.makeSlice t x y) (.os nm 1) (D9 (D9 h 0 0 .un) nm 0 (.bs a.toNat (replicate a.toNat 0))) (nm::del lv 0):=by
 have ex:=B5 (P:=P) H.c2 hF 0 x
 have ey:=B5 (P:=P) H.c2 hF 0 y
 rw[hx]at ex;rw[hy]at ey
 obtain⟨l,rfl⟩:=qL (show 0<=a by omega)
 obtain⟨c,rfl⟩:=qL (show 0<=b by omega)
 have w4:(madeCells #[Value.int .u8 0] c).size=c:=size_madeCells _ _
 have W4:=H.c2
 obtain⟨r1,r2,r3⟩:=H.newOwn (nm:=nm) (N:=l) (M:=c) (B2 nm) (madeCells #[.int .u8 0] c) (D6 P t) zO (by rw[w4];exact B2 _) (v:=.bs l (replicate l 0)) rfl ⟨by simp,by
  apply V7
  intro i
  by_cases hi:i<l
  ·rw[eJ hi,vE,Lz i c zO]
   simp[hi,E9]
  rw[V6 (by simp;omega),V6 (by simp;omega)]⟩
 have hm:c<=maxLen:=by have:maxLen=9223372036854775807:=rfl;omega
 simp only[jT]
 refine⟨_,_,.slice (some ⟨w.heap.size,0,none⟩) l c,fun _ _ _ _=>Ma ht P8 hz (M0 ex).1 (M0 ey).1 zO zO,r1,r2.up zO,⟨zO,vG 0,w.heap.size,l,by simp[Cx.ownS],?_,fun h=>by omega⟩,r3,fun h=>by simp[tH]at h⟩
 refine⟨_,c,rfl,zO,hm,zO,fun h1=>by omega,.inr ⟨_,0,rfl,fun _=>⟨rfl,rfl⟩,fun _ i hi G9=>?_⟩⟩
 simp only[Cx.ownS,if_true,J5]
 rw[if_neg zO,if_pos zO]
theorem Mc(H:Wd X0 X h lv nm w0 w)(hF:FrR X lv nm n σ τ){b:Int}{k:IntKind}(ht:R9 P t=true)(P8:V3 P (D6 P t)=1)(hx:ev n τ x=.int k 0)(hy:av P σ 0 y=.i k' b)(h0:0<=b/\b<=1000000000000):
  Good P X0 X h lv nm n τ w0 w ty (.makeSlice t x y) (.bl nm []) h (nm::lv):=by
 have ey:=B5 (P:=P) H.c2 hF 0 y
 rw[hy]at ey
 obtain⟨c,rfl⟩:=qL h0.1
 obtain⟨T3,z0,hi,y8,G3,fS,eM⟩:=(Y4 (aD ht).1).2.1.row
 have hr:=run_make (P:=P) (w:=w) t (D6 P t) T3 z0 (Y4 (aD ht).1).2.1.und hi y8 k k' ((0:Nat):Int) (c:Int) zO zO (by rw[fS,P8];omega) zO
 rw[jT,jT,G3,l5]at hr
 have w4:(madeCells z0.cells c).size=c:=size_madeCells _ _
 have W4:=H.c2
 have rel:X.le X lv (nm::lv) nm/\Wd X0 X h (nm::lv) (nm+1) w0 w:=H.relv zO (fun t' ht' hlt=>by
   rcases K8.1 ht' with rfl|ht'
   ·omega
   ·exact ht') (fun t' ht'=>by
   rcases K8.1 ht' with rfl|ht'
   ·omega
   have:=H.lvc t' ht';omega)
 let f:Nat->Ow:=fun i=>if i<c then .tp nm else .no
 have H2:=rel.2.new (madeCells z0.cells c) (D6 P t) (0,0) f (fun i x hx=>by simp only[f]at hx;split at hx<;>cases hx) (fun i t hx=>by
  simp only[f]at hx
  split at hx
  ·exact⟨by rw[w4];assumption,by simp⟩
  cases hx) (.inl rfl)
 have B1:=rel.2.new_le f
 have hm:c<=maxLen:=by have:maxLen=9223372036854775807:=rfl;omega
 refine⟨_,_,.slice (some ⟨w.heap.size,0,none⟩) 0 c,fun _ _ _ _=>?_,⟨fun b i x hx=>B1.fz _ _ _ hx,fun b i t' ht' hlt hx=>B1.tp _ _ _ ht' zO hx,rel.1.lv,fun _ _ _ _ _ h=>h,rfl⟩,H2.up zO,⟨some ⟨w.heap.size,0,none⟩,c,rfl,L8 _,hm,zO,fun h1=>by omega,.inr ⟨_,0,rfl,fun k x hk=>by simp at hk,fun _ i hi G9=>?_⟩⟩,rel.2.new_y f _,fun h=>by simp[tH]at h⟩
 ·simp only[execOp,hx,(M0 ey).1,D0]
  rw[show(Value.int k 0)=.int k ((0:Nat):Int) from rfl,hr]
  simp only[F6];rfl
 simp only[Cx.new,if_true,f,J5]
 rw[if_pos zO]
end
section
variable {nm n:Nat} {σ:Fr} {ty t u:TypeId} {x y:Operand}
theorem Md(H:Wd X0 X h lv nm w0 w)(hF:FrR X lv nm n σ τ){p:List Stp}(ha:V0 P t=some (m,1))(hx:av P σ t x=.pr r 0 p)(hm:m<=maxLen):Good P X0 X h lv nm n τ w0 w ty (.slice t x none none none) (.vw r p 0 m) h lv:=by
 have hv:=B5 (P:=P) H.c2 hF t x
 rw[hx]at hv
 obtain⟨b,o,N,h1,h2,h3⟩:=gQ hv
 refine G0 H (rv:=.slice (some (ad b (o+B9 p))) m m) (fun u _ d pos aft g=>?_) ⟨hv.1,h3,b,o,N,m,h1,by simp,B2 _,hm⟩;have:=EE (P:=P) (ty:=ty) (d:=d) (pos:=pos) (aft:=aft) (g:=g) (w:=u) (lo:=none) (hi:=none) (mx:=none) h2 ha rfl rfl rfl (fun w=>EC w)
 have e:sa (some (ad b (o+B9 p))) 0 m 1=some (ad b (o+B9 p)):=by
  unfold sa;split
  ·rfl
  simp[Addr.add]
 rw[e]at this
 simpa using this
theorem Me(H:Wd X0 X h lv nm w0 w)(hF:FrR X lv nm n σ τ){p:List Stp}{k:IntKind}{a:Int}(ha:V0 P t=some (m,1))(hx:av P σ t x=.pr r 0 p)(hy:av P σ 0 y=.i k a)(hm:m<=maxLen)(h0:0<=a)(hlt:a<m):
  Good P X0 X h lv nm n τ w0 w ty (.slice t x (some y) none none) (.vw r p a.toNat (m-a.toNat)) h lv:=by
 have hv:=B5 (P:=P) H.c2 hF t x
 have hi:=B5 (P:=P) H.c2 hF 0 y
 rw[hx]at hv;rw[hy]at hi
 obtain⟨b,o,N,h1,h2,h3⟩:=gQ hv
 refine G0 H (rv:=.slice (some (ad b (o+B9 p+a.toNat))) (m-a.toNat) (m-a.toNat)) (fun u _ d pos aft g=>?_) ⟨hv.1,h3,b,o,N,m-a.toNat,h1,rfl,B2 _,zO⟩;have:=EE (P:=P) (ty:=ty) (d:=d) (pos:=pos) (aft:=aft) (g:=g) (w:=u) (lo:=some y) (hi:=none) (mx:=none) (lv:=some (.int k a)) h2 ha (by simp[(M0 hi).1]) rfl rfl (fun w=>EB h0 zO w)
 have e:sa (some (ad b (o+B9 p))) a.toNat m 1=some (ad b (o+B9 p+a.toNat)):=by
  unfold sa;split
  ·omega
  simp[Addr.add]
 rw[e]at this
 exact this
def FT(P:Program)(X0 X:Cx)(lv:List Nat)(nm n:Nat)(τ:Nat->Value)(w0 w:World)(ty:TypeId)(op:Op)(v:V)(h':Nat->Nat->V)(lv':List Nat):Prop:=
 ∃X' w' rv,(∀(d:Nat) (pos:String) (aft:Array Edge) (g:Option (Nat×Bool)),(execOp (ev n τ) ⟨some d,op,ty,pos,aft,g⟩).run P w=.ok (.value rv) w')/\X.le X' lv lv' nm/\Wd X0 X' h' lv' (nm+64) w0 w'/\repv X' lv' (nm+64) v rv
theorem Mf(H:Wd X0 X h lv nm w0 w)(hF:FrR X lv nm n σ τ){a b o:Nat}{p:List Stp}{A:Option Addr}{l src:List UInt8}(ht:R9 P t=true)(hu:Z0 P u=true)(hxv:ev n τ x=.slice A N cap)(hA:A=some ⟨b,o+B9 p+a,none⟩\/((∀b o sp,A=some ⟨b,o,sp⟩->sp=none)/\N=0))(hρ:X.ρ r 0=some (b,o,M))(hp:∀x∈p,x.ok)(hN:N<=maxLen)
  (hy:av P σ u y=.bl q src)(wA:tD (h r 0)=false)(hk:(h r 0).okp p=true)(hs:(h r 0).oks p (.bs m l)=true)(j5:(h r 0).mem=true)(hg:(h r 0).get p=.bs m l)(Y9:a+N<=m):
  FT P X0 X lv nm n τ w0 w ty (.call ⟨.builtin .copy, #[x,y], #[t,u]⟩) (.i .i64 (min src.length N:Nat)) (D9 h r 0 ((h r 0).set p (.bs m (l.take a++src.take N++l.drop (a+min src.length N))))) lv:=by
 have hvy:=B5 (P:=P) H.c2 hF u y
 rw[hy]at hvy
 obtain⟨ay,wF,e1,e2,e3,e4,e5,e6⟩:=hvy
 have e1:ev n τ y=.slice ay src.length wF:=by simpa using e1
 have hR:=H.rt r 0 b o M hρ
 have oA:∃cs,rep X (h r 0) lv nm cs/\(h r 0).mem=true/\cs.length=M/\R4 X w r 0 b o cs:=by
  cases hv:h r 0<;>rw[hv]at j5
  case ro v=>rw[hv]at wA;cases wA
  case un=>cases j5
  all_goals (rw[hv]at hR;exact hR)
 obtain⟨cs,q1,q2,q3,q4⟩:=oA
 obtain⟨g1,g2,g3⟩:=dS (Q1 H) H.c2 hk hp q2 q1
 rw[hg]at g1 g3
 obtain⟨l1,l2⟩:=g3
 have g1:B9 p+m<=cs.length:=g1
 have hmin:min src.length N<=N:=Nat.min_le_right _ _
 have tkl:(src.take N).length=min src.length N:=by rw[F7,Nat.min_comm]
 have xsl:((src.take N).map E9).length=min src.length N:=by rw[J7,tkl]
 have row:((l.take a++src.take N++l.drop (a+min src.length N)).map E9)=ins ((cs.drop (B9 p)).take m) a ((src.take N).map E9):=by
  have e:(cs.drop (B9 p)).take m=l.map E9:=l2
  rw[e]
  unfold ins
  rw[xsl]
  simp only[lI,vC,List.map_drop]
 have rowl:(l.take a++src.take N++l.drop (a+min src.length N)).length=m:=by simp;omega
 obtain⟨s1,s2,s3⟩:=FA (Q1 H) H.c2 (x:=.bs m (l.take a++src.take N++l.drop (a+min src.length N))) hk (by
  have dB:∀{p:List Stp} {v:V} {l l':List UInt8},v.oks p (.bs m l)=true->v.oks p (.bs m l')=true:=by
   intro p
   induction p with
  |nil=>intro v l l' _;cases v<;>rfl
  |cons y p ih=>
    intro v l l' h
    cases v<;>cases y
    case st.f=>exact ih h
    case ar.e=>simp only[V.oks,A9]at h ⊢;exact⟨ih h.1,rfl⟩
    all_goals cases h
  exact dB hs) hp q2 q1 rfl (by rw[hg];rfl) (xs:=(l.take a++src.take N++l.drop (a+min src.length N)).map E9) ⟨rowl,rfl⟩
 rw[row,EY zO (by rw[xsl];omega)]at s1
 have H2:=H.store hρ (off:=B9 p+a) (xs:=(src.take N).map E9) q4 q3 (by rw[xsl];omega) s2 s1
 have eO:∀k,k<((src.take N).map E9).length->(w.cell? (ad b (o+B9 p+a+k))).isSome=true/\w.frozen? (ad b (o+B9 p+a+k))=false:=fun k hk=>by
  rw[xsl]at hk
  obtain⟨a1,a2,a3⟩:=q4 (B9 p+a+k) _ (B6 zO)
  rw[show o+B9 p+a+k=o+(B9 p+a+k) by omega]
  exact⟨by rw[a2];rfl,a3.1⟩
 have one:∀z∈(src.take N).map E9,z.oneCell'=true:=fun z hz=>by obtain⟨_,_,rfl⟩:=J6.1 hz;rfl
 have I0:=fun(b' o':Nat) (hb:N=0\/(b'=b/\o'=o+B9 p+a))=>run_storeCells_cells (P:=P) b' o' ((src.take N).map E9) 0 w (fun k hk=>by
  rcases hb with hb|⟨rfl,rfl⟩
  ·subst hb;simp at hk
  ·simpa using (eO k hk).1) (fun k hk=>by
  rcases hb with hb|⟨rfl,rfl⟩
  ·subst hb;simp at hk
  simpa using (eO k hk).2) one
 simp only[t8]at I0
 obtain⟨e',i8⟩:=pQ hu
 have iN:RdS w ay (src.map E9):=by
  rcases e6 with⟨h1,h2⟩|⟨b,o,rfl,hw,_⟩
  ·have:src=[]:=l4.1 zO
   subst this;exact .inl rfl
  exact H.rd (xD _) hw
 have vM:(Builtin.firstCells 1 (Nat.min src.length N) (.slice ay src.length wF)).run P w=.ok ((src.take N).map E9).toArray w:=by
  have hh:=iN.take N
  rw[<-vC]at hh
  have J9:Src P 1 u (.slice ay (min src.length N) wF) (min src.length N) ((src.take N).map E9) w:=hh.src i8 (by rw[xsl];omega) zO one
  have:=J9.cells
  cases ay<;>exact this
 obtain⟨f1,f2,f3⟩:=Y4 (aD ht).1
 have W3:i64.wrap ((min src.length N:Nat):Int)=((min src.length N:Nat):Int):=BB zO
 have I1:∀w',(match A with|some ⟨b',o',sp⟩=>w'=w.setCells b' o' ((src.take N).map E9)/\sp=none/\(N=0\/(b'=b/\o'=o+B9 p+a))|none=>w'=w)->(Builtin.copy_ #[t,u] ty #[.slice A N cap,.slice ay src.length wF]).run P w=.ok (VI ((min src.length N:Nat):Int)) w':=fun w' iJ=>by
  have G3:∀w,(sizeOf (D6 P t)).run P w=.ok 1 w:=fun w=>by
   have hs:=(aD ht).1
   unfold Q0 at hs
   rw[A9]at hs
   have h2:=hs.2
   split at h2
   ·rename_i i hi
    rw[A9,A9]at h2
    simp[sizeOf,typeInfo,hi,A5 h2.1.1]
   cases h2
  have hut:∃e,P.underlying t=some (.slice e)/\D6 P t=e:=by
   have hs:=(aD ht).1
   unfold Q0 at hs
   rw[A9]at hs
   obtain⟨e,he⟩:=pQ hs.1
   exact⟨e,he,by unfold D6;rw[he]⟩
  obtain⟨et,hut,het⟩:=hut
  rw[het]at G3
  rw[vC]at vM I0
  cases A with
 |none=>subst iJ;simp[Builtin.copy_,run_underlying hut,Builtin.lenOf,G3,vM,goInt]
 |some a'=>
   obtain⟨b',o',sp⟩:=a'
   obtain⟨rfl,rfl,hb⟩:=iJ
   have I0:=I0 b' o' hb
   simp[Builtin.copy_,run_underlying hut,Builtin.lenOf,G3,vM,I0,goInt]
 have fin:∀w',w'=w.setCells b (o+(B9 p+a)) ((src.take N).map E9)->(Builtin.copy_ #[t,u] ty #[.slice A N cap,.slice ay src.length wF]).run P w=.ok (VI ((min src.length N:Nat):Int)) w'->FT P X0 X lv nm n τ w0 w ty (.call ⟨.builtin .copy, #[x,y], #[t,u]⟩) (.i .i64 (min src.length N:Nat)) (D9 h r 0 ((h r 0).set p (.bs m (l.take a++src.take N++l.drop (a+min src.length N))))) lv:=fun w' e hr=>
  ⟨X,w',VI ((min src.length N:Nat):Int),fun _ _ _ _=>cJ (s:=Builtin.copy_ #[t,u] ty #[.slice A N cap,.slice ay src.length wF]) (vs:= #[.slice A N cap,.slice ay src.length wF]) (by simp[hxv,e1]) (fun _=>rfl) hr,Cx.le.rfl' X lv nm,by rw[e];exact H2.up zO,⟨rfl,W3⟩⟩
 rcases hA with rfl|⟨hs,rfl⟩
 ·exact fin _ rfl (I1 _ ⟨by rw[O7],rfl,.inr ⟨rfl,rfl⟩⟩)
 refine fin w (by simp[World.setCells]) (I1 w ?_)
 cases A with
 |none=>rfl
 |some a'=>obtain⟨b',o',sp⟩:=a';exact⟨by simp[World.setCells],hs _ _ _ rfl,.inl rfl⟩
end
def x7(r:Rs)(v:V)(h:Nat->Nat->V)(lv:List Nat):Prop:=r=.ok v h lv\/r=.chk true v h lv
theorem I6{v:V}(ho:x7 (.ok v h lv) v' h' lv'):v=v'/\h=h'/\lv=lv':=by
 rcases ho with ho|ho
 ·cases ho;exact⟨rfl,rfl,rfl⟩
 cases ho
theorem f7{p:Bool}{v:V}(ho:x7 (.chk p v h lv) v' h' lv'):p=true/\v=v'/\h=h'/\lv=lv':=by
 rcases ho with ho|ho
 ·cases ho
 cases ho;exact⟨rfl,rfl,rfl,rfl⟩
theorem E5(ho:x7 .bad v' h' lv'):False:=by rcases ho with ho|ho<;>cases ho
theorem I7{b:Bool}{r:Rs}(ho:x7 (bif b then r else .bad) v' h' lv'):b=true/\x7 r v' h' lv':=by
 cases b
 ·exact(E5 ho).elim
 exact⟨rfl,ho⟩
theorem Mg{lit p:Bool}{v:V}{s:T}(ho:x7 (chkB lit p v s) v' h' lv'):p=true/\v=v'/\s.h=h'/\s.lv=lv':=by
 cases lit
 ·exact f7 ho
 cases p
 ·exact(E5 ho).elim
 obtain⟨h1,h2,h3⟩:=I6 ho
 exact⟨rfl,h1,h2,h3⟩
theorem BC{o:Option V}{s:T}(ho:x7 (xK o s) v' h' lv'):o=some v'/\s.h=h'/\s.lv=lv':=by
 cases o with
|none=>exact(E5 ho).elim
|some v=>obtain⟨rfl,h2,h3⟩:=I6 ho;exact⟨rfl,h2,h3⟩
section
variable {s:T} {nm n:Nat} {ty t u:TypeId} {x y:Operand} {v:V}
theorem Mh(H:Wd X0 X s.h s.lv nm w0 w)(hF:FrR X s.lv nm n s.σ τ){op:BinOp}{lit:Bool}(ho:x7 (LG P op t (av P s.σ t x) (av P s.σ t y) lit s) v h' lv'):Good P X0 X s.h s.lv nm n τ w0 w ty (.binOp op t x y yt) v h' lv':=by
 cases hx:av P s.σ t x<;>cases hy:av P s.σ t y<;>rw[hx,hy]at ho<;>simp only[LG]at ho<;>try exact(E5 ho).elim
 case i.i k a k' b=>
  split at ho
  ·rename_i q p v' hb
   obtain⟨rfl,rfl,rfl,rfl⟩:=Mg ho
   exact Jj H hF hx hy hb
  obtain⟨h1,h2⟩:=I7 ho
  have h1:=of_decide_eq_true h1
  subst h1
  obtain⟨h3,rfl,rfl⟩:=BC h2
  exact Ji H hF hx hy h3
 case b.b a b=>
  split at ho
  ·rename_i hu
   obtain⟨h3,rfl,rfl⟩:=BC ho
   exact Jp H hF hu hx hy h3
  exact(E5 ho).elim
 case s.s a b=>
  split at ho
  ·obtain⟨h1,rfl,rfl,rfl⟩:=f7 ho
   exact Jo H hF hx hy (of_decide_eq_true h1)
  obtain⟨h3,rfl,rfl⟩:=BC ho
  exact Jn H hF hx hy h3
 case bs.bs a b c d=>
  cases hg:P.eqGuardType P.depth t
  ·rw[hg]at ho
   simp only[cond_false]at ho
   split at ho
   ·rename_i e he
    obtain⟨h3,rfl,rfl⟩:=BC ho
    exact TH H hF hg (by rw[hx];rfl) (by rw[hy];rfl) (by rw[hx,hy];exact he) h3
   exact(E5 ho).elim
  rw[hg]at ho;exact(E5 ho).elim
 case st.st a b c d=>
  cases hg:P.eqGuardType P.depth t
  ·rw[hg]at ho
   simp only[cond_false]at ho
   split at ho
   ·rename_i e he
    obtain⟨h3,rfl,rfl⟩:=BC ho
    exact TH H hF hg (by rw[hx];rfl) (by rw[hy];rfl) (by rw[hx,hy];exact he) h3
   exact(E5 ho).elim
  rw[hg]at ho;exact(E5 ho).elim
 case pr.np r j p=>
  have hv:=B5 (P:=P) H.c2 hF t x
  rw[hx]at hv
  obtain⟨b,o,N,_,e2,_⟩:=gQ hv
  split at ho
  ·rename_i e hu
   split at ho
   ·obtain⟨rfl,rfl,rfl⟩:=I6 ho
    exact FS H hF hu ⟨_,e2,rfl⟩ hy (.inl ⟨rfl,rfl⟩)
   ·obtain⟨rfl,rfl,rfl⟩:=I6 ho
    exact FS H hF hu ⟨_,e2,rfl⟩ hy (.inr ⟨rfl,rfl⟩)
   exact(E5 ho).elim
  exact(E5 ho).elim
 case np.np=>
  have hv:=B5 (P:=P) H.c2 hF t x
  rw[hx]at hv
  have e2:=SJ hv
  split at ho
  ·rename_i e hu
   split at ho
   ·obtain⟨rfl,rfl,rfl⟩:=I6 ho
    exact FS H hF hu ⟨_,e2,rfl⟩ hy (.inl ⟨rfl,rfl⟩)
   ·obtain⟨rfl,rfl,rfl⟩:=I6 ho
    exact FS H hF hu ⟨_,e2,rfl⟩ hy (.inr ⟨rfl,rfl⟩)
   exact(E5 ho).elim
  exact(E5 ho).elim
theorem Mi(H:Wd X0 X s.h s.lv nm w0 w)(hF:FrR X s.lv nm n s.σ τ)(ho:x7 (tC P s t (av P s.σ 0 x)) v h' lv'):Good P X0 X s.h s.lv nm n τ w0 w ty (.load t x) v h' lv':=by
 cases hx:av P s.σ 0 x<;>rw[hx]at ho<;>simp only[tC]at ho<;>try exact(E5 ho).elim
 case pr r j p=>
  obtain⟨h1,h2⟩:=I7 ho
  simp only[A9]at h1
  obtain⟨⟨⟨⟨k1,k2⟩,k3⟩,k4⟩,k5⟩:=h1
  obtain⟨rfl,rfl,rfl⟩:=I6 h2
  exact Jr H hF hx k1 k2 k3 (A5 k5)
 case pz v0=>
  obtain⟨h1,h2⟩:=I7 ho
  obtain⟨rfl,rfl,rfl⟩:=I6 h2
  rw[A9]at h1
  exact Js H hF hx h1.2 h1.1
theorem LX(h:(beq q 1||lv.elem q)=true):q=1\/q∈lv:=by
 rw[DH]at h
 exact h.imp A5 (fun h=>by simpa using h)
theorem Mj(H:Wd X0 X s.h s.lv nm w0 w)(hF:FrR X s.lv nm n s.σ τ)(ho:x7 (xP P s nm t u (av P s.σ t x) (av P s.σ u y)) v h' lv'):Good P X0 X s.h s.lv nm n τ w0 w ty (.call ⟨.builtin .append, #[x,y], #[t,u]⟩) v h' lv':=by
 cases hx:av P s.σ t x<;>cases hy:av P s.σ u y<;>rw[hx,hy]at ho<;>simp only[xP]at ho<;>try exact(E5 ho).elim
 case bl.bl q l q2 m=>
  obtain⟨h1,h2⟩:=I7 ho
  obtain⟨h3,h4⟩:=I7 h2
  rw[A9]at h3
  cases ho2:(LH s&&beq q 1&&l.isEmpty)<;>rw[ho2]at h4
  ·obtain⟨h5,rfl,rfl,rfl⟩:=f7 h4
   exact SW H hF h3.2 hx (LX h3.1) (SV H hF h1 hy) (of_decide_eq_true h5)
  obtain⟨h5,rfl,rfl,rfl⟩:=f7 h4
  simp only[A9,List.isEmpty_iff]at ho2
  obtain⟨⟨_,e1⟩,e2⟩:=ho2
  have e1:=A5 e1
  subst e1 e2
  exact Lq H hF h3.2 hx (SV H hF h1 hy) (of_decide_eq_true h5)
 case bl.s q l m=>
  obtain⟨h1,h2⟩:=I7 ho
  obtain⟨h3,h4⟩:=I7 h2
  rw[A9]at h3
  obtain⟨h5,rfl,rfl,rfl⟩:=f7 h4
  exact SW H hF h3.2 hx (LX h3.1) (Ks H hF h1 hy) (of_decide_eq_true h5)
 case sl.sl q z N g q2 z2 M f=>
  obtain⟨h1,h2⟩:=I7 ho
  simp only[A9]at h1
  obtain⟨⟨⟨k1,k2⟩,k3⟩,k4⟩:=h1
  have k2:=A5 k2
  subst k2
  split at h2
  ·rename_i h6
   obtain⟨h5,rfl,rfl,rfl⟩:=f7 h2
   rw[A9]at h6
   have e:=A5 h6.2
   subst e
   have hz:0<z:=by have hv:=B5 (P:=P) H.c2 hF t x;rw[hx]at hv;exact hv.1
   exact Lp H hF hz k3 k4 hx hy (of_decide_eq_true h5)
  obtain⟨h5,rfl,rfl,rfl⟩:=f7 h2
  exact Kt H hF k3 k4 hx (LX k1) hy (of_decide_eq_true h5)
 case os.sl r z q2 z2 M f=>
  split at ho
  ·rename_i z3 N g hh
   obtain⟨h1,h2⟩:=I7 ho
   simp only[A9,A8]at h1
   obtain⟨⟨⟨⟨⟨k0,k1⟩,k2⟩,k3⟩,k4⟩,k5⟩:=h1
   have k2:=A5 k2
   have k3:=A5 k3
   subst k2 k3
   obtain⟨h5,rfl,rfl,rfl⟩:=f7 h2
   exact Lo H hF k0 (by simpa using k1) k4 k5 hx hh hy (of_decide_eq_true h5)
  exact(E5 ho).elim
theorem LY(H:Wd X0 X s.h s.lv nm w0 w)(hF:FrR X s.lv nm n s.σ τ){q:Nat}{f:Nat->Nat->Nat->V}{lo:Option Operand}{op:Op}(ho:x7 (AW s q N (fun q a m=>f q a.toNat m) (lo.map (av P s.σ 0)) (hi.map (av P s.σ 0))) v h' lv')
  (hg:∀q' k m,Cut P τ n lo hi N k m->(q'=0\/q'=q/\k+m=N)->Good P X0 X s.h s.lv nm n τ w0 w ty op (f q' k m) s.h s.lv):Good P X0 X s.h s.lv nm n τ w0 w ty op v h' lv':=by
 unfold AW at ho
 split at ho
 ·rename_i a hl hh
  obtain⟨h1,rfl,rfl,rfl⟩:=f7 ho
  have h1:=of_decide_eq_true h1
  cases hi with
 |some y=>cases hh
 |none=>exact hg _ _ _ (Ka H hF hl h1.1 h1.2) (.inr ⟨rfl,zO⟩)
 ·rename_i a k b hl hh
  obtain⟨h1,rfl,rfl,rfl⟩:=f7 ho
  have h1:=of_decide_eq_true h1
  cases hi with
 |none=>cases hh
 |some y=>
   simp only[X8,F2]at hh
   exact hg _ _ _ (Kb H hF hl hh h1.1 h1.2.1 h1.2.2) (.inl rfl)
 exact(E5 ho).elim
theorem FU(hc:2<=c){v:V}(h:xI P t C=some v):v=zv P 9 t/\v.mem=true/\rep X v lv c C:=by
 unfold xI at h
 obtain⟨h1,h2⟩:=M7 h (by simp)
 split at h2
 ·rename_i hk
  simp only[F2]at h2
  obtain⟨a,e1,e2⟩:=SH (X:=X) (lv:=lv) hc h1 hk
  rw[Z5]at e1;subst e1
  exact⟨h2.symm,h2▸h1,h2▸e2⟩
 cases h2
theorem Mk:∀(m:Nat) (t:TypeId),(zv P m t).strip=zv P m t:=by
 intro m
 induction m with
|zero=>intro t;rfl
|succ m ih=>
  intro t
  unfold zv
  split<;>try rfl
  ·unfold AV
   split
   ·rename_i e _
    cases dW P e
    ·cases blt 0 (mO P e)<;>rfl
    rfl
   rfl
  ·rename_i fs _
   simp only[V.strip]
   congr 1
   funext k
   split
   ·exact ih _
   rfl
  rename_i k e _
  cases dW P e<;>rfl
theorem FV(H:Wd X0 X s.h s.lv nm w0 w)(hF:FrR X s.lv nm n s.σ τ){op:Op}(I0:dV op=false)(ho:x7 (O0 P s nm ty op) v h' lv'):Good P X0 X s.h s.lv nm n τ w0 w ty op v h' lv':=by
 cases op with
|move x=>obtain⟨rfl,rfl,rfl⟩:=I6 ho;exact Iy H hF
|assign x=>obtain⟨rfl,rfl,rfl⟩:=I6 ho;exact Iz H hF
|nilCheck x=>
  simp only[O0]at ho
  split at ho
  ·rename_i hx;obtain⟨rfl,rfl,rfl⟩:=I6 ho;exact Ja H hF hx
  ·rename_i hx;obtain⟨rfl,rfl,rfl⟩:=I6 ho;exact Jb H hF hx
  exact(E5 ho).elim
|pick c a b=>
  simp only[O0]at ho
  split at ho
  ·rename_i hx;obtain⟨rfl,rfl,rfl⟩:=I6 ho
   exact LO H hF (p:=true) (by rw[hx];rfl) fun z h1 _=>h1 rfl▸B5 H.c2 hF ty a
  ·rename_i hx;obtain⟨rfl,rfl,rfl⟩:=I6 ho
   exact LO H hF (p:=false) (by rw[hx];rfl) fun z _ h1=>h1 rfl▸B5 H.c2 hF ty b
  ·rename_i p hx
   split at ho
   ·rename_i x1 y1 hx1 hy1
    obtain⟨rfl,rfl,rfl⟩:=I6 ho
    refine LO H hF (p:=p) (by rw[hx];rfl) fun z h1 h2=>?_
    have e1:=xQ (B5 (P:=P) H.c2 hF ty a) hx1
    have e2:=xQ (B5 (P:=P) H.c2 hF ty b) hy1
    cases p
    ·rw[h2 rfl,e2];exact rfl
    rw[h1 rfl,e1];exact rfl
   exact(E5 ho).elim
  exact(E5 ho).elim
|binOp o t x y yt=>exact Mh H hF ho
|unOp o t x=>
  cases o<;>try exact(E5 ho).elim
  case neg=>
   simp only[O0]at ho
   split at ho
   ·rename_i k a hx;obtain⟨rfl,rfl,rfl⟩:=I6 ho;exact Jk H hF hx
   exact(E5 ho).elim
  case xor=>
   simp only[O0]at ho
   split at ho
   ·rename_i k a hx;obtain⟨rfl,rfl,rfl⟩:=I6 ho;exact Jl H hF hx
   exact(E5 ho).elim
  simp only[O0]at ho
  split at ho
  ·rename_i p hx;obtain⟨rfl,rfl,rfl⟩:=I6 ho;exact SK H hF (by rw[hx];rfl)
  ·rename_i p hx;obtain⟨rfl,rfl,rfl⟩:=I6 ho;exact SK H hF (p:=p) (by rw[hx];rfl)
  exact(E5 ho).elim
|extract x i=>
  simp only[O0]at ho
  split at ho
  ·rename_i m g hx
   obtain⟨h1,h2⟩:=I7 ho
   rw[A8]at h1
   obtain⟨rfl,rfl,rfl⟩:=I6 h2;exact Jc H hF hx h1
  exact(E5 ho).elim
|alloc t=>
  simp only[O0]at ho
  split at ho
  ·rename_i C hz
   split at ho
   ·rename_i v0 hv
    obtain⟨rfl,rfl,rfl⟩:=I6 ho
    obtain⟨_,h1,h2⟩:=FU (X:=X) (lv:=s.lv) H.c2 hv
    exact Jy H hz h1 h2
   exact(E5 ho).elim
  exact(E5 ho).elim
|box t x=>
  simp only[O0]at ho
  obtain⟨h1,h2⟩:=I7 ho
  obtain⟨rfl,rfl,rfl⟩:=I6 h2
  exact Jz H h1 (jJ (B5 H.c2 hF t x))
|load t x=>
  simp only[O0]at ho
  split at ho
  ·rename_i r z y i v' a p hf
   obtain⟨h1,h2⟩:=I7 ho
   simp only[A9,A8]at h1
   obtain⟨⟨⟨⟨⟨k1,k2⟩,k3⟩,k4⟩,k5⟩,k6⟩:=h1
   obtain⟨h3,rfl,rfl,rfl⟩:=f7 h2
   obtain⟨n',e1,e2⟩:=TJ hf
   rw[e1]at e2
   exact Ls H hF e1 e2 (of_decide_eq_true h3) k1 k2 k3 (A5 k4) k5
  exact Mi H hF ho
|store t x y=>cases I0
|fieldAddr t x i=>
  simp only[O0]at ho
  split at ho
  ·rename_i k hf
   split at ho
   ·rename_i r j p hx;obtain⟨rfl,rfl,rfl⟩:=I6 ho;exact Ju H hF hf hx
   ·rename_i m g hx
    obtain⟨h1,h2⟩:=I7 ho
    rw[A9,A8]at h1
    obtain⟨rfl,rfl,rfl⟩:=I6 h2;exact Jv H hF hf hx h1.1 h1.2
   exact(E5 ho).elim
  exact(E5 ho).elim
|field t x i=>
  simp only[O0]at ho
  split at ho
  ·rename_i m g hx
   obtain⟨h1,h2⟩:=I7 ho
   simp only[A9]at h1
   obtain⟨⟨k1,k2⟩,k3⟩:=h1
   obtain⟨rfl,rfl,rfl⟩:=I6 h2
   unfold SA at k1
   split at k1
   ·rename_i fs hu
    obtain⟨f,hf⟩:=iF.1 k1
    have e:mP P t i=(f.type,f.offset,mO P f.type):=by unfold mP;rw[hu];simp only[hf]
    rw[e]at k2 k3
    exact Kv H hF hu hf hx k2 k3
   cases k1
  exact(E5 ho).elim
|indexAddr t x y=>
  simp only[O0]at ho
  cases hx:av P s.σ t x<;>cases hy:av P s.σ 0 y<;>rw[hx,hy]at ho<;>try exact(E5 ho).elim
  case bl.i q l k a=>
   obtain⟨h1,h2⟩:=I7 ho
   obtain⟨h3,rfl,rfl,rfl⟩:=f7 h2
   have h3:=of_decide_eq_true h3
   exact Jw H hF h1 hx hy h3.1 h3.2
  case sl.i q z N g k a=>
   obtain⟨h1,h2⟩:=I7 ho
   obtain⟨h3,rfl,rfl,rfl⟩:=f7 h2
   have h3:=of_decide_eq_true h3
   exact Jx H hF h1 hx hy h3.1 h3.2
  case os.i r z k a=>
   simp only at ho
   split at ho
   ·rename_i m hr
    obtain⟨h1,h2⟩:=I7 ho
    obtain⟨h3,rfl,rfl,rfl⟩:=f7 h2
    have h3:=of_decide_eq_true h3
    exact Lm H hF h1 hx hr hy h3.1 h3.2
   exact(E5 ho).elim
  case pr.i r j p k a=>
   simp only at ho
   split at ho
   ·rename_i m z ha
    unfold chkB at ho
    split at ho
    ·split at ho
     ·rename_i h3
      obtain⟨rfl,rfl,rfl⟩:=I6 ho
      have h3:=of_decide_eq_true h3
      exact SU H hF ha hx hy h3.1 h3.2
     exact(E5 ho).elim
    obtain⟨h3,rfl,rfl,rfl⟩:=f7 ho
    have h3:=of_decide_eq_true h3
    exact SU H hF ha hx hy h3.1 h3.2
   exact(E5 ho).elim
|index t x y=>
  simp only[O0]at ho
  cases hx:av P s.σ t x<;>cases hy:av P s.σ 0 y<;>rw[hx,hy]at ho<;>try exact(E5 ho).elim
  case s.i l k a=>
   obtain⟨h1,h2⟩:=I7 ho
   obtain⟨h3,rfl,rfl,rfl⟩:=f7 h2
   have h3:=of_decide_eq_true h3
   exact Kp H hF h1 hx hy h3.1 h3.2
|build t ps=>
  simp only[O0]at ho
  split at ho
  ·rename_i C hz
   split at ho
   ·rename_i m g hv
    obtain⟨h1,h2⟩:=I7 ho
    rw[A9]at h1
    obtain⟨_,h3,h4⟩:=FU (X:=X) (lv:=s.lv) H.c2 hv
    split at h2
    ·rename_i f hf
     obtain⟨rfl,rfl,rfl⟩:=I6 h2
     obtain⟨pl,hp⟩:=iF.1 h1.2
     have h1:=h1.1
     split at h1
     ·rename_i fs hu
      rw[i6]at h1
      exact(La H hF hu hz hp h4 h1 hf).nz
     cases h1
    exact(E5 h2).elim
   ·rename_i m l hv
    obtain⟨h1,h2⟩:=I7 ho
    obtain⟨_,h3,h4⟩:=FU (X:=X) (lv:=s.lv) H.c2 hv
    split at h2
    ·rename_i r hf
     obtain⟨rfl,rfl,rfl⟩:=I6 h2
     split at h1
     ·rename_i k ha
      have:=A5 h1
      subst this
      exact Lc H hF hz ha h4 hf
     cases h1
    exact(E5 h2).elim
   exact(E5 ho).elim
  exact(E5 ho).elim
|buildSlice t m ps=>
  simp only[O0]at ho
  split at ho
  ·rename_i C hz
   cases hu:dW P (D6 P t)
   ·rw[hu]at ho
    simp only[cond_false]at ho
    split at ho
    ·exact(E5 ho).elim
    rename_i v0 hv
    obtain⟨h1,h2⟩:=I7 ho
    simp only[A9,A8,i6]at h1
    obtain⟨⟨⟨⟨k1,k2⟩,k3⟩,k4⟩,k5⟩:=h1
    obtain⟨e1,h3,h4⟩:=FU (X:=X) (lv:=s.lv) H.c2 hv
    split at h2
    ·rename_i g hf
     obtain⟨rfl,rfl,rfl⟩:=I6 h2
     obtain⟨X',w',rv,g1,g2,g3,g4,g5⟩:=Ld H hF k1 hz k2 h3 (A5 k3) h4 k4 (by rw[e1];exact Mk 9 _) k5 hf
     exact⟨X',w',rv,g1,g2,g3,Le (Lf g) g4,g5⟩
    exact(E5 h2).elim
   rw[hu]at ho
   simp only[cond_true]at ho
   obtain⟨h1,h2⟩:=I7 ho
   simp only[A9,i6]at h1
   obtain⟨⟨k1,k2⟩,k3⟩:=h1
   split at k3
   ·split at h2
    ·rename_i l hf
     obtain⟨rfl,rfl,rfl⟩:=I6 h2
     exact Lg H hF (aD k1).1 hz k2 hf
    exact(E5 h2).elim
   cases k3
  exact(E5 ho).elim
|slice t x lo hi mx=>
  cases mx with
 |some _=>exact(E5 ho).elim
 |none=>
   simp only[O0]at ho
   cases hx:av P s.σ t x<;>rw[hx]at ho<;>simp only at ho<;>try exact(E5 ho).elim
   case bl q l=>
    obtain⟨h1,h2⟩:=I7 ho
    exact LY (f:=fun q k m=>.bl q ((l.drop k).take m)) H hF h2 fun q' k m hc hq=>Kc H hF h1 hx hc hq
   case sl q z N g=>
    obtain⟨h1,h2⟩:=I7 ho
    exact LY (f:=fun q k m=>.sl q z m fun i=>g (k+i)) H hF h2 fun q' k m hc hq=>Kd H hF h1 hx hc hq
   case s l=>
    obtain⟨h1,h2⟩:=I7 ho
    exact LY (f:=fun _ k m=>.s ((l.drop k).take m)) H hF h2 fun q' k m hc hq=>Ke H hF h1 hx hc
   case pr r j p=>
    split at ho
    ·rename_i N ha
     cases fX:SB s
     case true=>
      rw[fX]at ho
      obtain⟨h1,h2⟩:=I7 ho
      rw[A9,i6]at h1
      have hj:=A5 h1.1
      subst hj
      obtain⟨rfl,rfl,rfl⟩:=I6 h2
      exact Md H hF ha hx h1.2
     rw[fX]at ho
     simp only[cond_false]at ho
     split at ho
     ·rename_i m l hg
      obtain⟨h1,h2⟩:=I7 ho
      simp only[A9,i6]at h1
      obtain⟨⟨⟨⟨⟨k1,k2⟩,k3⟩,k4⟩,k5⟩,k6⟩:=h1
      have k1:=A5 k1
      subst k1
      obtain⟨rfl,rfl,rfl⟩:=I6 h2
      exact Ku H hF ha hx k2 hg k3 k4 k5 (A5 k6)
     exact(E5 ho).elim
    ·rename_i y N ha
     split at ho
     ·rename_i k a hy
      obtain⟨h1,h2⟩:=I7 ho
      rw[A9,i6]at h1
      have hj:=A5 h1.1
      subst hj
      obtain⟨h3,rfl,rfl,rfl⟩:=f7 h2
      have h3:=of_decide_eq_true h3
      exact Me H hF ha hx hy h1.2 h3.1 h3.2
     exact(E5 ho).elim
    exact(E5 ho).elim
|convert src dst x=>
  simp only[O0]at ho
  split at ho
  ·rename_i l w5
   have hl:FK s.σ x=some l:=by
    cases hb:Y3 P dst<;>rw[hb]at w5
    ·exact w5
    cases w5
   obtain⟨h1,h2⟩:=I7 ho
   simp only[A9,lH]at h1
   obtain⟨⟨k1,k2⟩,k3⟩:=h1
   have e:=A5 k1
   subst e
   obtain⟨rfl,rfl,rfl⟩:=I6 h2
   exact Lx H hF k2 hl (fun e=>by subst e;cases k3)
  cases hx:av P s.σ src x<;>rw[hx]at ho<;>simp only at ho<;>try exact(E5 ho).elim
  case i k a=>
   split at ho
   ·rename_i ds k' hs hd
    obtain⟨rfl,rfl,rfl⟩:=I6 ho
    exact Kf H hF hs hd hx
   exact(E5 ho).elim
  case bl q l=>
   obtain⟨h1,h2⟩:=I7 ho
   rw[A9]at h1
   obtain⟨rfl,rfl,rfl⟩:=I6 h2
   exact Kg H hF h1.1 h1.2 hx
  case s l=>
   cases hb:Y3 P dst&&Y3 P src
   ·rw[hb]at ho
    obtain⟨h1,h2⟩:=I7 ho
    rw[A9]at h1
    obtain⟨rfl,rfl,rfl⟩:=I6 h2
    exact Kj H hF h1.1 h1.2 hx
   rw[hb]at ho
   rw[A9]at hb
   obtain⟨rfl,rfl,rfl⟩:=I6 ho
   exact Kh H hF hb.2 hb.1 hx
|makeSlice t x y=>
  simp only[O0]at ho
  split at ho
  ·rename_i k1 k2 a k3 b hy hx
   obtain⟨h1,h2⟩:=I7 ho
   rw[A9]at h1
   obtain⟨h3,rfl,rfl,rfl⟩:=f7 h2
   exact Mc H hF h1.1 (A5 h1.2) rfl hy (of_decide_eq_true h3)
  ·rename_i k1 a k2 b _ hy hx
   obtain⟨h1,h2⟩:=I7 ho
   simp only[A9]at h1
   obtain⟨h3,rfl,rfl,rfl⟩:=f7 h2
   refine Mb H hF h1.1.1 (A5 h1.1.2) ?_ hx hy (of_decide_eq_true h3)
   have:=h1.2
   split at this
   ·assumption
   cases this
  exact(E5 ho).elim
|sliceToArrayPointer t x=>
  simp only[O0]at ho
  split at ho
  ·rename_i k e q l hu hx
   obtain⟨h1,h2⟩:=I7 ho
   rw[A9,A8]at h1
   obtain⟨h3,rfl,rfl,rfl⟩:=f7 h2
   exact Kq H hF hu h1.1 hx (of_decide_eq_true h3)
  exact(E5 ho).elim
|call c=>
  obtain⟨callee,args,ts⟩:=c
  cases callee with
 |value f=>
   cases f with
  |_=>exact(E5 ho).elim
 |invoke=>exact(E5 ho).elim
 |builtin b=>
   simp only[O0]at ho
   have ea:args=args.toList.toArray:=by simp
   have et:ts=ts.toList.toArray:=by simp
   split at ho
   ·rename_i x t h1 h2
    rw[h1]at ea;rw[h2]at et
    subst ea et
    cases hx:av P s.σ t x<;>rw[hx]at ho<;>simp only at ho<;>try exact(E5 ho).elim
    case bl q l=>
     obtain⟨k1,k2⟩:=I7 ho
     rw[A9]at k1
     obtain⟨rfl,rfl,rfl⟩:=I6 k2
     exact Kk H hF k1.2 hx
    case s l=>
     obtain⟨k1,k2⟩:=I7 ho
     obtain⟨rfl,rfl,rfl⟩:=I6 k2
     exact Km H hF k1 hx
    case sl q z N g=>
     obtain⟨k1,k2⟩:=I7 ho
     obtain⟨rfl,rfl,rfl⟩:=I6 k2
     exact Kl H hF k1 hx
    case os r z=>
     split at ho
     ·rename_i m hr
      obtain⟨k1,k2⟩:=I7 ho
      obtain⟨rfl,rfl,rfl⟩:=I6 k2
      exact Ll H hF k1 hx hr
     exact(E5 ho).elim
   ·rename_i x y t u h1 h2
    rw[h1]at ea;rw[h2]at et
    subst ea et
    exact Mj H hF ho
   ·cases I0
   ·rename_i x y t u h1 h2
    rw[h1]at ea;rw[h2]at et
    subst ea et
    cases hx:av P s.σ t x<;>cases hy:av P s.σ t y<;>rw[hx,hy]at ho<;>simp only at ho<;>try exact(E5 ho).elim
    obtain⟨k1,k2⟩:=I7 ho
    have k1:=of_decide_eq_true k1
    subst k1
    obtain⟨rfl,rfl,rfl⟩:=I6 k2
    exact Kn H hF hx hy
   ·rename_i x y t u h1 h2
    rw[h1]at ea;rw[h2]at et
    subst ea et
    cases hx:av P s.σ t x<;>cases hy:av P s.σ t y<;>rw[hx,hy]at ho<;>simp only at ho<;>try exact(E5 ho).elim
    obtain⟨k1,k2⟩:=I7 ho
    have k1:=of_decide_eq_true k1
    subst k1
    obtain⟨rfl,rfl,rfl⟩:=I6 k2
    exact Ko H hF hx hy
   exact(E5 ho).elim
|makeFunc fn fs cs=>
  cases fn<;>try exact(E5 ho).elim
  simp only[O0]at ho
  obtain⟨h1,h2⟩:=I7 ho
  split at h2
  ·rename_i l hl
   obtain⟨rfl,rfl,rfl⟩:=I6 h2
   obtain rfl:fs= #[]:=by simpa using h1
   exact Je H hF hl
  exact(E5 h2).elim
|_=>exact(E5 ho).elim
end
end Go.Proofs.YtgohjiegkhfpmaaGreatDoor
