/- Lemmas for the statement ModelCharges, part 7: rules of operations, walks through functions, plain laws. -/
import Derived.Test.YtgohjiegkhfpmaaGreatDoorModelChargesG6
set_option maxRecDepth 100000
set_option linter.all false
namespace Go.Proofs.YtgohjiegkhfpmaaGreatDoor
open Go
open Go.IntKind (i64 u64 u8 u32)
open List (replicate)
open Nat (beq blt)
open BitVec (ofInt)
variable {cs:List Value} {fuel i j m o:Nat} {α:Type} {e:TypeId} {x:Value}
structure ActT where
 what:Int
 who:Int
 a:Int
 b:Int
 t:Int
 data:By
instance:Inhabited ActT:=⟨⟨0,0,0,0,0,[]⟩⟩
def N0(x:ActT):V:=A1 [.i .i64 x.what,.i .i64 x.who,.i .i64 x.a,.i .i64 x.b,.i .i64 x.t,.bl 0 x.data]
theorem IX(t:TenR)(k:Int)(gC:TB t):Sat Tryz.prog 44 [B4 t,.i .i64 k] [] (fun out A0=>A0=[]/\(∃x,out=C3 x/\x.data.length<=100000)):=by
 refine cF Tryz.func44 fun X0 w0 hX=>?_
 refine rS 1 fun hv=>?_
 replace hv:=wI hv
 have hK:=gC.nb
 refine cB ((t.nb:Int)=0) ?_ ?_<;>intro h1
 ·exact xW hX (C3 ⟨((replicate 32 0).set 0 5),[]⟩) ⟨rfl,rfl,⟨_,rfl,bd⟩⟩ (hv:=vT (u:=A1 [.bs 32 ((replicate 32 0).set 0 5),.bl 0 []]) (C4 ⟨.rfl _,.rfl _,zT⟩))
 refine cK [] (NL k (t.nb:Int) bw bd) ?_
 rintro out A0 ⟨rfl,⟨N6,rfl,hpl0⟩⟩
 refine cC ((0:Int)<=N6/\N6<(t.nb:Int)) ?_;exact xW hX (C3 (t.gb ((N6).toNat))) ⟨rfl,rfl,⟨_,rfl,gC.db _ zO⟩⟩ (hv:=vT (u:=A1 [.bs 32 ((t.gb ((N6).toNat)).of),.bl 0 ((t.gb ((N6).toNat)).data)]) (C4 ⟨.rfl _,.rfl _,zT⟩))
theorem a0g(b:By)(hb:b.length<=1000000):Sat Tryz.prog 43 [.bl 0 b] [] (fun out A0=>A0=[]/\(∃l,out=.s l/\l.length<=12)):=by
 refine cF Tryz.func43 fun X0 w0 hX=>?_
 refine cM hX (fun(p:Nat×By)=>[(0,.bl 0 b),(3,.s p.2),(4,.i .i64 (p.1:Int))]) (fun(p:Nat×By)=>[]) (fun(p:Nat×By)=>p.1<=b.length/\p.2.length=p.1/\p.1<=12) (fun(p:Nat×By)=>b.length-p.1) [] 208 (0,[]) ⟨by simp,rfl,by simp⟩ ?_;rintro⟨i,x⟩ hI R hR
 dsimp only at hI
 refine cB ((i:Int)<(b.length:Int)) ?_ ?_<;>intro h1
 ·refine cB ((i:Int)<12) ?_ ?_<;>intro h2
  ·refine cC ((0:Int)<=(i:Int)/\(i:Int)<(b.length:Int)) ?_
   refine cC (x.length+[UInt8.ofNat ((u8.wrap (32+(((b.getD i 0).toNat:Int).tmod 95)))).toNat].length<=maxLen) ?_ (hp:=by have mx:maxLen=9223372036854775807:=rfl;simp only[G8,M3];omega);exact cA hX (hR (i+1,(x++[UInt8.ofNat ((u8.wrap (32+(((b.getD i 0).toNat:Int).tmod 95)))).toNat])) ⟨bd,bd,bd⟩ (by dsimp only;omega)) (hS:=⟨v0,v0,(vS bd),zT⟩)
  exact xW hX (.s x) ⟨rfl,rfl,⟨_,rfl,bd⟩⟩
 exact xW hX (.s x) ⟨rfl,rfl,⟨_,rfl,bd⟩⟩
theorem bK(k n:Int)(hk: -9223372036854775808<=k/\k<9223372036854775808)(hn:0<=n/\n<2000000):Sat Tryz.prog 21 [.i .i64 k,.i .i64 n] [] (fun out A0=>A0=[]/\(∃x,out=.i .i64 x/\0<=x/\(0<n->x<n)/\x<2000000)):=by
 have hm:=WV k n
 refine cF Tryz.func21 fun X0 w0 hX=>?_
 refine cB (n<1) ?_ ?_<;>intro h1
 ·exact xW hX (.i .i64 0) ⟨rfl,rfl,⟨_,rfl,by first|omega|(rw[I8 zO];omega),fun _=>by first|omega|(rw[I8 zO];omega),by first|omega|(rw[I8 zO];omega)⟩⟩
 refine cC (n≠(0:Int)) ?_
 refine cB ((k.tmod n)<0) ?_ ?_<;>intro h2
 ·exact xW hX (.i .i64 (i64.wrap ((k.tmod n)+n))) ⟨rfl,rfl,⟨_,rfl,by first|omega|(rw[I8 zO];omega),fun _=>by first|omega|(rw[I8 zO];omega),by first|omega|(rw[I8 zO];omega)⟩⟩
 exact xW hX (.i .i64 (k.tmod n)) ⟨rfl,rfl,⟨_,rfl,by first|omega|(rw[I8 zO];omega),fun _=>by first|omega|(rw[I8 zO];omega),by first|omega|(rw[I8 zO];omega)⟩⟩
theorem a0h(t:TenR)(q:Int)(gC:TB t):Sat Tryz.prog 42 [B4 t,.i .i64 q] [] (fun out A0=>A0=[]/\(∃l,out=.bs 32 l)):=by
 refine cF Tryz.func42 fun X0 w0 hX=>?_
 refine rS 1 fun hv=>?_
 replace hv:=wI hv
 have hK:=gC.nb
 refine cM hX (fun(k:Nat)=>[(1,.i .i64 q),(2,.pr 16 0 []),(4,.pr 80 0 []),(5,.i .i64 (k:Int))]) (fun(k:Nat)=>[(16,B4 t),(80,.bs 32 (replicate 32 0))]) (fun(k:Nat)=>k<=t.nb) (fun(k:Nat)=>t.nb-k) [] 208 0 (by simp) ?_;rintro k hI R hR
 refine cB ((k:Int)<(t.nb:Int)) ?_ ?_<;>intro h1
 ·refine jA 2 4816 (fun(bx:Obj)=>[(1,.i .i64 q),(2,.pr 16 0 []),(4,.pr 80 0 []),(5,.i .i64 (k:Int)),(6,.pr 912 0 [])]) (fun(bx:Obj)=>[(16,B4 t),(80,.bs 32 (replicate 32 0)),(912,C3 bx)]) (fun(bx:Obj)=>bx.data.length<=100000) [] (fun R hR i hi=>?_) ?_
  ·revert i hi;refine f2 ?_ ?_<;>repeat' (first|refine al 2 (f2 ?_ ?_)|(refine cK (e:=eE) [] (bK q 1048576 bw bd) ?_;rintro out A0 ⟨rfl,⟨N6,rfl,hpl0⟩⟩)|(refine cK (e:=eE) [] (IX t (i64.wrap (N6+(k:Int))) gC) ?_;rintro out A0 ⟨rfl,⟨kL,rfl,hbx1⟩⟩)|exact cA hX (hR kL (by assumption)))
  rintro bx hbj
  refine cK [] (Bs bx.data (by assumption)) ?_;rintro out A0 ⟨fl5,fe5,rfl,rfl⟩
  refine cB (fe5=0) ?_ ?_<;>intro h2
  ·exact xW hX (.bs 32 bx.of) ⟨rfl,rfl,⟨_,rfl⟩⟩
  exact cA hX (hR (k+1) zO zO) (hS:=⟨v0,v0,v0,(vS bd),zT⟩)
 refine cK [] (IX t q gC) ?_
 rintro out A0 ⟨rfl,⟨bx6,rfl,hbx6⟩⟩
 exact xW hX (.bs 32 bx6.of) ⟨rfl,rfl,⟨_,rfl⟩⟩
theorem a0i(t:TenR)(a b:Int)(gC:TB t):Sat Tryz.prog 40 [B4 t,.i .i64 a,.i .i64 b] [] (fun out A0=>∃l,out=.bl 2 l/\A0=[2]/\l.length<=4000):=by
 refine cF Tryz.func40 fun X0 w0 hX=>?_
 refine rS 1 fun hv=>?_
 replace hv:=wI hv
 refine rS 2 fun hv=>?_
 replace hv:=wI hv
 have hK:=gC.nb
 refine cM hX (fun(p:Nat×(List Itm))=>[(1,.i .i64 a),(2,.i .i64 b),(3,.pr 16 0 []),(7,B3 2 35 I4 p.2),(8,.i .i64 (p.1:Int))]) (fun(p:Nat×(List Itm))=>[(16,B4 t)]) (fun(p:Nat×(List Itm))=>p.1<=3/\p.2.length=p.1/\∀x∈p.2,x.name.length<=3) (fun(p:Nat×(List Itm))=>3-p.1) [2] 272 (0,[]) ⟨by simp,rfl,by simp⟩ ?_ (hS:=⟨v0,v0,v0,(vT (vN (g:=fun _=>.un))),v0,zT⟩);rintro⟨j,l⟩ o6 R hR
 dsimp only at o6
 refine cK [] (bK b 3 bw bd) ?_;rintro out A0 ⟨rfl,⟨N6,rfl,hpl0⟩⟩
 refine cB ((j:Int)<(i64.wrap (1+N6))) ?_ ?_<;>intro h1
 ·have hw0:i64.wrap (1+N6)=1+N6:=bw
  refine cK [] (IX t (i64.wrap (a+(j:Int))) gC) ?_;rintro out A0 ⟨rfl,⟨kL,rfl,hbx1⟩⟩
  refine jA 2 5520 (fun(nm:By)=>[(1,.i .i64 a),(2,.i .i64 b),(3,.pr 16 0 []),(7,B3 2 35 I4 l),(8,.i .i64 (j:Int)),(9,.pr 912 0 []),(10,.pr 1616 0 [])]) (fun(nm:By)=>[(16,B4 t),(912,C3 kL),(1616,A1 [.s nm,.i .i64 1,.bs 32 kL.of,.i .i64 (kL.data.length:Int)])]) (fun(nm:By)=>nm.length<=3) [2] (fun R hR i hi=>?_) ?_
  ·revert i hi;refine f2 ?_ ?_<;>repeat' (first|(refine cK (e:=eE) [] (a0d (j:Int) bw) ?_;rintro out A0 ⟨rfl,⟨pt2,rfl,hpt2⟩⟩)|refine cC (e:=eE) ([120].length+pt2.length<=maxLen) ?_ (hp:=by have mx:maxLen=9223372036854775807:=rfl;simp only[G8,M3];omega)|exact cA hX (hR ([120]++pt2) bd))
  rintro nm K3
  refine cK [] (Bs kL.data (by assumption)) ?_;rintro out A0 ⟨fl4,fe4,rfl,rfl⟩
  refine cB (fe4=0) ?_ ?_<;>intro h2
  ·refine cB (((j:Int).tmod 2)=0) ?_ ?_<;>intro h3
   ·refine cC ((l.length+1)*64<=140737488355328) ?_
    exact cA hX (hR (j+1,l++[⟨nm,2,kL.of,0⟩]) ⟨bd,by simp;omega,fun x hx=>by simp only[S3,O8]at hx;rcases hx with h|rfl;exact o6.2.2 x h;exact K3⟩ (by dsimp only;omega)) (hS:=⟨v0,v0,v0,(vT (pY l _)),vS,zT⟩)
   refine cC ((l.length+1)*64<=140737488355328) ?_
   exact cA hX (hR (j+1,l++[⟨nm,1,kL.of,(kL.data.length:Int)⟩]) ⟨bd,by simp;omega,fun x hx=>by simp only[S3,O8]at hx;rcases hx with h|rfl;exact o6.2.2 x h;exact K3⟩ (by dsimp only;omega)) (hS:=⟨v0,v0,v0,(vT (pY l _)),vS,zT⟩)
  refine cC ((l.length+1)*64<=140737488355328) ?_
  exact cA hX (hR (j+1,l++[⟨nm,1,kL.of,(kL.data.length:Int)⟩]) ⟨bd,by simp;omega,fun x hx=>by simp only[S3,O8]at hx;rcases hx with h|rfl;exact o6.2.2 x h;exact K3⟩ (by dsimp only;omega)) (hS:=⟨v0,v0,v0,(vT (pY l _)),vS,zT⟩)
 refine cK [] (Br l.length (fun i=>(l.getD i default)) bd (fun i hi=>J2 (o6.2.2 _ (by rw[l6,B6 hi];exact eG hi)) (by decide))) ?_
 rintro out A0 ⟨fb5,fe5,rfl,rfl,hfb5⟩
 exact xW hX (.bl 2 fb5) ⟨rfl,_,rfl,rfl,bd⟩
structure TaleR where
 s:StaR
 n:Nat
 tg:Nat->TenR
 now:Int
 m:Nat
 tk:Nat->By
 dr:Int
def CS(b:By):V:=.bl 0 b
instance:Inhabited TenR:=⟨⟨[],[],0,0,0,fun _=>default,0,fun _=>default,0,fun _=>default⟩⟩
def Q4(t:Nat)(x:TaleR):V:=A1 [I9 (.sl 0 38 x.n fun i=>B4 (x.tg i)) x.s,.i .i64 x.now,.sl t 1 x.m fun i=>CS (x.tk i),.i .i64 x.dr]
structure TaO (x:TaleR):Prop where
 ok:SOk x.s x.n x.tg
 hm:x.m<=20
 ht:∀i,i<x.m->(x.tk i).length<=20000
theorem CT(x:TaleR)(hx:TaO x)(a:ActT)(ha:a.data.length<=4096):SatHM Tryz.prog false 36 [.pr 2 0 [],N0 a] [4] [(2,Q4 4 x)] (fun out ho A0=>∃l,out=.bl 0 l/\ho=[(2,Q4 4 x)]/\A0=[4]/\l.length<=20000):=by
 refine fH false Tryz.func36 fun X0 w0 hX hm=>?_
 have hm:=hx.hm
 refine rS 1 fun hv=>?_
 have hw:=wI (hv 1 (show 1<6 by decide))
 refine cK [] (bK a.who (i64.wrap ((x.m:Int)+2)) bw bw) ?_;rintro out A0 ⟨rfl,⟨N6,rfl,hpl0⟩⟩
 refine cB (N6<(x.m:Int)) ?_ ?_<;>intro h1
 ·refine cC ((0:Int)<=N6/\N6<(x.m:Int)) ?_
  exact xW hX (.bl 0 (x.tk ((N6).toNat))) ⟨_,rfl,rfl,rfl,hx.ht _ zO⟩
 refine cB (N6=(x.m:Int)) ?_ ?_<;>intro h2
 ·exact xW hX (.bl 0 []) ⟨_,rfl,rfl,rfl,bd⟩
 refine cC ((([]:By).length+a.data.length)*1<=140737488355328) ?_ bd
 exact xW hX (.bl 0 ([]++a.data)) ⟨_,rfl,rfl,rfl,bd⟩
theorem a0j(x:TaleR)(hx:TaO x)(q:Int):SatHM Tryz.prog false 38 [.pr 2 0 [],.i .i64 q] [4] [(2,Q4 4 x)] (fun out ho A0=>∃t,out=B4 t/\ho=[(2,Q4 4 x)]/\A0=[4]/\TB t):=by
 refine fH false Tryz.func38 fun X0 w0 hX hm=>?_
 have hn:=hx.ok.hn
 refine cK [] (CR q) ?_;rintro out A0 ⟨rfl,⟨pn0,rfl,o5⟩⟩
 refine cK [] (Bu x.s x.n x.tg pn0 hn) ?_;rintro out A0 ⟨rfl,⟨ti1,rfl,hti1,_⟩⟩
 refine cB (ti1<0) ?_ ?_<;>intro h1
 ·refine cK [] (CR q) ?_
  rintro out A0 ⟨rfl,⟨pn2,rfl,hpn2⟩⟩
  exact xW hX (B4 ⟨pn2,(replicate 32 0),0,0,0,fun i=>[].getD i default,0,fun i=>[].getD i default,0,fun i=>[].getD i default⟩) ⟨_,rfl,rfl,rfl,L8 _,L8 _,L8 _,fun j hj=>absurd hj (S4 j),fun j hj=>absurd hj (S4 j),.mk0,fun j hj=>absurd hj (S4 j),(by exact Int.le_refl _)⟩ (hv:=vT (u:=A1 [.s pn2,.bs 32 (replicate 32 0),.i .i64 0,.i .i64 0,.sl 0 33 0 fun _=>.un,.sl 0 36 0 fun _=>.un,.sl 0 33 0 fun _=>.un]) (C4 ⟨.rfl _,.rfl _,.rfl _,.rfl _,vN,vN,vN,zT⟩))
 refine cC ((0:Int)<=ti1/\ti1<(x.n:Int)) ?_
 exact xW hX (B4 (x.tg ((ti1).toNat))) ⟨_,rfl,rfl,rfl,hx.ok.hb _ zO⟩
theorem a0k(x:TaleR)(hx:TaO x)(a:ActT)(ha:a.data.length<=4096)(o:OpT):SatHM Tryz.prog false 45 [.pr 2 0 [],N0 a,.pr 3 0 []] [4] [(2,Q4 4 x),(3,J4 o)] (fun out ho A0=>∃d o2,out=A2 []/\ho=[(2,Q4 4 ⟨x.s,x.n,x.tg,x.now,x.m,x.tk,d⟩),(3,J4 o2)]/\A0=[4]/\o2.token=o.token/\(o2.tenant=o.tenant\/o2.tenant=[])):=by
 refine fH false Tryz.func45 fun X0 w0 hX hm=>?_
 refine rS 1 fun hv=>?_
 have hw:=wI (hv 0 (show 0<6 by decide))
 have hb:=wI (hv 3 (show 3<6 by decide))
 have hA:=wI (hv 2 (show 2<6 by decide))
 refine cK [] (bK a.what 21 bw bd) ?_;rintro out A0 ⟨rfl,⟨N6,rfl,hpl0⟩⟩
 refine gF 16 ?_;refine cB (N6=11) ?_ ?_<;>intro h1
 ·refine cK [] (bK a.b 40 bw bd) ?_
  rintro out A0 ⟨rfl,⟨mA,rfl,hpl1⟩⟩
  exact xW hX (A2 []) ⟨(i64.wrap (x.dr+1)),⟨10,o.tenant,o.of,(i64.wrap (mA*300)),o.until,o.rights,o.body,o.token,o.now,((((replicate 32 0).set 0 1).set 1 (UInt8.ofNat ((u8.wrap (i64.wrap (x.dr+1)))).toNat)).set 2 (UInt8.ofNat ((u8.wrap a.b)).toNat))⟩,rfl,rfl,rfl,rfl,.inl rfl⟩
 refine cB (N6=12) ?_ ?_<;>intro h2
 ·refine cK [] (bK a.b 40 bw bd) ?_
  rintro out A0 ⟨rfl,⟨pl2,rfl,hpl2⟩⟩
  exact xW hX (A2 []) ⟨x.dr,⟨11,o.tenant,o.of,(i64.wrap (pl2*250)),o.until,o.rights,o.body,o.token,o.now,o.draw⟩,rfl,rfl,rfl,rfl,.inl rfl⟩
 refine cB (N6=13) ?_ ?_<;>intro h3
 ·refine cK [] (bK a.b 16 bw bd) ?_
  rintro out A0 ⟨rfl,⟨oK,rfl,hpl3⟩⟩
  refine cK [] (bK a.b 60 bw bd) ?_;rintro out A0 ⟨rfl,⟨pl4,rfl,hpl4⟩⟩
  refine cB ((a.a.tmod 3)=0) ?_ ?_<;>intro h4
  ·refine cB ((a.a.tmod 7)=0) ?_ ?_<;>intro h5
   ·exact xW hX (A2 []) ⟨x.dr,⟨12,[],o.of,o.number,9223372036854775807,(u8.wrap oK),o.body,o.token,o.now,o.draw⟩,rfl,rfl,rfl,rfl,.inr rfl⟩
   exact xW hX (A2 []) ⟨x.dr,⟨12,o.tenant,o.of,o.number,9223372036854775807,(u8.wrap oK),o.body,o.token,o.now,o.draw⟩,rfl,rfl,rfl,rfl,.inl rfl⟩
  refine cB ((a.a.tmod 7)=0) ?_ ?_<;>intro h6
  ·exact xW hX (A2 []) ⟨x.dr,⟨12,[],o.of,o.number,(i64.wrap (x.now+pl4)),(u8.wrap oK),o.body,o.token,o.now,o.draw⟩,rfl,rfl,rfl,rfl,.inr rfl⟩
  exact xW hX (A2 []) ⟨x.dr,⟨12,o.tenant,o.of,o.number,(i64.wrap (x.now+pl4)),(u8.wrap oK),o.body,o.token,o.now,o.draw⟩,rfl,rfl,rfl,rfl,.inl rfl⟩
 refine cB (N6=14) ?_ ?_<;>intro h7
 ·refine cK [] (bK a.b 6 bw bd) ?_
  rintro out A0 ⟨rfl,⟨pl5,rfl,hpl5⟩⟩
  exact xW hX (A2 []) ⟨x.dr,⟨13,[],o.of,pl5,o.until,o.rights,o.body,o.token,o.now,o.draw⟩,rfl,rfl,rfl,rfl,.inr rfl⟩
 refine cB (N6=15) ?_ ?_<;>intro h8
 ·exact xW hX (A2 []) ⟨x.dr,⟨14,o.tenant,o.of,o.number,o.until,o.rights,o.body,o.token,o.now,o.draw⟩,rfl,rfl,rfl,rfl,.inl rfl⟩
 refine cB (N6=16) ?_ ?_<;>intro h9
 ·exact xW hX (A2 []) ⟨x.dr,⟨15,o.tenant,o.of,o.number,o.until,o.rights,o.body,o.token,o.now,o.draw⟩,rfl,rfl,rfl,rfl,.inl rfl⟩
 refine cB (N6=17) ?_ ?_<;>intro K0
 ·exact xW hX (A2 []) ⟨x.dr,⟨16,[],o.of,o.number,o.until,o.rights,o.body,o.token,o.now,o.draw⟩,rfl,rfl,rfl,rfl,.inr rfl⟩
 refine cB (N6=18) ?_ ?_<;>intro P9
 ·exact xW hX (A2 []) ⟨x.dr,⟨17,[],o.of,o.number,o.until,o.rights,o.body,o.token,o.now,o.draw⟩,rfl,rfl,rfl,rfl,.inr rfl⟩
 refine cB (N6=19) ?_ ?_<;>intro h12
 ·refine cC ((([]:By).length+a.data.length)*1<=140737488355328) ?_ bd
  exact xW hX (A2 []) ⟨x.dr,⟨a.a,o.tenant,o.of,a.b,a.a,(u8.wrap a.b),([]++a.data),o.token,o.now,o.draw⟩,rfl,rfl,rfl,rfl,.inl rfl⟩
 exact xW hX (A2 []) ⟨x.dr,o,rfl,rfl,rfl,rfl,.inl rfl⟩
theorem a0l(x:TaleR)(a:ActT):SatHM Tryz.prog false 15 [.pr 2 0 [],N0 a] [4] [(2,Q4 4 x)] (fun out ho A0=>∃z,out=A2 []/\ho=[(2,Q4 4 ⟨x.s,x.n,x.tg,z,x.m,x.tk,x.dr⟩)]/\A0=[4]):=by
 refine fH false Tryz.func15 fun X0 w0 hX hm=>?_
 refine cB (0<a.t) ?_ ?_<;>intro h1
 ·refine cB (a.t<=(i64.wrap (9223372036854775807-x.now))) ?_ ?_<;>intro h2
  ·exact xW hX (A2 []) ⟨(i64.wrap (x.now+a.t)),rfl,rfl,rfl⟩
  exact xW hX (A2 []) ⟨x.now,rfl,rfl,rfl⟩
 exact xW hX (A2 []) ⟨x.now,rfl,rfl,rfl⟩
theorem a0m(r:By)(d:Int):Sat Tryz.prog 34 [.bs 32 r,.i .i64 d] [] (fun out A0=>A0=[]/\(∃e,out=I9 (.sl 0 38 0 fun i=>B4 ((fun _=>default) i)) ⟨r,e,0,0,fun _=>0,0,fun _=>default,replicate 32 0⟩)):=by
 refine cF Tryz.func34 fun X0 w0 hX=>?_
 exact xW hX (I9 (.sl 0 38 0 fun i=>B4 ((fun _=>default) i)) ⟨r,(if d<0 then 0 else d),0,0,fun _=>0,0,fun _=>default,replicate 32 0⟩) ⟨rfl,rfl,⟨_,rfl⟩⟩ (hv:=vT (u:=A1 [.bs 32 r,.i .i64 (if d<0 then 0 else d),.i .u64 0,.sl 0 38 0 fun _=>.un,.sl 0 1 0 fun _=>.un,.sl 0 38 0 fun _=>.un,.bs 32 (replicate 32 0)]) (C4 ⟨.rfl _,.rfl _,.rfl _,vN,vN,vN,.rfl _,zT⟩))
theorem a0n(r:By)(hk:r.length=32):Sat Tryz.prog 32 [.bs 32 r] [] (fun out A0=>A0=[]/\(∃t,out=G1 t/\t.tenant.length<=16/\t.cavs.length<=8/\t.tag.length=32)):=by
 refine cF Tryz.func32 fun X0 w0 hX=>?_
 refine cK [] (qD (ins':=[.bs 32 r,A1 [.i .u64 0,.s [],.i .u8 15,.i .i64 0,.i .i64 9223372036854775807,.sl 1 2 0 fun _=>.un,.bs 32 (replicate 32 0)]]) (Zx r ⟨0,[],15,0,9223372036854775807,[],(replicate 32 0)⟩ (by assumption) bd bd) ⟨.rfl _,C4 ⟨.rfl _,.rfl _,.rfl _,.rfl _,.rfl _,eA,.rfl _,zT⟩,zT⟩) ?_;rintro out A0 ⟨rfl,⟨L3,bZ,rfl,htk0,htc0,htg0⟩⟩
 exact xW hX (G1 L3) ⟨rfl,rfl,⟨_,rfl,J2 htk0 (by simp),J2 htc0 (by simp),htg0⟩⟩
theorem Bv  :Sat Tryz.prog 33 [] [] (fun out A0=>A0=[]/\(∃r,out=.bs 32 r/\r.length=32)):=by
 refine cF Tryz.func33 fun X0 w0 hX=>?_
 exact xW hX (.bs 32 (((((replicate 32 0).set 0 7).set 1 1).set 2 2).set 31 9)) ⟨rfl,rfl,⟨_,rfl,by simp⟩⟩
theorem a0o(n:Nat)(g:Nat->ActT)(mx:Int)(hn:n<=9223372036854775807):Sat Tryz.prog 5 [.sl 0 6 n fun i=>N0 (g i),.i .i64 mx] [] (fun out A0=>A0=[]/\(∃p,out=.b p/\(p=true->(n:Int)<=mx/\∀i,i<n->(g i).data.length<=4096))):=by
 refine cF Tryz.func5 fun X0 w0 hX=>?_
 refine cB (mx<(n:Int)) ?_ ?_<;>intro h1
 ·exact xW hX (.b false) ⟨rfl,rfl,⟨_,rfl,by first|(intro h;cases h;done)|exact fun _=>⟨zO,fun i hi=>hI.2 i zO⟩⟩⟩
 refine cM hX (fun(k:Nat)=>[(0,.sl 0 6 n fun i=>N0 (g i)),(5,.i .i64 (k:Int))]) (fun(k:Nat)=>[]) (fun(k:Nat)=>k<=n/\∀j,j<k->(g j).data.length<=4096) (fun(k:Nat)=>n-k) [] 400 0 ⟨L8 _,fun j hj=>absurd hj (S4 j)⟩ ?_
 rintro k hI R hR
 refine cB ((k:Int)<(n:Int)) ?_ ?_<;>intro h2
 ·refine cC ((0:Int)<=(k:Int)/\(k:Int)<(n:Int)) ?_
  refine cB (4096<(((g k).data).length:Int)) ?_ ?_<;>intro h3
  ·exact xW hX (.b false) ⟨rfl,rfl,⟨_,rfl,by first|(intro h;cases h;done)|exact fun _=>⟨zO,fun i hi=>hI.2 i zO⟩⟩⟩
  exact cA hX (hR (k+1) ⟨zO,fun j hj=>by rcases qW.1 hj with h|rfl;exact hI.2 j h;omega⟩ zO) (hS:=⟨v0,(vS bd),zT⟩)
 exact xW hX (.b true) ⟨rfl,rfl,⟨_,rfl,by first|(intro h;cases h;done)|exact fun _=>⟨zO,fun i hi=>hI.2 i zO⟩⟩⟩
theorem uW{t z n:Nat}{e:α->V}{g:Nat->α}{v:V}{x:α}(h:VEn v (e x):=by exact .rfl _):VEq (.sl t z (n+1) (fun k=>bif blt k n then e (g k) else v)) (.sl t z (n+1) fun k=>e (J1 n g x k)):=.sn _ _ _ _ _ fun k _=>by
 show VEn (bif blt k n then e (g k) else v) (e (bif blt k n then g k else x))
 cases blt k n
 ·exact h
 exact .rfl _
theorem a0p(x:TaleR)(hm:x.m<=20)(ht:∀i,i<x.m->(x.tk i).length<=20000)(o:OpT)(s:StaR)(n:Nat)(tg:Nat->TenR)(c:Int)(b:By)(hb:o.do=12->b.length<=20000)(U5:b.length<=4000000000):SatHM Tryz.prog false 18 [.pr 2 0 [],J4 o,I9 (.sl 0 38 n fun i=>B4 (tg i)) s,A1 [.i .i64 c,.bl 0 b]] [4] [(2,Q4 4 x)] (fun out ho A0=>∃m tk,out=A2 []/\ho=[(2,Q4 16 ⟨s,n,tg,x.now,m,tk,x.dr⟩)]/\A0=[16]/\m<=20/\∀i,i<m->(tk i).length<=20000):=by
 refine fH false Tryz.func18 fun X0 w0 hX hm=>?_
 refine mV 4 ?_;refine cB (o.do=12) ?_ ?_<;>intro h1
 ·refine cB (c=201) ?_ ?_<;>intro h2
  ·refine cB ((x.m:Int)<20) ?_ ?_<;>intro h3
   ·refine cC ((([]:By).length+b.length)*1<=140737488355328) ?_ bd
    refine cC ((x.m+1)*24<=140737488355328) ?_;exact xW hX (A2 []) ⟨(x.m+1),(J1 x.m x.tk ([]++b)),rfl,rfl,rfl,zO,fun i hi=>nH (p:=fun b:By=>b.length<=20000) ht (by simpa using hb (by assumption)) i hi⟩ (hH:=⟨(vT (u:=A1 [I9 (.sl 0 38 n fun i=>B4 (tg i)) s,.i .i64 x.now,.sl 16 1 (x.m+1) fun i=>bif blt i x.m then .bl 0 (x.tk i) else .bl 0 ([]++b),.i .i64 x.dr]) (C4 ⟨.rfl _,.rfl _,(uW (e:=CS)),.rfl _,zT⟩)),zT⟩)
   exact xW hX (A2 []) ⟨x.m,x.tk,rfl,rfl,rfl,zO,ht⟩ (hH:=⟨(vT (u:=A1 [I9 (.sl 0 38 n fun i=>B4 (tg i)) s,.i .i64 x.now,.sl 16 1 x.m fun i=>.bl 0 (x.tk i),.i .i64 x.dr]) (C4 ⟨.rfl _,.rfl _,.rfl _,.rfl _,zT⟩)),zT⟩)
  exact xW hX (A2 []) ⟨x.m,x.tk,rfl,rfl,rfl,zO,ht⟩ (hH:=⟨(vT (u:=A1 [I9 (.sl 0 38 n fun i=>B4 (tg i)) s,.i .i64 x.now,.sl 16 1 x.m fun i=>.bl 0 (x.tk i),.i .i64 x.dr]) (C4 ⟨.rfl _,.rfl _,.rfl _,.rfl _,zT⟩)),zT⟩)
 exact xW hX (A2 []) ⟨x.m,x.tk,rfl,rfl,rfl,zO,ht⟩ (hH:=⟨(vT (u:=A1 [I9 (.sl 0 38 n fun i=>B4 (tg i)) s,.i .i64 x.now,.sl 16 1 x.m fun i=>.bl 0 (x.tk i),.i .i64 x.dr]) (C4 ⟨.rfl _,.rfl _,.rfl _,.rfl _,zT⟩)),zT⟩)
theorem a0q(x:TaleR)(hx:TaO x)(a:ActT)(ha:a.data.length<=4096):SatHM Tryz.prog false 16 [.pr 2 0 [],N0 a] [4] [(2,Q4 4 x)] (fun out ho A0=>∃p m tk,out=.b p/\ho=[(2,Q4 16 ⟨x.s,x.n,x.tg,x.now,m,tk,x.dr⟩)]/\A0=[16]/\m<=20/\∀i,i<m->(tk i).length<=20000):=by
 refine fH false Tryz.func16 fun X0 w0 hX hm=>?_
 have hm:=hx.hm
 refine rS 1 fun hv=>?_
 have hw:=wI (hv 0 (show 0<6 by decide))
 have hb:=wI (hv 3 (show 3<6 by decide))
 have hA:=wI (hv 2 (show 2<6 by decide))
 refine mV 4 ?_;refine cK [] (bK a.what 21 bw bd) ?_;rintro out A0 ⟨rfl,⟨N6,rfl,hpl0⟩⟩
 refine cB (N6≠20) ?_ ?_<;>intro h1
 ·exact xW hX (.b false) ⟨_,x.m,x.tk,rfl,rfl,rfl,hm,hx.ht⟩ (hH:=⟨(vT (u:=Q4 16 x) (C4 ⟨.rfl _,.rfl _,.rfl _,.rfl _,zT⟩)),zT⟩)
 refine kH [(2,2),(16,4)] [2] (CT x hx a ha) ?_
 rintro out ho A0 ⟨tk1,rfl,rfl,rfl,htk1⟩
 refine cK [] (Zz tk1 bd) ?_;rintro out A0 ⟨rfl,⟨tk2,te2,rfl,htk2,htc2,htg2⟩⟩
 refine cB (te2≠0) ?_ ?_<;>intro h2
 ·exact xW hX (.b true) ⟨_,x.m,x.tk,rfl,rfl,rfl,hm,hx.ht⟩ (hH:=⟨(vT (u:=Q4 16 x) (C4 ⟨.rfl _,.rfl _,.rfl _,.rfl _,zT⟩)),zT⟩)
 refine cB (20<=(x.m:Int)) ?_ ?_<;>intro h3
 ·exact xW hX (.b true) ⟨_,x.m,x.tk,rfl,rfl,rfl,hm,hx.ht⟩ (hH:=⟨(vT (u:=Q4 16 x) (C4 ⟨.rfl _,.rfl _,.rfl _,.rfl _,zT⟩)),zT⟩)
 refine cK [] (bK a.a 50 bw bd) ?_
 rintro out A0 ⟨rfl,⟨oK,rfl,hpl3⟩⟩
 refine cB ((a.a.tmod 4)=0) ?_ ?_<;>intro h4
 ·refine jA 2 6992 (fun(p:Tok×Int)=>[(0,.pr 2 0 []),(6,.i .i64 p.2),(8,.pr 3344 0 [])]) (fun(p:Tok×Int)=>[(2,A1 [I9 (.sl 0 38 x.n fun i=>B4 (x.tg i)) x.s,.i .i64 x.now,.sl 16 1 x.m fun i=>.bl 0 (x.tk i),.i .i64 x.dr]),(3344,G1 p.1)]) (fun(p:Tok×Int)=>p.1.tenant.length<=16/\p.1.cavs.length<=9/\p.1.tag.length=32) [16] (fun R hR i hi=>?_) ?_
  ·revert i hi;refine f2 ?_ ?_<;>repeat' (first|refine al 2 (f2 ?_ ?_)|(refine cK (e:=eE) [] (bK a.b 16 bw bd) ?_;rintro out A0 ⟨rfl,⟨pl4,rfl,hpl4⟩⟩)|(refine cK (e:=eE) [] (PD tk2 (u8.wrap pl4) 9223372036854775807 bd bd (by assumption)) ?_;rintro out A0 ⟨rfl,⟨tk5,te5,rfl,htk5,htc5,htg5⟩⟩)|exact cA hX (hR (tk5,te5) ⟨by dsimp only;omega,by dsimp only;omega,by assumption⟩))
  rintro⟨y,ey⟩ J8
  dsimp only at J8
  refine cB (ey=0) ?_ ?_<;>intro h5
  ·refine cK [] (IV y bd bd J8.2.2) ?_
   rintro out A0 ⟨rb9,tf9,rfl,rfl,hrb9⟩
   refine cC ((x.m+1)*24<=140737488355328) ?_;exact xW hX (.b true) ⟨_,(x.m+1),(J1 x.m x.tk rb9),rfl,rfl,rfl,zO,fun i hi=>nH (p:=fun b:By=>b.length<=20000) hx.ht zO i hi⟩ (hH:=⟨(vT (u:=A1 [I9 (.sl 0 38 x.n fun i=>B4 (x.tg i)) x.s,.i .i64 x.now,.sl 16 1 (x.m+1) fun i=>bif blt i x.m then .bl 0 (x.tk i) else .bl 0 rb9,.i .i64 x.dr]) (C4 ⟨.rfl _,.rfl _,(uW (e:=CS)),.rfl _,zT⟩)),zT⟩)
  exact xW hX (.b true) (ho:=[(2,A1 [I9 (.sl 0 38 x.n fun i=>B4 (x.tg i)) x.s,.i .i64 x.now,.sl 16 1 x.m fun i=>CS (x.tk i),.i .i64 x.dr])]) ⟨_,x.m,x.tk,rfl,rfl,rfl,hm,hx.ht⟩ (hH:=⟨(vT (u:=A1 [I9 (.sl 0 38 x.n fun i=>B4 (x.tg i)) x.s,.i .i64 x.now,.sl 16 1 x.m fun i=>.bl 0 (x.tk i),.i .i64 x.dr]) (C4 ⟨.rfl _,.rfl _,.rfl _,.rfl _,zT⟩)),zT⟩)
 refine jA 2 6928 (fun(p:Tok×Int)=>[(0,.pr 2 0 []),(6,.i .i64 p.2),(8,.pr 3280 0 [])]) (fun(p:Tok×Int)=>[(2,A1 [I9 (.sl 0 38 x.n fun i=>B4 (x.tg i)) x.s,.i .i64 x.now,.sl 16 1 x.m fun i=>.bl 0 (x.tk i),.i .i64 x.dr]),(3280,G1 p.1)]) (fun(p:Tok×Int)=>p.1.tenant.length<=16/\p.1.cavs.length<=9/\p.1.tag.length=32) [16] (fun R hR i hi=>?_) ?_
 ·match i,hi with
 |0,_=>
   refine cK [] (bK a.b 16 bw bd) ?_;rintro out A0 ⟨rfl,⟨pl10,rfl,hpl10⟩⟩
   refine L6 2 zK fun i hi=>?_
   revert i hi;refine f2 ?_ ?_<;>repeat' (first|(refine cK (e:=eE) [] (PD tk2 (u8.wrap pl10) (i64.wrap (x.now+oK)) bd bd (by assumption)) ?_;rintro out A0 ⟨rfl,⟨tk11,te11,rfl,htk11,htc11,htg11⟩⟩)|exact cA hX (hR (tk11,te11) ⟨by dsimp only;omega,by dsimp only;omega,by assumption⟩))
 |1,_=>
   refine cK [] (bK a.b 16 bw bd) ?_;rintro out A0 ⟨rfl,⟨pl13,rfl,hpl13⟩⟩
   refine cK [] (PD tk2 (u8.wrap pl13) (i64.wrap (x.now+oK)) bd bd (by assumption)) ?_;rintro out A0 ⟨rfl,⟨tk14,te14,rfl,htk14,htc14,htg14⟩⟩
   exact cA hX (hR (tk14,te14) ⟨by dsimp only;omega,by dsimp only;omega,by assumption⟩)
 rintro⟨y,ey⟩ J8
 dsimp only at J8
 refine cB (ey=0) ?_ ?_<;>intro h6
 ·refine cK [] (IV y bd bd J8.2.2) ?_
  rintro out A0 ⟨rb15,tf15,rfl,rfl,hrb15⟩
  refine cC ((x.m+1)*24<=140737488355328) ?_;exact xW hX (.b true) ⟨_,(x.m+1),(J1 x.m x.tk rb15),rfl,rfl,rfl,zO,fun i hi=>nH (p:=fun b:By=>b.length<=20000) hx.ht zO i hi⟩ (hH:=⟨(vT (u:=A1 [I9 (.sl 0 38 x.n fun i=>B4 (x.tg i)) x.s,.i .i64 x.now,.sl 16 1 (x.m+1) fun i=>bif blt i x.m then .bl 0 (x.tk i) else .bl 0 rb15,.i .i64 x.dr]) (C4 ⟨.rfl _,.rfl _,(uW (e:=CS)),.rfl _,zT⟩)),zT⟩)
 exact xW hX (.b true) ⟨_,x.m,x.tk,rfl,rfl,rfl,hm,hx.ht⟩ (hH:=⟨(vT (u:=A1 [I9 (.sl 0 38 x.n fun i=>B4 (x.tg i)) x.s,.i .i64 x.now,.sl 16 1 x.m fun i=>.bl 0 (x.tk i),.i .i64 x.dr]) (C4 ⟨.rfl _,.rfl _,.rfl _,.rfl _,zT⟩)),zT⟩)
theorem a0r(d:Int):SatM Tryz.prog false 14 [.i .i64 d] [] (fun out ho A0=>∃x,out=.pr 16 0 []/\ho=[(16,Q4 17 x)]/\A0=[17]/\TaO x/\x.n=0/\x.s.nl=0):=by
 refine fM false Tryz.func14 fun X0 w0 hX hm=>?_
 refine cK [] (Bv) ?_;rintro out A0 ⟨rfl,⟨rt0,rfl,hrt0⟩⟩
 refine cK [] (a0n rt0 (by assumption)) ?_;rintro out A0 ⟨rfl,⟨tk1,rfl,htk1,htc1,htg1⟩⟩
 refine cK [] (IV tk1 bd bd (by assumption)) ?_;rintro out A0 ⟨rb2,tf2,rfl,rfl,hrb2⟩
 refine cK [] (Bv) ?_;rintro out A0 ⟨rfl,⟨rt3,rfl,hrt3⟩⟩
 refine cK [] (a0m rt3 d) ?_;rintro out A0 ⟨rfl,⟨nd4,rfl⟩⟩
 exact xW hX (.pr 16 0 []) ⟨⟨_,0,_,0,1,_,0⟩,rfl,rfl,rfl,⟨⟨by simp,by simp,by simp,fun i hi=>absurd hi (S4 i),fun i hi=>absurd hi (S4 i),.mk0⟩,by simp,fun i hi=>by dsimp only;omega⟩,rfl,rfl⟩ (hH:=⟨(vT (u:=A1 [I9 (.sl 0 38 0 fun i=>B4 ((fun _=>default) i)) ⟨rt3,nd4,0,0,fun _=>0,0,fun _=>default,replicate 32 0⟩,.i .i64 0,.sl 17 1 1 fun _=>.bl 0 rb2,.i .i64 0]) (C4 ⟨.rfl _,.rfl _,.rfl _,.rfl _,zT⟩)),zT⟩)
theorem a0s(x:TaleR)(hx:TaO x)(a:ActT)(ha:a.data.length<=4096):SatHM Tryz.prog false 17 [.pr 2 0 [],N0 a] [4] [(2,Q4 4 x)] (fun out ho A0=>∃d o,out=J4 o/\ho=[(2,Q4 4 ⟨x.s,x.n,x.tg,x.now,x.m,x.tk,d⟩)]/\A0=[4]/\o.token.length<=20000/\o.tenant.length<=4):=by
 refine fH false Tryz.func17 fun X0 w0 hX hm=>?_
 refine rS 1 fun hv=>?_
 have hw:=wI (hv 0 (show 0<6 by decide))
 have hb:=wI (hv 3 (show 3<6 by decide))
 have hA:=wI (hv 2 (show 2<6 by decide))
 refine kH [(2,2),(4,4)] [2] (a0j x hx a.a) ?_;rintro out ho A0 ⟨wV,rfl,rfl,rfl,gC⟩
 refine gF 16 ?_;refine jA 3 5072 (fun(p:By×By)=>[(0,.pr 2 0 []),(3,.pz (N0 a)),(4,.pr 80 0 []),(5,.pr 400 0 []),(6,.pr 1232 0 [])]) (fun(p:By×By)=>[(2,A1 [I9 (.sl 0 38 x.n fun i=>B4 (x.tg i)) x.s,.i .i64 x.now,.sl 4 1 x.m fun i=>.bl 0 (x.tk i),.i .i64 x.dr]),(80,A1 [.i .i64 0,.s [],.bs 32 (replicate 32 0),.i .i64 0,.i .i64 0,.i .u8 0,.bl 1 [],.bl 1 [],.i .i64 0,.bs 32 (replicate 32 0)]),(400,B4 wV),(1232,A1 [.i .i64 0,.s p.1,.bs 32 (replicate 32 0),.i .i64 0,.i .i64 0,.i .u8 0,.bl 1 [],.bl 0 p.2,.i .i64 x.now,.bs 32 (replicate 32 0)])]) (fun(p:By×By)=>p.1.length<=4/\p.2.length<=20000) [4] (fun R hR i hi=>?_) ?_
 ·match i,hi with
 |0,_=>
   refine cK [] (CR a.a) ?_;rintro out A0 ⟨rfl,⟨pn1,rfl,hpn1⟩⟩
   refine L6 3 zK fun i hi=>?_
   match i,hi with
  |0,_=>
    refine kH [(2,2),(4,4)] [2] (CT x hx a ha) ?_;rintro out ho A0 ⟨tk2,rfl,rfl,rfl,htk2⟩
    exact cA hX (hR (pn1,tk2) ⟨by assumption,by assumption⟩)
  |1,_|2,_=>
    refine L6 2 zK fun i hi=>?_
    match i,hi with
   |0,_|1,_=>
     refine kH [(2,2),(4,4)] [2] (CT x hx a ha) ?_;rintro out ho A0 ⟨tk3,rfl,rfl,rfl,htk3⟩
     exact cA hX (hR (pn1,tk3) ⟨by assumption,by assumption⟩)
 |1,_|2,_=>
   refine L6 2 zK fun i hi=>?_
   match i,hi with
  |0,_=>
    refine cK [] (CR a.a) ?_;rintro out A0 ⟨rfl,⟨pn7,rfl,hpn7⟩⟩
    refine L6 2 zK fun i hi=>?_
    revert i hi;refine f2 ?_ ?_<;>repeat' (first|(refine kH (e:=eE) [(2,2),(4,4)] [2] (CT x hx a ha) ?_;rintro out ho A0 ⟨tk8,rfl,rfl,rfl,htk8⟩)|exact cA hX (hR (pn7,tk8) ⟨by assumption,by assumption⟩))
  |1,_=>
    refine cK [] (CR a.a) ?_;rintro out A0 ⟨rfl,⟨pn10,rfl,hpn10⟩⟩
    refine kH [(2,2),(4,4)] [2] (CT x hx a ha) ?_;rintro out ho A0 ⟨tk11,rfl,rfl,rfl,htk11⟩
    exact cA hX (hR (pn10,tk11) ⟨by assumption,by assumption⟩)
 rintro⟨nm,tk⟩ J8
 dsimp only at J8
 refine cK [] (bK a.b 5 bw bd) ?_;rintro out A0 ⟨rfl,⟨sG,rfl,hpl17⟩⟩
 refine cK [] (bK a.what 21 bw bd) ?_;rintro out A0 ⟨rfl,⟨iT,rfl,hpl18⟩⟩
 refine cB (iT=0) ?_ ?_<;>intro h1
 ·refine O1 (iT=0) h1 ?_
  refine cC ((([]:By).length+a.data.length)*1<=140737488355328) ?_ bd;refine cK [] (PE wV ([]++a.data) bd) ?_;rintro out A0 ⟨rfl,⟨nm19,rfl,hnm19⟩⟩
  exact xW hX (J4 ⟨1,nm,nm19,0,0,0,([]++a.data),tk,x.now,(replicate 32 0)⟩) (ho:=[(2,A1 [I9 (.sl 0 38 x.n fun i=>B4 (x.tg i)) x.s,.i .i64 x.now,.sl 4 1 x.m fun i=>.bl 0 (x.tk i),.i .i64 x.dr])]) ⟨_,_,rfl,rfl,rfl,J8.2,J8.1⟩ (hv:=vT (u:=A1 [.i .i64 1,.s nm,.bs 32 nm19,.i .i64 0,.i .i64 0,.i .u8 0,.bl 0 ([]++a.data),.bl 0 tk,.i .i64 x.now,.bs 32 (replicate 32 0)]) (C4 ⟨.rfl _,.rfl _,.rfl _,.rfl _,.rfl _,.rfl _,.rfl _,.rfl _,.rfl _,.rfl _,zT⟩))
 refine cB (iT=1) ?_ ?_<;>intro h2
 ·refine cC ((([]:By).length+a.data.length)*1<=140737488355328) ?_ bd
  refine cK [] (PE wV ([]++a.data) bd) ?_;rintro out A0 ⟨rfl,⟨nm20,rfl,hnm20⟩⟩
  exact xW hX (J4 ⟨1,nm,nm20,0,0,0,([]++a.data),tk,x.now,(replicate 32 0)⟩) (ho:=[(2,A1 [I9 (.sl 0 38 x.n fun i=>B4 (x.tg i)) x.s,.i .i64 x.now,.sl 4 1 x.m fun i=>.bl 0 (x.tk i),.i .i64 x.dr])]) ⟨_,_,rfl,rfl,rfl,J8.2,J8.1⟩ (hv:=vT (u:=A1 [.i .i64 1,.s nm,.bs 32 nm20,.i .i64 0,.i .i64 0,.i .u8 0,.bl 0 ([]++a.data),.bl 0 tk,.i .i64 x.now,.bs 32 (replicate 32 0)]) (C4 ⟨.rfl _,.rfl _,.rfl _,.rfl _,.rfl _,.rfl _,.rfl _,.rfl _,.rfl _,.rfl _,zT⟩))
 refine cB (iT=2) ?_ ?_<;>intro h3
 ·refine cK [] (a0i wV a.b (i64.wrap (a.b.tdiv 3)) gC) ?_
  rintro out A0 ⟨fb21,rfl,rfl,hfb21⟩
  refine cK [] (PE wV fb21 bd) ?_;rintro out A0 ⟨rfl,⟨nm22,rfl,hnm22⟩⟩
  exact xW hX (J4 ⟨1,nm,nm22,0,0,0,fb21,tk,x.now,(replicate 32 0)⟩) (ho:=[(2,A1 [I9 (.sl 0 38 x.n fun i=>B4 (x.tg i)) x.s,.i .i64 x.now,.sl 4 1 x.m fun i=>.bl 0 (x.tk i),.i .i64 x.dr])]) ⟨_,_,rfl,rfl,rfl,J8.2,J8.1⟩ (hv:=vT (u:=A1 [.i .i64 1,.s nm,.bs 32 nm22,.i .i64 0,.i .i64 0,.i .u8 0,.bl 0 fb21,.bl 0 tk,.i .i64 x.now,.bs 32 (replicate 32 0)]) (C4 ⟨.rfl _,.rfl _,.rfl _,.rfl _,.rfl _,.rfl _,.rfl _,.rfl _,.rfl _,.rfl _,zT⟩))
 refine cB (iT=3) ?_ ?_<;>intro h4
 ·refine cK [] (a0h wV a.b gC) ?_
  rintro out A0 ⟨rfl,⟨rr23,rfl⟩⟩
  refine cK [] (a0g a.data bd) ?_;rintro out A0 ⟨rfl,⟨lb24,rfl,hlb24⟩⟩
  refine cK [] (Bt ⟨rr23,x.now,lb24⟩ bd) ?_;rintro out A0 ⟨mb25,me25,rfl,rfl,hmb25⟩
  exact xW hX (J4 ⟨3,nm,(replicate 32 0),0,0,0,mb25,tk,x.now,(replicate 32 0)⟩) (ho:=[(2,A1 [I9 (.sl 0 38 x.n fun i=>B4 (x.tg i)) x.s,.i .i64 x.now,.sl 4 1 x.m fun i=>.bl 0 (x.tk i),.i .i64 x.dr])]) ⟨_,_,rfl,rfl,rfl,J8.2,J8.1⟩ (hv:=vT (u:=A1 [.i .i64 3,.s nm,.bs 32 (replicate 32 0),.i .i64 0,.i .i64 0,.i .u8 0,.bl 0 mb25,.bl 0 tk,.i .i64 x.now,.bs 32 (replicate 32 0)]) (C4 ⟨.rfl _,.rfl _,.rfl _,.rfl _,.rfl _,.rfl _,.rfl _,.rfl _,.rfl _,.rfl _,zT⟩))
 refine cB (iT=4) ?_ ?_<;>intro h5
 ·refine cK [] (IX wV a.b gC) ?_
  rintro out A0 ⟨rfl,⟨bx26,rfl,hbx26⟩⟩
  exact xW hX (J4 ⟨2,nm,bx26.of,0,0,0,[],tk,x.now,(replicate 32 0)⟩) (ho:=[(2,A1 [I9 (.sl 0 38 x.n fun i=>B4 (x.tg i)) x.s,.i .i64 x.now,.sl 4 1 x.m fun i=>.bl 0 (x.tk i),.i .i64 x.dr])]) ⟨_,_,rfl,rfl,rfl,J8.2,J8.1⟩ (hv:=vT (u:=A1 [.i .i64 2,.s nm,.bs 32 bx26.of,.i .i64 0,.i .i64 0,.i .u8 0,.bl 0 [],.bl 0 tk,.i .i64 x.now,.bs 32 (replicate 32 0)]) (C4 ⟨.rfl _,.rfl _,.rfl _,.rfl _,.rfl _,.rfl _,.rfl _,.rfl _,.rfl _,.rfl _,zT⟩))
 refine cB (iT=5) ?_ ?_<;>intro h6
 ·exact xW hX (J4 ⟨4,nm,(replicate 32 0),0,0,0,[],tk,x.now,(replicate 32 0)⟩) (ho:=[(2,A1 [I9 (.sl 0 38 x.n fun i=>B4 (x.tg i)) x.s,.i .i64 x.now,.sl 4 1 x.m fun i=>.bl 0 (x.tk i),.i .i64 x.dr])]) ⟨_,_,rfl,rfl,rfl,J8.2,J8.1⟩ (hv:=vT (u:=A1 [.i .i64 4,.s nm,.bs 32 (replicate 32 0),.i .i64 0,.i .i64 0,.i .u8 0,.bl 0 [],.bl 0 tk,.i .i64 x.now,.bs 32 (replicate 32 0)]) (C4 ⟨.rfl _,.rfl _,.rfl _,.rfl _,.rfl _,.rfl _,.rfl _,.rfl _,.rfl _,.rfl _,zT⟩))
 refine cB (iT=6) ?_ ?_<;>intro h7
 ·exact xW hX (J4 ⟨5,nm,(replicate 32 0),sG,0,0,[],tk,x.now,(replicate 32 0)⟩) (ho:=[(2,A1 [I9 (.sl 0 38 x.n fun i=>B4 (x.tg i)) x.s,.i .i64 x.now,.sl 4 1 x.m fun i=>.bl 0 (x.tk i),.i .i64 x.dr])]) ⟨_,_,rfl,rfl,rfl,J8.2,J8.1⟩ (hv:=vT (u:=A1 [.i .i64 5,.s nm,.bs 32 (replicate 32 0),.i .i64 sG,.i .i64 0,.i .u8 0,.bl 0 [],.bl 0 tk,.i .i64 x.now,.bs 32 (replicate 32 0)]) (C4 ⟨.rfl _,.rfl _,.rfl _,.rfl _,.rfl _,.rfl _,.rfl _,.rfl _,.rfl _,.rfl _,zT⟩))
 refine cB (iT=7) ?_ ?_<;>intro h8
 ·exact xW hX (J4 ⟨6,nm,(replicate 32 0),sG,0,0,[],tk,x.now,(replicate 32 0)⟩) (ho:=[(2,A1 [I9 (.sl 0 38 x.n fun i=>B4 (x.tg i)) x.s,.i .i64 x.now,.sl 4 1 x.m fun i=>.bl 0 (x.tk i),.i .i64 x.dr])]) ⟨_,_,rfl,rfl,rfl,J8.2,J8.1⟩ (hv:=vT (u:=A1 [.i .i64 6,.s nm,.bs 32 (replicate 32 0),.i .i64 sG,.i .i64 0,.i .u8 0,.bl 0 [],.bl 0 tk,.i .i64 x.now,.bs 32 (replicate 32 0)]) (C4 ⟨.rfl _,.rfl _,.rfl _,.rfl _,.rfl _,.rfl _,.rfl _,.rfl _,.rfl _,.rfl _,zT⟩))
 refine cB (iT=8) ?_ ?_<;>intro h9
 ·exact xW hX (J4 ⟨7,nm,(replicate 32 0),sG,0,0,[],tk,x.now,(replicate 32 0)⟩) (ho:=[(2,A1 [I9 (.sl 0 38 x.n fun i=>B4 (x.tg i)) x.s,.i .i64 x.now,.sl 4 1 x.m fun i=>.bl 0 (x.tk i),.i .i64 x.dr])]) ⟨_,_,rfl,rfl,rfl,J8.2,J8.1⟩ (hv:=vT (u:=A1 [.i .i64 7,.s nm,.bs 32 (replicate 32 0),.i .i64 sG,.i .i64 0,.i .u8 0,.bl 0 [],.bl 0 tk,.i .i64 x.now,.bs 32 (replicate 32 0)]) (C4 ⟨.rfl _,.rfl _,.rfl _,.rfl _,.rfl _,.rfl _,.rfl _,.rfl _,.rfl _,.rfl _,zT⟩))
 refine cB (iT=9) ?_ ?_<;>intro K0
 ·exact xW hX (J4 ⟨8,nm,(replicate 32 0),sG,0,0,[],tk,x.now,(replicate 32 0)⟩) (ho:=[(2,A1 [I9 (.sl 0 38 x.n fun i=>B4 (x.tg i)) x.s,.i .i64 x.now,.sl 4 1 x.m fun i=>.bl 0 (x.tk i),.i .i64 x.dr])]) ⟨_,_,rfl,rfl,rfl,J8.2,J8.1⟩ (hv:=vT (u:=A1 [.i .i64 8,.s nm,.bs 32 (replicate 32 0),.i .i64 sG,.i .i64 0,.i .u8 0,.bl 0 [],.bl 0 tk,.i .i64 x.now,.bs 32 (replicate 32 0)]) (C4 ⟨.rfl _,.rfl _,.rfl _,.rfl _,.rfl _,.rfl _,.rfl _,.rfl _,.rfl _,.rfl _,zT⟩))
 refine cB (iT=10) ?_ ?_<;>intro P9
 ·exact xW hX (J4 ⟨9,nm,(replicate 32 0),0,0,0,[],tk,x.now,(replicate 32 0)⟩) (ho:=[(2,A1 [I9 (.sl 0 38 x.n fun i=>B4 (x.tg i)) x.s,.i .i64 x.now,.sl 4 1 x.m fun i=>.bl 0 (x.tk i),.i .i64 x.dr])]) ⟨_,_,rfl,rfl,rfl,J8.2,J8.1⟩ (hv:=vT (u:=A1 [.i .i64 9,.s nm,.bs 32 (replicate 32 0),.i .i64 0,.i .i64 0,.i .u8 0,.bl 0 [],.bl 0 tk,.i .i64 x.now,.bs 32 (replicate 32 0)]) (C4 ⟨.rfl _,.rfl _,.rfl _,.rfl _,.rfl _,.rfl _,.rfl _,.rfl _,.rfl _,.rfl _,zT⟩))
 refine gR 1232 (A1 [.i .i64 0,.s nm,.bs 32 (replicate 32 0),.i .i64 0,.i .i64 0,.i .u8 0,.bl 1 [],.bl 0 tk,.i .i64 x.now,.bs 32 (replicate 32 0)]) (A1 [.i .i64 0,.s nm,.bs 32 (replicate 32 0),.i .i64 0,.i .i64 0,.i .u8 0,.bl 0 [],.bl 0 tk,.i .i64 x.now,.bs 32 (replicate 32 0)]) (yB (C4 ⟨.rfl _,.rfl _,.rfl _,.rfl _,.rfl _,.rfl _,.fb _,.rfl _,.rfl _,.rfl _,zT⟩) rfl) ?_
 refine kH [(2,2),(1232,3),(4,4)] [2,1232] (a0k x hx a ha ⟨0,nm,(replicate 32 0),0,0,0,[],tk,x.now,(replicate 32 0)⟩) ?_;rintro out ho A0 ⟨rd27,ro27,rfl,rfl,rfl,hro27⟩
 exact xW hX (J4 ro27) (ho:=[(2,Q4 4 (⟨x.s,x.n,x.tg,x.now,x.m,x.tk,rd27⟩))]) ⟨_,_,rfl,rfl,rfl,by rw[hro27.1];exact J8.2,by rcases hro27.2 with h|h<;>rw[h]<;>first|exact J8.1|simp⟩
noncomputable def zvE (t:TypeId):V:=match zeroCells Tryz.prog t with|some C=>(xI Tryz.prog t C).getD .un|none=>.un
def bL(i:Nat):ActT:=[⟨11,0,0,30,0,[]⟩,⟨11,0,1,9,0,[]⟩,⟨13,0,4,3,0,[]⟩,⟨13,0,4,7,0,[]⟩,⟨13,0,4,1,0,[]⟩,⟨0,0,0,0,0,[111,110,101]⟩,⟨0,0,0,0,0,[116,119,111]⟩,⟨2,0,0,4,0,[]⟩,⟨3,0,0,0,0,[102,105,114,115,116]⟩].getD i default
theorem nJ{v:V}{x:ActT}(e:v=A1 [.i .i64 x.what,.i .i64 x.who,.i .i64 x.a,.i .i64 x.b,.i .i64 x.t,.bl 1 x.data]:=by kernel_rfl):VEn v (N0 x):=e▸.st _ _ _ fun i hi=>match i,hi with|0,_=>.rfl _|1,_=>.rfl _|2,_=>.rfl _|3,_=>.rfl _|4,_=>.rfl _|5,_=>.bl _
theorem a0u{f:Nat->V}(h0:VEn (f 0) (N0 (bL 0)):=by exact nJ)(h1:VEn (f 1) (N0 (bL 1)):=by exact nJ)(h2:VEn (f 2) (N0 (bL 2)):=by exact nJ)(h3:VEn (f 3) (N0 (bL 3)):=by exact nJ)(h4:VEn (f 4) (N0 (bL 4)):=by exact nJ)(h5:VEn (f 5) (N0 (bL 5)):=by exact nJ)(h6:VEn (f 6) (N0 (bL 6)):=by exact nJ)(h7:VEn (f 7) (N0 (bL 7)):=by exact nJ)(h8:VEn (f 8) (N0 (bL 8)):=by exact nJ):VEq (.sl 1 6 9 f) (.sl 1 6 9 fun i=>N0 (bL i)):=
 .sn _ _ _ _ _ fun i hi=>match i,hi with|0,_=>h0|1,_=>h1|2,_=>h2|3,_=>h3|4,_=>h4|5,_=>h5|6,_=>h6|7,_=>h7|8,_=>h8
theorem a0v  :Sat Tryz.prog 7 [] [] (fun out A0=>A0=[]/\(out=.sl 1 6 9 fun i=>N0 (bL i))):=by
 refine cF Tryz.func7 fun X0 w0 hX=>?_
 exact xW hX (.sl 1 6 9 fun i=>N0 (bL i)) ⟨rfl,rfl,rfl⟩ (hv:=vT (u:=.sl 1 6 9 fun i=>bif beq i 8 then A1 [.i .i64 3,.i .i64 0,.i .i64 0,.i .i64 0,.i .i64 0,.bl 1 [102,105,114,115,116]] else bif beq i 7 then A1 [.i .i64 2,.i .i64 0,.i .i64 0,.i .i64 4,.i .i64 0,.bl 1 []] else bif beq i 6 then A1 [.i .i64 0,.i .i64 0,.i .i64 0,.i .i64 0,.i .i64 0,.bl 1 [116,119,111]] else bif beq i 5 then A1 [.i .i64 0,.i .i64 0,.i .i64 0,.i .i64 0,.i .i64 0,.bl 1 [111,110,101]] else bif beq i 4 then A1 [.i .i64 13,.i .i64 0,.i .i64 4,.i .i64 1,.i .i64 0,.bl 1 []] else bif beq i 3 then A1 [.i .i64 13,.i .i64 0,.i .i64 4,.i .i64 7,.i .i64 0,.bl 1 []] else bif beq i 2 then A1 [.i .i64 13,.i .i64 0,.i .i64 4,.i .i64 3,.i .i64 0,.bl 1 []] else bif beq i 1 then A1 [.i .i64 11,.i .i64 0,.i .i64 1,.i .i64 9,.i .i64 0,.bl 1 []] else bif beq i 0 then A1 [.i .i64 11,.i .i64 0,.i .i64 0,.i .i64 30,.i .i64 0,.bl 1 []] else (zvE 64)) a0u)
structure StN where
 s:StaR
 n:Nat
 tg:Nat->TenR
structure AnsT where
 c:Int
 b:By
def cZ(x:StN):V:=I9 (.sl 0 38 x.n fun i=>B4 (x.tg i)) x.s
def bN(x:AnsT):V:=A1 [.i .i64 x.c,.bl 0 x.b]
def TaleR.st(x:TaleR):StN:=⟨x.s,x.n,x.tg⟩
structure StpQ (o:OpT) (x y:StN) (a:AnsT):Prop where
 p:StepP o x.s y.s x.n y.n x.tg y.tg a.c a.b
 ok:SOk x.s x.n x.tg
def RunI(m:Nat)(gs:Nat->StN)(go:Nat->OpT)(ga:Nat->AnsT)(z:StN):Prop:=∀j,j<m->StpQ (go j) (gs j) (J1 m gs z (j+1)) (ga j)
theorem CU{g:Nat->α}{z:α}(h:j<m):J1 m g z j=g j:=by unfold J1;rw[show blt j m=true from by rw[A8];exact h];rfl
theorem CV{g:Nat->α}{z:α}:J1 m g z m=z:=by unfold J1;rw[show blt m m=false from by rw[<-Bool.not_eq_true,A8];omega];rfl
instance:Inhabited StN:=⟨⟨⟨[],0,0,0,fun _=>0,0,fun _=>default,[]⟩,0,fun _=>default⟩⟩
instance:Inhabited OpT:=⟨⟨0,[],[],0,0,0,[],[],0,[]⟩⟩
instance:Inhabited AnsT:=⟨⟨0,[]⟩⟩
theorem RunI.fin{gs:Nat->StN}{go:Nat->OpT}{ga:Nat->AnsT}{z:StN}(h:RunI m gs go ga z):∀j,j<m->StpQ (go j) (J1 m gs z j) (J1 m gs z (j+1)) (ga j):=fun j hj=>by rw[CU hj];exact h j hj
theorem RunI.snoc{gs:Nat->StN}{go:Nat->OpT}{ga:Nat->AnsT}{z z1 z2:StN}{o:OpT}{a:AnsT}(h:RunI m gs go ga z)(e:z1=z)(hs:StpQ o z1 z2 a):RunI (m+1) (J1 m gs z1) (J1 m go o) (J1 m ga a) z2:=fun j hj=>by
 subst e
 by_cases h1:j<m
 ·rw[CU h1,CU h1,CU h1,CU (show j+1<m+1 by omega)];exact h j h1
 obtain rfl:j=m:=by omega
 rw[CV,CV,CV,CV];exact hs
theorem a0w(x:TaleR)(hx:TaO x)(a:ActT):SatHM Tryz.prog false 15 [.pr 2 0 [],N0 a] [4] [(2,Q4 4 x)] (fun out ho A0=>∃y,out=A2 []/\ho=[(2,Q4 4 y)]/\A0=[4]/\TaO y/\y.st=x.st):=
 (a0l x a).mono fun _ _ _ ⟨_,h1,h2,h3⟩=>⟨_,h1,h2,h3,⟨hx.ok,hx.hm,hx.ht⟩,rfl⟩
theorem a0x(x:TaleR)(hx:TaO x)(a:ActT)(ha:a.data.length<=4096):SatHM Tryz.prog false 16 [.pr 2 0 [],N0 a] [4] [(2,Q4 4 x)] (fun out ho A0=>∃p y,out=.b p/\ho=[(2,Q4 16 y)]/\A0=[16]/\TaO y/\y.st=x.st):=
 (a0q x hx a ha).mono fun _ _ _ ⟨p,_,_,h1,h2,h3,h4,h5⟩=>⟨p,_,h1,h2,h3,⟨hx.ok,h4,h5⟩,rfl⟩
theorem a0y(x:TaleR)(hx:TaO x)(a:ActT)(ha:a.data.length<=4096):SatHM Tryz.prog false 17 [.pr 2 0 [],N0 a] [4] [(2,Q4 4 x)] (fun out ho A0=>∃y o,out=J4 o/\ho=[(2,Q4 4 y)]/\A0=[4]/\TaO y/\y.st=x.st/\o.token.length<=20000/\o.tenant.length<=4):=
 (a0s x hx a ha).mono fun _ _ _ ⟨_,o,h1,h2,h3,h4,h5⟩=>⟨_,o,h1,h2,h3,⟨hx.ok,hx.hm,hx.ht⟩,rfl,h4,h5⟩
theorem a0z(x:TaleR)(hx:TaO x)(o:OpT)(s:StaR)(n:Nat)(tg:Nat->TenR)(c:Int)(b:By)(hS:SOk s n tg)(hb:o.do=12->b.length<=20000)(U5:b.length<=4000000000):SatHM Tryz.prog false 18 [.pr 2 0 [],J4 o,I9 (.sl 0 38 n fun i=>B4 (tg i)) s,A1 [.i .i64 c,.bl 0 b]] [4] [(2,Q4 4 x)] (fun out ho A0=>∃y,out=A2 []/\ho=[(2,Q4 16 y)]/\A0=[16]/\TaO y/\y.st=⟨s,n,tg⟩):=
 (a0p x hx.hm hx.ht o s n tg c b hb U5).mono fun _ _ _ ⟨_,_,h1,h2,h3,h4,h5⟩=>⟨_,h1,h2,h3,⟨hS,h4,h5⟩,rfl⟩
theorem a1a(d:Int)(n:Nat)(g:Nat->ActT)(hn:n<=60)(hg:∀i,i<n->(g i).data.length<=4096):SatM Tryz.prog true 6 [.i .i64 d,.sl 0 6 n fun i=>N0 (g i)] [] (fun out ho A0=>∃(m:Nat) (gs:Nat->StN) (go:Nat->OpT) (ga:Nat->AnsT),out=A1 [.sl 0 69 (m+1) fun i=>cZ (gs i),.sl 0 72 m fun i=>J4 (go i),.sl 0 2 m fun i=>bN (ga i),.uk 1]/\ho=[]/\A0=[]/\m<=60/\∀j,j<m->StpQ (go j) (gs j) (gs (j+1)) (ga j)):=by
 refine fM true Tryz.func6 fun X0 w0 hX hm=>?_
 refine kO [] (a0r d) ?_;rintro out ho A0 ⟨y0,rfl,rfl,rfl,hy0,hyn,hyl⟩
 refine cL hX (fun(p:Nat×Nat×(Nat->StN)×(Nat->OpT)×(Nat->AnsT)×TaleR)=>[(1,.sl 0 6 n fun i=>N0 (g i)),(4,.pr 16 0 []),(5,.pr 160 0 []),(6,.pr 400 0 []),(7,.i .i64 (p.1:Int))]) (fun(p:Nat×Nat×(Nat->StN)×(Nat->OpT)×(Nat->AnsT)×TaleR)=>[(16,A1 [.sl 1 69 0 fun _=>.un,.sl 1 72 0 fun _=>.un,.sl 1 2 0 fun _=>.un,.np]),(160,Q4 20 p.2.2.2.2.2),(400,A1 [.sl 21 69 p.2.1 fun i=>cZ (p.2.2.1 i),.sl 22 72 p.2.1 fun i=>J4 (p.2.2.2.1 i),.sl 23 2 p.2.1 fun i=>bN (p.2.2.2.2.1 i),.pr 160 0 []])]) (fun(p:Nat×Nat×(Nat->StN)×(Nat->OpT)×(Nat->AnsT)×TaleR)=>p.1<=n/\p.2.1<=p.1/\TaO p.2.2.2.2.2/\RunI p.2.1 p.2.2.1 p.2.2.2.1 p.2.2.2.2.1 p.2.2.2.2.2.st) (fun(p:Nat×Nat×(Nat->StN)×(Nat->OpT)×(Nat->AnsT)×TaleR)=>n-p.1) [(161,20)] [20,21,22,23] 592 (0,0,fun _=>default,fun _=>default,fun _=>default,y0) ⟨L8 _,B2 _,hy0,fun j hj=>absurd hj (S4 j)⟩ ⟨v0,v0,v0,v0,v0,zT⟩ ⟨v0,v0,(vT (u:=A1 [.sl 21 69 0 fun _=>.un,.sl 22 72 0 fun _=>.un,.sl 23 2 0 fun _=>.un,.pr 160 0 []]) (C4 ⟨vN,vN,vN,.rfl _,zT⟩)),zT⟩ ?_;rintro⟨k,m,gs,go,ga,x⟩ o6 R hR
 dsimp only at o6
 refine cB ((k:Int)<(n:Int)) ?_ ?_<;>intro h1
 ·refine cC ((0:Int)<=(k:Int)/\(k:Int)<(n:Int)) ?_
  refine kH [(160,2),(20,4)] [160] (a0w x o6.2.2.1 (g k)) ?_;rintro out ho A0 ⟨y1,rfl,rfl,rfl,hy1,rE⟩
  refine cC ((0:Int)<=(k:Int)/\(k:Int)<(n:Int)) ?_;refine kH [(160,2),(20,4)] [160] (a0x y1 hy1 (g k) (hg _ zO)) ?_;rintro out ho A0 ⟨pl2,y2,rfl,rfl,rfl,hy2,jY⟩
  refine cb (pl2) ?_ ?_<;>intro h2
  ·exact cR (R:=R) hX [(1568,20),(21,21),(22,22),(23,23)] (hR (k+1,m,gs,go,ga,y2) ⟨by dsimp only;omega,by dsimp only;omega,hy2,by dsimp only;rw[jY.trans rE];exact o6.2.2.2⟩ (by dsimp only;omega)) ⟨v0,v0,v0,v0,(vS bd),zT⟩ ⟨v0,v0,v0,zT⟩
  refine cC ((0:Int)<=(k:Int)/\(k:Int)<(n:Int)) ?_
  refine kH [(160,2),(1568,4)] [160] (a0y y2 hy2 (g k) (hg _ zO)) ?_;rintro out ho A0 ⟨y3,o3,rfl,rfl,rfl,sH,hz3,hot3,hon3⟩
  refine jA 3 7056 (fun(p:StN×AnsT)=>[(1,.sl 0 6 n fun i=>N0 (g i)),(4,.pr 16 0 []),(5,.pr 160 0 []),(6,.pr 400 0 []),(7,.i .i64 (k:Int)),(8,.pr 2000 0 []),(9,.pr 2704 0 []),(10,.pr 2768 0 [])]) (fun(p:StN×AnsT)=>[(16,A1 [.sl 1 69 0 fun _=>.un,.sl 1 72 0 fun _=>.un,.sl 1 2 0 fun _=>.un,.np]),(160,Q4 1568 y3),(400,A1 [.sl 21 69 m fun i=>cZ (gs i),.sl 22 72 m fun i=>J4 (go i),.sl 23 2 m fun i=>bN (ga i),.pr 160 0 []]),(2000,J4 o3),(2704,cZ p.1),(2768,bN p.2)]) (fun(p:StN×AnsT)=>StepP o3 y3.s p.1.s y3.n p.1.n y3.tg p.1.tg p.2.c p.2.b) [21,22,23,1568] (fun R hR i hi=>?_) ?_
  ·match i,hi with
  |0,_=>
    refine kM (fun _=>hm rfl) [] (CP y3.s o3 y3.n y3.tg sH.ok zO zO) ?_;rintro out ho A0 ⟨c4,b4,s4,n4,tg4,rfl,rfl,rfl,hst4⟩
    refine gZ 2464 ?_;refine gZ 2465 ?_;refine gZ 2466 ?_;refine L6 2 zK fun i hi=>?_
    match i,hi with
   |0,_=>
     exact cR (R:=R) hX [(1568,1568),(21,21),(22,22),(23,23)] (hR (⟨s4,n4,tg4⟩,⟨c4,b4⟩) hst4) ⟨v0,v0,v0,v0,v0,v0,v0,v0,zT⟩ ⟨v0,v0,v0,v0,v0,v0,zT⟩
   |1,_=>
     exact cR (R:=R) hX [(2768,2704),(2704,2768),(1568,1568),(21,21),(22,22),(23,23)] (hR (⟨s4,n4,tg4⟩,⟨c4,b4⟩) hst4) ⟨v0,v0,v0,v0,v0,v0,v0,v0,zT⟩ ⟨v0,v0,v0,v0,v0,v0,zT⟩
  |1,_=>
    refine L6 2 zK fun i hi=>?_
    match i,hi with
   |0,_=>
     refine kM (fun _=>hm rfl) [] (CP y3.s o3 y3.n y3.tg sH.ok zO zO) ?_;rintro out ho A0 ⟨c5,b5,s5,n5,tg5,rfl,rfl,rfl,hst5⟩
     refine gZ 2528 ?_;refine gZ 2529 ?_;refine gZ 2530 ?_;exact cR (R:=R) hX [(2448,2704),(1568,1568),(21,21),(22,22),(23,23)] (hR (⟨s5,n5,tg5⟩,⟨c5,b5⟩) hst5) ⟨v0,v0,v0,v0,v0,v0,v0,v0,zT⟩ ⟨v0,v0,v0,v0,v0,v0,zT⟩
   |1,_=>
     refine kM (fun _=>hm rfl) [] (CP y3.s o3 y3.n y3.tg sH.ok zO zO) ?_;rintro out ho A0 ⟨c6,b6,s6,n6,tg6,rfl,rfl,rfl,hst6⟩
     refine gZ 2592 ?_;refine gZ 2593 ?_;refine gZ 2594 ?_;exact cR (R:=R) hX [(2448,2704),(2512,2768),(1568,1568),(21,21),(22,22),(23,23)] (hR (⟨s6,n6,tg6⟩,⟨c6,b6⟩) hst6) ⟨v0,v0,v0,v0,v0,v0,v0,v0,zT⟩ ⟨v0,v0,v0,v0,v0,v0,zT⟩
  |2,_=>
    refine L6 2 zK fun i hi=>?_
    match i,hi with
   |0,_=>
     refine kM (fun _=>hm rfl) [] (CP y3.s o3 y3.n y3.tg sH.ok zO zO) ?_;rintro out ho A0 ⟨c7,b7,s7,n7,tg7,rfl,rfl,rfl,hst7⟩
     refine gZ 2528 ?_;refine gZ 2529 ?_;refine gZ 2530 ?_;exact cR (R:=R) hX [(2768,2704),(2448,2768),(1568,1568),(21,21),(22,22),(23,23)] (hR (⟨s7,n7,tg7⟩,⟨c7,b7⟩) hst7) ⟨v0,v0,v0,v0,v0,v0,v0,v0,zT⟩ ⟨v0,v0,v0,v0,v0,v0,zT⟩
   |1,_=>
     refine kM (fun _=>hm rfl) [] (CP y3.s o3 y3.n y3.tg sH.ok zO zO) ?_;rintro out ho A0 ⟨c8,b8,s8,n8,tg8,rfl,rfl,rfl,hst8⟩
     refine gZ 2592 ?_;refine gZ 2593 ?_;refine gZ 2594 ?_;exact cR (R:=R) hX [(2512,2704),(2448,2768),(1568,1568),(21,21),(22,22),(23,23)] (hR (⟨s8,n8,tg8⟩,⟨c8,b8⟩) hst8) ⟨v0,v0,v0,v0,v0,v0,v0,v0,zT⟩ ⟨v0,v0,v0,v0,v0,v0,zT⟩
  rintro⟨z,a⟩ I0
  refine jA 3 12688 (fun(u:Unit)=>[(1,.sl 0 6 n fun i=>N0 (g i)),(4,.pr 16 0 []),(5,.pr 160 0 []),(6,.pr 400 0 []),(7,.i .i64 (k:Int)),(8,.pr 2000 0 []),(9,.pr 2704 0 []),(10,.pr 2768 0 [])]) (fun(u:Unit)=>[(16,A1 [.sl 1 69 0 fun _=>.un,.sl 1 72 0 fun _=>.un,.sl 1 2 0 fun _=>.un,.np]),(160,Q4 1568 y3),(400,A1 [.sl 7888 69 (m+1) fun i=>bif blt i m then cZ (gs i) else I9 (.sl 0 38 y3.n fun i=>B4 (y3.tg i)) y3.s,.sl 8080 72 (m+1) fun i=>bif blt i m then J4 (go i) else J4 o3,.sl 8208 2 (m+1) fun i=>bif blt i m then bN (ga i) else bN a,.pr 160 0 []]),(2000,J4 o3),(2704,cZ z),(2768,bN a)]) (fun(u:Unit)=>True) [1568,7888,8080,8208] (fun R hR i hi=>?_) ?_
  ·match i,hi with
  |0,_=>
    refine L6 3 zK fun i hi=>?_
    match i,hi with
   |0,_=>
     refine cC ((m+1)*152<=140737488355328) ?_;refine L6 2 zK fun i hi=>?_
     match i,hi with
    |0,_=>
      refine L6 2 zK fun i hi=>?_
      match i,hi with
     |0,_|1,_=>
       refine cC ((m+1)*168<=140737488355328) ?_;refine cC ((m+1)*32<=140737488355328) ?_;exact cA hX (hR () zT)
    |1,_=>
      refine cC ((m+1)*168<=140737488355328) ?_;refine cC ((m+1)*32<=140737488355328) ?_;exact cA (R:=R) hX (hR () zT)
   |1,_=>
     refine L6 2 zK fun i hi=>?_
     match i,hi with
    |0,_=>
      refine cC ((m+1)*152<=140737488355328) ?_;refine L6 2 zK fun i hi=>?_
      match i,hi with
     |0,_|1,_=>
       refine cC ((m+1)*168<=140737488355328) ?_;refine cC ((m+1)*32<=140737488355328) ?_;exact cA hX (hR () zT)
    |1,_=>
      refine cC ((m+1)*152<=140737488355328) ?_;refine cC ((m+1)*168<=140737488355328) ?_;refine cC ((m+1)*32<=140737488355328) ?_;exact cA hX (hR () zT)
   |2,_=>
     refine L6 2 zK fun i hi=>?_
     match i,hi with
    |0,_=>
      refine cC ((m+1)*152<=140737488355328) ?_;refine cC ((m+1)*168<=140737488355328) ?_;refine cC ((m+1)*32<=140737488355328) ?_;exact cA (R:=R) hX (hR () zT)
    |1,_=>
      refine cC ((m+1)*152<=140737488355328) ?_;refine cC ((m+1)*168<=140737488355328) ?_;refine cC ((m+1)*32<=140737488355328) ?_;exact cA (R:=R) hX (hR () zT) (hS:=⟨v0,v0,v0,v0,v0,v0,v0,v0,zT⟩) (hH:=⟨v0,v0,v0,v0,v0,v0,zT⟩)
  |1,_=>
    refine L6 2 zK fun i hi=>?_
    match i,hi with
   |0,_=>
     refine L6 2 zK fun i hi=>?_
     match i,hi with
    |0,_=>
      refine cC ((m+1)*152<=140737488355328) ?_;refine L6 2 zK fun i hi=>?_
      match i,hi with
     |0,_|1,_=>
       refine cC ((m+1)*168<=140737488355328) ?_;refine cC ((m+1)*32<=140737488355328) ?_;exact cA hX (hR () zT)
    |1,_=>
      refine cC ((m+1)*152<=140737488355328) ?_;refine cC ((m+1)*168<=140737488355328) ?_;refine cC ((m+1)*32<=140737488355328) ?_;exact cA hX (hR () zT)
   |1,_=>
     refine cC ((m+1)*152<=140737488355328) ?_;refine cC ((m+1)*168<=140737488355328) ?_;refine cC ((m+1)*32<=140737488355328) ?_;exact cA (R:=R) hX (hR () zT)
  |2,_=>
    refine L6 2 zK fun i hi=>?_
    match i,hi with
   |0,_=>
     refine L6 2 zK fun i hi=>?_
     match i,hi with
    |0,_|1,_=>
      refine cC ((m+1)*152<=140737488355328) ?_;refine cC ((m+1)*168<=140737488355328) ?_;refine cC ((m+1)*32<=140737488355328) ?_;exact cA hX (hR () zT)
   |1,_=>
     refine cC ((m+1)*152<=140737488355328) ?_;refine cC ((m+1)*168<=140737488355328) ?_;refine cC ((m+1)*32<=140737488355328) ?_;exact cA hX (hR () zT)
  rintro u hJ
  refine kH [(160,2),(1568,4)] [160] (a0z y3 sH o3 z.s z.n z.tg a.c a.b (I0.ok sH.ok) I0.bl.2 I0.bl.1) ?_;rintro out ho A0 ⟨y9,rfl,rfl,rfl,hy9,hz9⟩
  exact cA hX (hR (k+1,m+1,J1 m gs (TaleR.st y3),J1 m go o3,J1 m ga a,y9) ⟨by dsimp only;omega,by dsimp only;omega,hy9,by dsimp only;rw[hz9];exact o6.2.2.2.snoc (hz3.trans (jY.trans rE)) ⟨I0,sH.ok⟩⟩ (by dsimp only;omega)) (hS:=⟨v0,v0,v0,v0,(vS bd),zT⟩) (hH:=⟨v0,v0,(vT (u:=A1 [.sl 21 69 (m+1) fun i=>bif blt i m then cZ (gs i) else I9 (.sl 0 38 y3.n fun i=>B4 (y3.tg i)) y3.s,.sl 22 72 (m+1) fun i=>bif blt i m then J4 (go i) else J4 o3,.sl 23 2 (m+1) fun i=>bif blt i m then bN (ga i) else bN a,.pr 160 0 []]) (C4 ⟨uW (e:=cZ),uW (e:=J4),uW (e:=bN),.rfl _,zT⟩)),zT⟩)
 refine cC ((m+1)*152<=140737488355328) ?_
 exact xW hX (A1 [.sl 0 69 (m+1) fun i=>cZ (J1 m gs x.st i),.sl 0 72 m fun i=>J4 (go i),.sl 0 2 m fun i=>bN (ga i),.uk 1]) ⟨m,J1 m gs x.st,go,ga,rfl,rfl,rfl,zO,o6.2.2.2.fin⟩ (hv:=vT (u:=A1 [.sl 0 69 (m+1) fun i=>bif blt i m then cZ (gs i) else I9 (.sl 0 38 x.n fun i=>B4 (x.tg i)) x.s,.sl 0 72 m fun i=>J4 (go i),.sl 0 2 m fun i=>bN (ga i),.uk 1]) (C4 ⟨(uW (e:=cZ)),.rfl _,.rfl _,.rfl _,zT⟩))
def nK(tk:By):OpT:=⟨17,[],replicate 32 0,0,0,0,[],tk,0,replicate 32 0⟩
theorem Bw(s:StaR)(n:Nat)(tg:Nat->TenR)(hn:n=0)(hB:StB s n tg):SatM Tryz.prog false 26 [I9 (.sl 0 38 n fun i=>B4 (tg i)) s] [] (fun out ho A0=>out=zD 16 s/\ho=zF 16 (.ar 38 n fun i=>B4 (tg i)) s/\A0=[16,17,18]):=
 (As s n tg 0 hB).mono fun _ _ _ h=>h.elim (fun h=>absurd h.1 zO) fun h=>h.2
theorem a1b  :Sat Tryz.prog 61 [.s []] [] (fun out A0=>A0=[]/\(out=.b false)):=by
 refine cF Tryz.func61 fun X0 w0 hX=>?_
 refine O1 ((0:Int)<1) (by decide) ?_;exact xW hX (.b false) ⟨rfl,rfl,rfl⟩
theorem Bx(tk:By):Sat Tryz.prog 28 [J4 (nK tk)] [] (fun out A0=>A0=[]/\(out=.b true)):=by
 refine cF Tryz.func28 fun X0 w0 hX=>?_
 refine E2 ((17:Int)<1) (by decide) ?_;refine E2 (17<(17:Int)) (by decide) ?_;refine E2 ((0:Int)<0) (by decide) ?_;refine E2 ((0:Int)<0) (by decide) ?_;refine E2 ((0:Int)<0) (by decide) ?_;refine E2 (4096<(0:Int)) (by decide) ?_;refine cQ [] (Zq) ?_;refine kV (true) rfl ?_;refine E2 ((17:Int)=12) (by decide) ?_;refine E2 ((17:Int)=13) (by decide) ?_;refine E2 ((17:Int)=16) (by decide) ?_;refine cQ [] (a1b) ?_;refine GI (false) rfl ?_;refine O1 (([]:By)=[]) (by decide) ?_;exact xW hX (.b true) ⟨rfl,rfl,rfl⟩ (hv:=vT (u:=.b (decide ((17:Int)=17))) v0)
theorem a1c(s:StaR)(m:Int)(n:Nat)(tg:Nat->TenR)(hn:n=0)(hr:s.nr=0)(hk:s.root.length=32):SatHM Tryz.prog false 29 [.pr 2 0 []] [4,5,6] (iB s (nK (nI (T2 s.root))) m n tg) (fun out ho A0=>∃m2,out=A1 [.i .i64 0,.bl 0 []]/\ho=iB s (nK (nI (T2 s.root))) m2 n tg/\A0=[4,5,6]):=by
 refine fH false Tryz.func29 fun X0 w0 hX hm=>?_
 refine E2 (((nI (T2 s.root)).length:Int)=0) (by unfold nI;simp only[C6,G8];omega) ?_;refine cQ [] (Zk (T2 s.root) Bm) ?_;refine E2 ((0:Int)≠0) (by decide) ?_;refine cQ [] (Zm s.root (by assumption)) ?_;refine E2 ((0:Int)≠0) (by decide) ?_;refine S0 (CD s.nr s.gr 0 bd) ?_;rintro out A0 ⟨rfl,⟨K1,dP,rfl,oL,iS⟩⟩
 refine⟨rfl,?_⟩
 refine cb (dP) ?_ ?_<;>intro h1
 ·exact absurd (iS (by assumption)) zO
 refine cQ [] (Zo) ?_
 refine cQ [] (Bp (T2 s.root)) ?_;refine cQ [] (Zp) ?_;refine kV (true) rfl ?_;refine GH (([]:By)=[]) (by decide) ?_;refine S0 (NX n tg [] bd) ?_;rintro out A0 ⟨rfl,⟨bp1,rfl,hbp1⟩⟩
 refine⟨rfl,?_⟩
 refine cb (bp1) ?_ ?_<;>intro h2
 ·exact absurd (hbp1.ok (by assumption)).1 zO
 refine E2 ((17:Int)=10) (by decide) ?_
 refine E2 ((17:Int)=13) (by decide) ?_;refine E2 ((17:Int)=16) (by decide) ?_;refine O1 ((17:Int)=17) (by decide) ?_;refine cQ [] (E6 0) ?_;exact xW hX (A1 [.i .i64 0,.bl 0 []]) ⟨0,rfl,rfl,rfl⟩
theorem a1d(s:StaR)(m:Int)(n:Nat)(tg:Nat->TenR)(hn:n=0)(hr:s.nr=0)(hk:s.root.length=32):SatHM Tryz.prog false 29 [.pr 2 0 []] [4,5,6] (iB s (nK []) m n tg) (fun out ho A0=>∃m2,out=A1 [.i .i64 401,.bl 0 []]/\ho=iB s (nK []) m2 n tg/\A0=[4,5,6]):=by
 refine fH false Tryz.func29 fun X0 w0 hX hm=>?_
 refine O1 ((0:Int)=0) (by decide) ?_;refine cQ [] (E6 401) ?_;exact xW hX (A1 [.i .i64 401,.bl 0 []]) ⟨m,rfl,rfl,rfl⟩
theorem a1e(s:StaR)(tk:By)(m:Int)(n:Nat)(tg:Nat->TenR)(hh:s.head.length=32):SatHM Tryz.prog false 30 [.pr 2 0 []] [4,5,6] (iB s (nK tk) m n tg) (fun out ho A0=>∃b,out=A1 [.i .i64 200,.bl 0 b]/\ho=iB s (nK tk) m n tg/\A0=[4,5,6]/\b.length=32):=by
 refine fH false Tryz.func30 fun X0 w0 hX hm=>?_
 refine mM fV true ?_;refine E2 ((17:Int)=1) (by decide) ?_;refine E2 ((17:Int)=2) (by decide) ?_;refine E2 ((17:Int)=3) (by decide) ?_;refine E2 ((17:Int)=4) (by decide) ?_;refine E2 ((17:Int)=5) (by decide) ?_;refine E2 ((17:Int)=6) (by decide) ?_;refine E2 ((17:Int)=7) (by decide) ?_;refine E2 ((17:Int)=8) (by decide) ?_;refine E2 ((17:Int)=9) (by decide) ?_;refine E2 ((17:Int)=10) (by decide) ?_;refine E2 ((17:Int)=11) (by decide) ?_;refine E2 ((17:Int)=12) (by decide) ?_;refine E2 ((17:Int)=13) (by decide) ?_;refine E2 ((17:Int)=14) (by decide) ?_;refine E2 ((17:Int)=15) (by decide) ?_;refine E2 ((17:Int)=16) (by decide) ?_;refine kB (IQ ((s.head.drop 0).take 32) (by simp only[F7,K4];omega) bd) ?_;rintro out ho A0 ⟨rfl,rfl,rfl⟩
 refine⟨⟨rfl,CN trivial⟩,?_⟩
 refine gZ 2912 ?_;refine cQ [] (kZ ((s.head.drop 0).take 32)) ?_;exact xW hX (A1 [.i .i64 200,.bl 0 ((s.head.drop 0).take 32)]) ⟨_,rfl,rfl,rfl,by simp only[F7,K4];omega⟩
def aK(s:StaR)(e:Ent)(h:By):StaR:=⟨s.root,s.delay,s.serial,s.nr,s.gr,s.nl+1,J1 s.nl s.gl e,h⟩
theorem a1f(s:StaR)(n:Nat)(tg:Nat->TenR)(hn:n=0)(hnr:s.nr=0)(hl:s.nl<=10)(hg:∀i,i<s.nl->(s.gl i).tenant.length<=100):SatM Tryz.prog false 13 [I9 (.sl 0 38 n fun i=>B4 (tg i)) s,J4 (nK (nI (T2 s.root)))] [] (fun out ho A0=>∃(b:By) (e:Ent) (h:By),out=A2 [zD 16 (aK s e h),A1 [.i .i64 200,.bl 0 b]]/\ho=zF 16 (rT n tg) (aK s e h)/\A0=[]/\b.length=32/\e.seq=s.nl/\e.tenant.length<=100):=by
 refine fM false Tryz.func13 fun X0 w0 hX hm=>?_
 refine rS 0 fun hv=>?_
 have hk:s.root.length=32:=hv 0 (show 0<7 by decide)
 have hh:s.head.length=32:=hv 6 (show 6<7 by decide)
 have hB:StB s n tg:=⟨zO,zO,zO,fun i hi=>absurd hi zO,fun i hi=>absurd hi zO⟩
 refine kO [] (Bw s n tg hn hB) ?_;rintro out ho A0 ⟨rfl,rfl,rfl⟩
 refine cB (4096<=(s.nl:Int)) ?_ ?_<;>intro h1
 ·exact absurd h1 zO
 refine cQ [] (Bx (nI (T2 s.root))) ?_
 refine kV (true) rfl ?_;refine kH [(1232,2),(400,3),(352,4),(353,5),(354,6)] [1232,400,352,353,354] (a1c s 0 n tg hn hnr hk) ?_;rintro out ho A0 ⟨m0,rfl,rfl,rfl⟩
 refine O1 ((0:Int)=0) (by decide) ?_;refine kH [(1232,2),(400,3),(352,4),(353,5),(354,6)] [1232,400,352,353,354] (a1e s (nI (T2 s.root)) m0 n tg hh) ?_;rintro out ho A0 ⟨b1,rfl,rfl,rfl,P8⟩
 refine cK [] (qH s.head ⟨(s.nl:Int),0,m0,[],17,200,(replicate 32 0)⟩ bd) ?_;rintro out A0 ⟨rfl,⟨wR,le2,rfl⟩⟩
 refine cC ((s.nl+1)*88<=140737488355328) ?_;refine jA 2 8656 (fun(u:Unit)=>[(4,.pr 144 0 []),(5,.pr 208 0 [])]) (fun(u:Unit)=>[(144,A1 [.bs 32 s.root,.i .i64 s.delay,.i .u64 s.serial,.os 352 38,.os 353 1,.os 4112 38,.bs 32 wR]),(352,rT n tg),(353,rR s),(4112,.ar 38 (s.nl+1) fun i=>bif blt i s.nl then H8 (s.gl i) else A1 [.i .i64 (s.nl:Int),.i .i64 0,.i .u64 m0,.s [],.i .i64 17,.i .i64 200,.bs 32 (replicate 32 0)]),(208,A1 [.i .i64 200,.bl 0 b1])]) (fun(u:Unit)=>True) [352,353,4112] (fun R hR i hi=>?_) ?_
 ·match i,hi with
 |0,_|1,_=>
   exact cA hX (hR () zT)
 rintro u hJ
 exact xW hX (A2 [A1 [.bs 32 s.root,.i .i64 s.delay,.i .u64 s.serial,.os 16 38,.os 17 1,.os 18 38,.bs 32 wR],A1 [.i .i64 200,.bl 0 b1]]) ⟨b1,⟨(s.nl:Int),0,m0,[],17,200,(replicate 32 0)⟩,wR,rfl,rfl,rfl,by assumption,rfl,by simp⟩ (hH:=⟨v0,v0,(vT (u:=.ar 38 (s.nl+1) fun i=>bif blt i s.nl then H8 (s.gl i) else A1 [.i .i64 (s.nl:Int),.i .i64 0,.i .u64 m0,.s [],.i .i64 17,.i .i64 200,.bs 32 (replicate 32 0)]) ((jS (e:=H8)))),zT⟩)
theorem a1g(s:StaR)(n:Nat)(tg:Nat->TenR)(hn:n=0)(hnr:s.nr=0)(hl:s.nl<=10)(hg:∀i,i<s.nl->(s.gl i).tenant.length<=100):SatM Tryz.prog false 13 [I9 (.sl 0 38 n fun i=>B4 (tg i)) s,J4 (nK [])] [] (fun out ho A0=>∃(b:By) (e:Ent) (h:By),out=A2 [zD 16 (aK s e h),A1 [.i .i64 401,.bl 0 b]]/\ho=zF 16 (rT n tg) (aK s e h)/\A0=[]/\b=[]/\e.seq=s.nl/\e.tenant.length<=100):=by
 refine fM false Tryz.func13 fun X0 w0 hX hm=>?_
 refine rS 0 fun hv=>?_
 have hk:s.root.length=32:=hv 0 (show 0<7 by decide)
 have hh:s.head.length=32:=hv 6 (show 6<7 by decide)
 have hB:StB s n tg:=⟨zO,zO,zO,fun i hi=>absurd hi zO,fun i hi=>absurd hi zO⟩
 refine kO [] (Bw s n tg hn hB) ?_;rintro out ho A0 ⟨rfl,rfl,rfl⟩
 refine cB (4096<=(s.nl:Int)) ?_ ?_<;>intro h1
 ·exact absurd h1 zO
 refine cQ [] (Bx []) ?_
 refine kV (true) rfl ?_;refine kH [(1232,2),(400,3),(352,4),(353,5),(354,6)] [1232,400,352,353,354] (a1d s 0 n tg hn hnr hk) ?_;rintro out ho A0 ⟨m0,rfl,rfl,rfl⟩
 refine E2 ((401:Int)=0) (by decide) ?_;refine cK [] (qH s.head ⟨(s.nl:Int),0,m0,[],17,401,(replicate 32 0)⟩ bd) ?_;rintro out A0 ⟨rfl,⟨lm1,le1,rfl⟩⟩
 refine cC ((s.nl+1)*88<=140737488355328) ?_;refine jA 2 8464 (fun(u:Unit)=>[(4,.pr 144 0 []),(5,.pr 208 0 [])]) (fun(u:Unit)=>[(144,A1 [.bs 32 s.root,.i .i64 s.delay,.i .u64 s.serial,.os 352 38,.os 353 1,.os 3920 38,.bs 32 lm1]),(352,rT n tg),(353,rR s),(3920,.ar 38 (s.nl+1) fun i=>bif blt i s.nl then H8 (s.gl i) else A1 [.i .i64 (s.nl:Int),.i .i64 0,.i .u64 m0,.s [],.i .i64 17,.i .i64 401,.bs 32 (replicate 32 0)]),(208,A1 [.i .i64 401,.bl 0 []])]) (fun(u:Unit)=>True) [352,353,3920] (fun R hR i hi=>?_) ?_
 ·match i,hi with
 |0,_|1,_=>
   exact cA hX (hR () zT)
 rintro u hJ
 exact xW hX (A2 [A1 [.bs 32 s.root,.i .i64 s.delay,.i .u64 s.serial,.os 16 38,.os 17 1,.os 18 38,.bs 32 lm1],A1 [.i .i64 401,.bl 0 []]]) ⟨[],⟨(s.nl:Int),0,m0,[],17,401,(replicate 32 0)⟩,lm1,rfl,rfl,rfl,rfl,rfl,by simp⟩ (hH:=⟨v0,v0,(vT (u:=.ar 38 (s.nl+1) fun i=>bif blt i s.nl then H8 (s.gl i) else A1 [.i .i64 (s.nl:Int),.i .i64 0,.i .u64 m0,.s [],.i .i64 17,.i .i64 401,.bs 32 (replicate 32 0)]) ((jS (e:=H8)))),zT⟩)
def UseAt(n:Nat)(tg:Nat->TenR)(x:By)(u q:Int):Prop:=(∃j,j<n/\(tg j).name=x/\u=(useN (tg j):Int)/\q=(tg j).quota)\/((∀j,j<n->(tg j).name≠x)/\u=0/\q=0)
theorem Bz{o:OpT}{c:Int}{n n2:Nat}{tg tg2:Nat->TenR}{x:By}{u q u2 q2:Int}(hc:ChP o c n n2 tg tg2)(ha2:AscK TenR.name n2 tg2)(hb:∀i,i<n2->TB (tg2 i))(h1:UseAt n tg x u q)(h2:UseAt n2 tg2 x u2 q2):
  u2<=q2/\(¬ (o.do=15/\x=o.tenant)->u2=u+if x=o.tenant/\(o.do=1\/o.do=3)/\c=201 then (o.body.length:Int) else 0)/\(o.do=15/\x=o.tenant->u2<=u):=by
 have hq:u2<=q2:=by
  rcases h2 with⟨j,hj,_,rfl,rfl⟩|⟨_,rfl,rfl⟩
  ·exact(hb j hj).us
  exact Int.le_refl _
 refine⟨hq,?_⟩
 rcases h1 with⟨j,hj,hx,rfl,_⟩|⟨hx,rfl,_⟩
 ·obtain⟨m,hm,hn,hd⟩:=hc.fw j hj
  obtain rfl:u2=(useN (tg2 m):Int):=by
   rcases h2 with⟨k,hk,hkx,rfl,_⟩|⟨bV,_⟩
   ·rw[ha2.inj hk hm (by rw[hkx,hn,hx])]
   exact absurd (hn.trans hx) (bV m hm)
  subst hx
  refine⟨fun h=>?_,fun h=>Int.ofNat_le.2 (hd.1 h)⟩
  rw[hd.2 h]
  by_cases e:(tg j).name=o.tenant/\(o.do=1\/o.do=3)/\c=201
  ·rw[if_pos e,if_pos e];omega
  rw[if_neg e,if_neg e];omega
 have h0:u2=0:=by
  rcases h2 with⟨k,hk,hkx,rfl,_⟩|⟨_,rfl,_⟩
  ·rcases hc.bk k hk with⟨z,hz,hzx⟩|hz
   ·exact absurd (hzx.symm.trans hkx) (hx z hz)
   rw[hz];rfl
  rfl
 refine⟨fun _=>?_,fun _=>by omega⟩
 rw[if_neg fun e=>by
  obtain⟨k,hk,hkx⟩:=hc.pr e.2.1 e.2.2
  exact hx k hk (hkx.trans e.1.symm)]
 omega
theorem a1h{t:TenR}(h:TB t):useN t<=20000000000:=by
 have h1:=CF (n:=t.nb) (by have:=h.nb;omega) h.db (B2 _)
 have h2:=OC (n:=t.ns) (by have:=h.ns;omega) h.mm (B2 _)
 show Q3 t.gb t.nb+X6 t.gs t.ns<=_
 omega
theorem UseAt.rng{n:Nat}{tg:Nat->TenR}{x:By}{u q:Int}(h:UseAt n tg x u q)(hb:∀i,i<n->TB (tg i)):0<=u/\u<=20000000000:=by
 rcases h with⟨j,hj,_,rfl,_⟩|⟨_,rfl,_⟩
 ·have:=a1h (hb j hj);omega
 omega
theorem Ca{o:OpT}{x:By}{c u u2 q2 v:Int}{p:Bool}(h:u2<=q2/\(¬ (o.do=15/\x=o.tenant)->u2=u+if x=o.tenant/\(o.do=1\/o.do=3)/\c=201 then (o.body.length:Int) else 0)/\(o.do=15/\x=o.tenant->u2<=u))(h0:0<=u/\u<=20000000000)(h1:0<=u2/\u2<=20000000000)
  (hp:p=true↔(o.do=1\/o.do=3)/\c=201/\o.tenant=x)(hv:v=if p=true then (o.body.length:Int) else 0):u2<=q2/\(¬ (o.do=15/\o.tenant=x)->u2=i64.wrap (u+v))/\(o.do=15/\o.tenant=x->u2<=u):=by
 refine⟨h.1,fun h2=>?_,fun h2=>h.2.2 ⟨h2.1,h2.2.symm⟩⟩
 have h3:=h.2.1 fun e=>h2 ⟨e.1,e.2.symm⟩
 have e:v=if x=o.tenant/\(o.do=1\/o.do=3)/\c=201 then (o.body.length:Int) else 0:=by
  rw[hv]
  by_cases hq:p=true
  ·obtain⟨a,b,d⟩:=hp.1 hq
   rw[if_pos hq,if_pos ⟨d.symm,a,b⟩]
  rw[if_neg hq,if_neg fun e=>hq (hp.2 ⟨e.2.1,e.2.2,e.1.symm⟩)]
 rw[<-e]at h3
 rw[I8 ⟨zO,zO⟩];exact h3
theorem a1i(t:TenR)(hB:TB t):Sat Tryz.prog 20 [B4 t] [] (fun out A0=>A0=[]/\(out=.i .i64 (useN t:Int))):=by
 refine cF Tryz.func20 fun X0 w0 hX=>?_
 have wK:t.nb<=100000:=J2 hB.nb (by decide)
 have hB2:t.ns<=100000:=J2 hB.ns (by decide)
 have hs:=hB.ls
 have hM:=hB.mm
 have Z6:=hB.db
 refine cM hX (fun(k:Nat)=>[(1,.pr 16 0 []),(3,.i .i64 (Q3 t.gb k:Int)),(4,.i .i64 (k:Int))]) (fun(k:Nat)=>[(16,B4 t)]) (fun(k:Nat)=>k<=t.nb) (fun(k:Nat)=>t.nb-k) [] 272 0 (by simp) ?_;rintro k hI R hR
 refine cB ((k:Int)<(t.nb:Int)) ?_ ?_<;>intro h1
 ·have hk:=Z6 k zO
  have hu:=CF wK Z6 (show k<=t.nb by omega)
  refine cC ((0:Int)<=(k:Int)/\(k:Int)<(t.nb:Int)) ?_;exact cA hX (hR (k+1) bd zO) (hS:=⟨v0,(vW (a:=(Q3 t.gb k:Int)+((t.gb k).data.length:Int)) ⟨zO,zO,by rw[YN];omega⟩),(vS bd),zT⟩)
 refine cM hX (fun(k:Nat)=>[(1,.pr 16 0 []),(3,.i .i64 ((Q3 t.gb t.nb+X6 t.gs k:Nat):Int)),(5,.i .i64 (k:Int))]) (fun(k:Nat)=>[(16,B4 t)]) (fun(k:Nat)=>k<=t.ns) (fun(k:Nat)=>t.ns-k) [] 656 0 (by simp) ?_ (hS:=⟨v0,(vT (u:=.i .i64 (Q3 t.gb k:Int)) (.of_eq (by rw[show k=t.nb by omega];rfl))),v0,zT⟩)
 rintro k hI R hR
 refine cB ((k:Int)<(t.ns:Int)) ?_ ?_<;>intro h2
 ·have hk:=hs k zO
  have hu:=CF wK Z6 (B2 _)
  have hv:=OC hB2 hM (show k<=t.ns by omega)
  refine cC ((0:Int)<=(k:Int)/\(k:Int)<(t.ns:Int)) ?_;refine cK [] (Bt ((t.gs k).mani) bd) ?_;rintro out A0 ⟨sb0,se0,rfl,rfl,hsb0⟩
  exact cA hX (hR (k+1) bd zO) (hS:=⟨v0,(vW (a:=((Q3 t.gb t.nb+X6 t.gs k:Nat):Int)+(sb0.length:Int)) ⟨zO,zO,by rw[CE];have:=hsb0.2 (hM k zO);omega⟩),(vS bd),zT⟩)
 exact xW hX (.i .i64 ((Q3 t.gb t.nb+X6 t.gs k:Nat):Int)) ⟨rfl,rfl,by rw[show k=t.ns by omega];rfl⟩
theorem Cb(s:StaR)(n:Nat)(tg:Nat->TenR)(hS:SOk s n tg)(x:By):Sat Tryz.prog 8 [I9 (.sl 0 38 n fun i=>B4 (tg i)) s,.s x] [] (fun out A0=>A0=[]/\(∃u q,out=A2 [.i .i64 u,.i .i64 q]/\UseAt n tg x u q)):=by
 refine cF Tryz.func8 fun X0 w0 hX=>?_
 refine cK [] (Bu s n tg x hS.hn) ?_;rintro out A0 ⟨rfl,⟨ti,rfl,hti,mC,lS⟩⟩
 refine cB (ti<0) ?_ ?_<;>intro h1
 ·exact xW hX (A2 [.i .i64 0,.i .i64 0]) ⟨rfl,rfl,⟨_,_,rfl,by first|exact .inr ⟨mC zO,rfl,rfl⟩|exact .inl ⟨ti.toNat,zO,lS zO,rfl,rfl⟩⟩⟩
 refine cC ((0:Int)<=ti/\ti<(n:Int)) ?_
 refine cC ((0:Int)<=ti/\ti<(n:Int)) ?_;refine cQ [] (a1i (tg ((ti).toNat)) (hS.hb _ zO)) ?_;exact xW hX (A2 [.i .i64 (useN (tg ((ti).toNat)):Int),.i .i64 ((tg ((ti).toNat)).quota)]) ⟨rfl,rfl,⟨_,_,rfl,by first|exact .inr ⟨mC zO,rfl,rfl⟩|exact .inl ⟨ti.toNat,zO,lS zO,rfl,rfl⟩⟩⟩
def CW{α:Type}(n:Nat)(f g:Nat->α):Nat->α:=fun i=>bif blt i n then f i else g (i-n)
theorem a1j{t z n:Nat}{e:α->V}{f g:Nat->α}:VEq (.sl t z (n+m) fun i=>bif blt i n then e (f i) else e (g (i-n))) (.sl t z (n+m) fun i=>e (CW n f g i)):=.sl _ _ _ _ _ fun i _=>by
 unfold CW
 cases blt i n<;>rfl
theorem a1k:∀i,i<9->(bL i).data.length<=4096:=fun i hi=>match i,hi with|0,_=>by decide|1,_=>by decide|2,_=>by decide|3,_=>by decide|4,_=>by decide|5,_=>by decide|6,_=>by decide|7,_=>by decide|8,_=>by decide
theorem a1l{n:Nat}{g:Nat->ActT}(h:∀i,i<n->(g i).data.length<=4096):∀i,i<9+n->(CW 9 bL g i).data.length<=4096:=fun i hi=>by
 unfold CW
 by_cases h9:i<9
 ·rw[HM h9];exact a1k i h9
 rw[jR h9];exact h _ zO
theorem a1m(hB:SatM Tryz.prog false 4 [] [] (fun out ho A0=>out=.b true/\ho=[]/\A0=[]))(d:Int)(n:Nat)(g:Nat->ActT)(hn:n<=9223372036854775807):SatM Tryz.prog true 3 [.i .i64 d,.sl 0 6 n fun i=>N0 (g i)] [] (fun out ho A0=>out=.b true/\ho=[]/\A0=[]):=by
 refine fM true Tryz.func3 fun X0 w0 hX hm=>?_
 refine kO [] (hB) ?_;rintro out ho A0 ⟨rfl,rfl,rfl⟩
 refine kV (true) rfl ?_;refine cK [] (a0o n g 40 bd) ?_;rintro out A0 ⟨rfl,⟨pL,rfl,hL⟩⟩
 refine cn (pL) ?_ ?_<;>intro h1
 ·exact xW hX (.b true) ⟨rfl,rfl,rfl⟩
 have hL2:=hL (by assumption)
 have hgA:=a1l hL2.2
 refine cQ [] (a0v) ?_;refine cC ((9+n)*64<=140737488355328) ?_;refine kM (fun _=>hm rfl) [] (qD (ins':=[.i .i64 d,.sl 0 6 (9+n) fun i=>bif blt i 9 then N0 (bL i) else N0 (g (i-9))]) (a1a d (9+n) (CW 9 bL g) zO hgA) ⟨.rfl _,a1j (e:=N0),zT⟩) ?_;rintro out ho A0 ⟨m,gs,go,ga,rfl,rfl,rfl,l7,hQ⟩
 refine cM hX (fun(a0:Nat)=>[(5,.pr 720 0 []),(6,.i .i64 (a0:Int))]) (fun(a0:Nat)=>[(720,A1 [.sl 0 69 (m+1) fun i=>cZ (gs i),.sl 0 72 m fun i=>J4 (go i),.sl 0 2 m fun i=>bN (ga i),.uk 1])]) (fun(a0:Nat)=>a0<=m) (fun(a0:Nat)=>m-a0) [] 912 0 zO ?_;rintro a0 hI R hR
 refine cB ((a0:Int)<(m:Int)) ?_ ?_<;>intro h2
 ·have hw:(i64.wrap ((a0:Int)+1)).toNat=a0+1:=by rw[I8 ⟨zO,zO⟩];omega
  have hq:StpQ (go a0) (gs a0) (gs (i64.wrap ((a0:Int)+1)).toNat) (ga a0):=by rw[hw];exact hQ a0 zO
  have hS:=hq.ok
  have wW:=hq.p.ok hq.ok
  refine cM hX (fun(k:Nat)=>[(5,.pr 720 0 []),(6,.i .i64 (a0:Int)),(7,.i .i64 (k:Int))]) (fun(k:Nat)=>[(720,A1 [.sl 0 69 (m+1) fun i=>cZ (gs i),.sl 0 72 m fun i=>J4 (go i),.sl 0 2 m fun i=>bN (ga i),.uk 1])]) (fun(k:Nat)=>k<=4) (fun(k:Nat)=>4-k) [] 1296 0 (by simp) ?_;rintro k hI R1 eP
  refine cB ((k:Int)<4) ?_ ?_<;>intro h3
  ·refine cC ((0:Int)<=(a0:Int)/\(a0:Int)<((m+1):Int)) ?_
   refine cQ [] (PF (k:Int) zO) ?_;refine cK [] (Cb (gs a0).s (gs a0).n (gs a0).tg hS (qK (k:Int))) ?_;rintro out A0 ⟨rfl,⟨us0,qs0,rfl,hus0⟩⟩
   refine cC ((0:Int)<=(i64.wrap ((a0:Int)+1))/\(i64.wrap ((a0:Int)+1))<((m+1):Int)) ?_ bw;refine cQ [] (PF (k:Int) zO) ?_;refine cK [] (Cb (gs (((i64.wrap ((a0:Int)+1))).toNat)).s (gs (((i64.wrap ((a0:Int)+1))).toNat)).n (gs (((i64.wrap ((a0:Int)+1))).toNat)).tg wW (qK (k:Int))) ?_;rintro out A0 ⟨rfl,⟨wX,qs1,rfl,hus1⟩⟩
   refine cC ((0:Int)<=(a0:Int)/\(a0:Int)<(m:Int)) ?_;refine cQ [] (PF (k:Int) zO) ?_;refine jB ((go a0).tenant=(qK (k:Int))) 7952 (fun(q:Bool)=>[(5,.pr 720 0 []),(6,.i .i64 (a0:Int)),(7,.i .i64 (k:Int)),(8,.i .i64 us0),(10,.i .i64 wX),(11,.i .i64 qs1),(12,.b (decide ((go a0).tenant=(qK (k:Int))))),(13,.i .i64 0),(95,.b q)]) (fun(q:Bool)=>[(720,A1 [.sl 0 69 (m+1) fun i=>cZ (gs i),.sl 0 72 m fun i=>J4 (go i),.sl 0 2 m fun i=>bN (ga i),.uk 1])]) (fun(q:Bool)=>q=true↔((go a0).do=1\/(go a0).do=3)/\(ga a0).c=201/\(go a0).tenant=qK (k:Int)) [] (fun R hR=>⟨fun h4=>?_,fun h4=>?_⟩) ?_
   ·refine cC ((0:Int)<=(a0:Int)/\(a0:Int)<(m:Int)) ?_
    refine cB ((go a0).do=1) ?_ ?_<;>intro h5
    ·refine cC ((0:Int)<=(a0:Int)/\(a0:Int)<(m:Int)) ?_
     exact cA hX (hR (decide ((ga a0).c=201)) (by simp[*]))
    refine cC ((0:Int)<=(a0:Int)/\(a0:Int)<(m:Int)) ?_
    refine cB ((go a0).do=3) ?_ ?_<;>intro h6
    ·refine cC ((0:Int)<=(a0:Int)/\(a0:Int)<(m:Int)) ?_
     exact cA hX (hR (decide ((ga a0).c=201)) (by simp[*]))
    exact cA hX (hR false (by simp[*])) (hS:=⟨v0,v0,v0,v0,v0,v0,v0,v0,(vT (.bc false)),zT⟩)
   ·exact cA hX (hR false (by simp[*])) (hS:=⟨v0,v0,v0,v0,v0,v0,v0,v0,(vT (.bc false)),zT⟩)
   rintro q hJq
   refine jb (q) 12048 (fun(v:Int)=>[(5,.pr 720 0 []),(6,.i .i64 (a0:Int)),(7,.i .i64 (k:Int)),(8,.i .i64 us0),(10,.i .i64 wX),(11,.i .i64 qs1),(12,.b (decide ((go a0).tenant=(qK (k:Int))))),(13,.i .i64 v)]) (fun(v:Int)=>[(720,A1 [.sl 0 69 (m+1) fun i=>cZ (gs i),.sl 0 72 m fun i=>J4 (go i),.sl 0 2 m fun i=>bN (ga i),.uk 1])]) (fun(v:Int)=>v=if q=true then ((go a0).body.length:Int) else 0) [] (fun R hR=>⟨fun h7=>?_,fun h7=>?_⟩) ?_
   ·refine cC ((0:Int)<=(a0:Int)/\(a0:Int)<(m:Int)) ?_
    exact cA hX (hR (((go a0).body).length:Int) (by simp[*]))
   ·exact cA hX (hR 0 (by simp[*]))
   rintro v hJv
   refine cB ((go a0).tenant=(qK (k:Int))) ?_ ?_<;>intro h8
   ·have hf:=Ca (Bz (hq.p.ch hS.asc) wW.asc wW.hb hus0 hus1) (hus0.rng hS.hb) (hus1.rng wW.hb) hJq hJv
    refine cC ((0:Int)<=(a0:Int)/\(a0:Int)<(m:Int)) ?_;refine cB (qs1<wX) ?_ ?_<;>intro h9
    ·exact absurd hf.1 zO
    refine cN ((go a0).do=15) ?_ ?_<;>intro K0
    ·refine cB (wX≠(i64.wrap (us0+v))) ?_ ?_<;>intro P9
     ·exact absurd (hf.2.1 (by rintro⟨_,_⟩;contradiction)) (by assumption)
     refine E2 ((go a0).do=15) K0 ?_
     exact cA hX (eP (k+1) bd zO) (hS:=⟨v0,v0,(vS bd),zT⟩)
    refine O1 ((go a0).do=15) K0 ?_
    refine cB (us0<wX) ?_ ?_<;>intro h12
    ·exact absurd (hf.2.2 ⟨by assumption,by assumption⟩) zO
    exact cA hX (eP (k+1) bd zO) (hS:=⟨v0,v0,(vS bd),zT⟩)
   have hf:=Ca (Bz (hq.p.ch hS.asc) wW.asc wW.hb hus0 hus1) (hus0.rng hS.hb) (hus1.rng wW.hb) hJq hJv
   refine cB (qs1<wX) ?_ ?_<;>intro w6
   ·exact absurd hf.1 zO
   refine cB (wX≠(i64.wrap (us0+v))) ?_ ?_<;>intro dM
   ·exact absurd (hf.2.1 (by rintro⟨_,_⟩;contradiction)) (by assumption)
   exact cA hX (eP (k+1) bd zO) (hS:=⟨v0,v0,(vS bd),zT⟩)
  exact cA hX (hR (a0+1) zO zO) (hS:=⟨v0,(vS bd),zT⟩)
 exact xW hX (.b true) ⟨rfl,rfl,rfl⟩
def iC(r:By):StaR:=⟨r,5,0,0,fun _=>0,0,fun _=>default,replicate 32 0⟩
def r3:By:=(replicate 32 0).set 0 3
theorem IY{s:StaR}{e:Ent}{h:By}(hg:∀i,i<s.nl->(s.gl i).tenant.length<=100)(he:e.tenant.length<=100):∀i,i<(aK s e h).nl->((aK s e h).gl i).tenant.length<=100:=fun i hi=>nH (p:=fun x:Ent=>x.tenant.length<=100) hg he i hi
theorem gl2{s:StaR}{e:Ent}{h:By}{n:Nat}(hn:s.nl=n)(hs:e.seq=s.nl):((aK s e h).gl n).seq=(n:Int):=by
 subst hn
 show(J1 s.nl s.gl e s.nl).seq=_
 rw[CV,hs]
theorem a1o(r:By):Sat Tryz.prog 10 [.bs 32 r,.i .i64 5] [] (fun out A0=>A0=[]/\(out=I9 (.sl 0 38 0 fun i=>B4 ((fun _=>default) i)) (iC r))):=by
 refine cF Tryz.func10 fun X0 w0 hX=>?_
 exact xW hX (I9 (.sl 0 38 0 fun i=>B4 ((fun _=>default) i)) (iC r)) ⟨rfl,rfl,rfl⟩ (hv:=vT (u:=A1 [.bs 32 r,.i .i64 (if 5<0 then 0 else 5),.i .u64 0,.sl 0 38 0 fun _=>.un,.sl 0 1 0 fun _=>.un,.sl 0 38 0 fun _=>.un,.bs 32 (replicate 32 0)]) (C4 ⟨v0,v0,v0,vN,vN,vN,v0,zT⟩))
theorem a1p  :SatM Tryz.prog false 4 [] [] (fun out ho A0=>out=.b true/\ho=[]/\A0=[]):=by
 refine fM false Tryz.func4 fun X0 w0 hX hm=>?_
 refine cQ [] (a1o r3) ?_;refine cQ [] (Yw r3 rfl) ?_;refine cK [] (Zb (T2 r3) Bm) ?_;rintro out A0 ⟨rfl,rfl⟩
 refine kO [] (qD (ins':=[I9 (.sl 0 38 0 fun i=>B4 ((fun _=>default) i)) (iC r3),A1 [.i .i64 17,.s [],.bs 32 (replicate 32 0),.i .i64 0,.i .i64 0,.i .u8 0,.bl 1 [],.bl 0 (nI (T2 r3)),.i .i64 0,.bs 32 (replicate 32 0)]]) (a1f (iC r3) 0 (fun _=>default) rfl rfl (L8 _) (fun i hi=>absurd hi (S4 i))) ⟨.rfl _,(C4 ⟨.rfl _,.rfl _,.rfl _,.rfl _,.rfl _,.rfl _,.fb _,.rfl _,.rfl _,.rfl _,zT⟩),zT⟩) ?_;rintro out ho A0 ⟨b0,e0,h0,rfl,rfl,rfl,T4,hs0,n9⟩
 have hg1:=IY (s:=iC r3) (h:=h0) (fun i hi=>absurd hi (S4 i)) n9
 have dO:(aK (iC r3) e0 h0).nl<=10:=by show 0+1<=10;decide
 refine gZ 1056 ?_;refine gZ 1057 ?_;refine gZ 1058 ?_;refine kO [] (qD (ins':=[I9 (.sl 0 38 0 fun i=>B4 ((fun _=>default) i)) (aK (iC r3) e0 h0),A1 [.i .i64 17,.s [],.bs 32 (replicate 32 0),.i .i64 0,.i .i64 0,.i .u8 0,.bl 1 [],.bl 1 [],.i .i64 0,.bs 32 (replicate 32 0)]]) (a1g (aK (iC r3) e0 h0) 0 (fun _=>default) rfl rfl dO hg1) ⟨.rfl _,(C4 ⟨.rfl _,.rfl _,.rfl _,.rfl _,.rfl _,.rfl _,.fb _,.fb _,.rfl _,.rfl _,zT⟩),zT⟩) ?_;rintro out ho A0 ⟨b1,e1,h1,rfl,rfl,rfl,P8,lW,mC⟩
 refine gZ 1696 ?_;refine gZ 1697 ?_;refine gZ 1698 ?_;refine O1 ((200:Int)=200) (by decide) ?_;refine O1 ((b0.length:Int)=32) zO ?_;refine O1 (((aK (iC r3) e0 h0).nl:Int)=1) rfl ?_;refine O1 ((401:Int)=401) (by decide) ?_;refine O1 (((aK (aK (iC r3) e0 h0) e1 h1).nl:Int)=2) rfl ?_;refine cC ((0:Int)<=1/\1<((aK (aK (iC r3) e0 h0) e1 h1).nl:Int)) ?_ (hp:=by show(0:Int)<=1/\(1:Int)<((2:Nat):Int);decide);exact xW hX (.b (decide (((aK (aK (iC r3) e0 h0) e1 h1).gl 1).seq=1))) ⟨by rw[gl2 (n:=1) rfl lW];rfl,rfl,rfl⟩
section
open Go Go.ChangeShapes Go.WideShapes Go.ChangeAt Go.RowKit Go.Deep Go.ChangeMaps
def aL(W:World):Cx:=⟨fun b i=>match W.cell? (ad b i) with|some x=>bif x.oneCell' then .fz x else .no|none=>.no,fun _ _=>none,fun _ _ _=>True,0,W.heap.size,true⟩
theorem Cc{W:World}{b:Nat}(h:W.cell? (ad b i)=some x)(h1:x.oneCell'=true):(aL W).G b i=.fz x:=by
 show(match W.cell? (ad b i) with|some x=>bif x.oneCell' then Ow.fz x else .no|none=>.no)=_
 rw[h];simp only[h1,cond_true]
theorem uX{W:World}{b:Nat}{o:Ow}(h:(aL W).G b i=o)(hn:o≠ .no):∃x,W.cell? (ad b i)=some x/\x.oneCell'=true/\o=.fz x:=by
 have h:(match W.cell? (ad b i) with|some x=>bif x.oneCell' then Ow.fz x else .no|none=>.no)=o:=h
 cases hc:W.cell? (ad b i) with
|none=>rw[hc]at h;exact absurd h.symm hn
|some x=>
  rw[hc]at h
  cases h1:x.oneCell' with
 |false=>simp only[h1,cond_false]at h;exact absurd h.symm hn
 |true=>simp only[h1,cond_true]at h;exact⟨x,rfl,h1,h.symm⟩
theorem Cd{W:World}{b:Nat}(h:W.cell? (ad b i)=some x):b<W.heap.size:=by
 unfold World.cell? at h
 cases e:W.heap[b]? with
|none=>simp[e]at h
|some o=>exact(Z4.1 e).1
theorem a1q{W:World}(hT:Lib.TabIs Tryz.prog W "internal/strconv.uint64pow10" .u64 Lib.pow10Tab):∀g,LC g->FzAt (aL W).G g 0 fD/\∃C T fr,W.heap[g]? =some (.cells C T fr)/\C.size=fD.length:=fun g hg=>by
 have hg:Tryz.prog.globalNamed "internal/strconv.uint64pow10" =some g:=hg
 unfold Lib.TabIs World.var? at hT
 rw[hg,DA]at hT
 cases e:W.heap[g]? with
|none=>rw[e]at hT;cases hT
|some o=>
  rw[e]at hT
  cases o with
 |cells C T fr=>
   have hC:C=fD.toArray:=qR hT
   subst hC
   refine⟨fun k x hk=>Cc ?_ ?_,_,_,_,rfl,by simp⟩
   ·simp only[World.cell?, e,J5,Option.isSome_none,zM,if_false,fQ]
    exact hk
   unfold fD at hk
   rw[Y6]at hk
   obtain⟨z,_,rfl⟩:=eL.1 hk
   rfl
 |_=>cases hT
theorem a1r(W:World)(hT:Lib.TabIs Tryz.prog W "internal/strconv.uint64pow10" .u64 Lib.pow10Tab):Wd (aL W) (aL W) h0 [] 16 W W where
 kb:=zS W _
 tape:=rfl
 fz0:=fun _ _ _ h=>h
 no0:=fun _ _ _ h=>.inl h
 mp0:=fun _ _ _ h=>h
 ρ0:=fun _ _ _ h=>h
 ex:=fun b i h=>by obtain⟨x,h1,_⟩:=uX rfl h;exact Cd h1
 fz:=fun b i x h=>by obtain⟨y,h1,h2,h3⟩:=uX h (by simp);cases h3;exact .cell h1 h2
 tp:=fun b i t h=>by obtain⟨y,_,_,h3⟩:=uX h (by simp);cases h3
 rt:=fun _ _ _ _ _ h=>(by cases h)
 c2:=by omega
 lvc:=fun _ h=>(by cases h)
 ρc:=fun _ _ _ h=>(by cases h)
 inv:=trivial
 imo:=fun _ _ _ _ _ _ _ h=>h
 κc:=L8 _
 νe:=rfl
 we:=rfl
 gz:=a1q hT
 ν0:=B2 _
 νs:=B2 _
 nf:=fun b hb ⟨i,hi⟩=>by
  obtain⟨x,h1,_⟩:=uX rfl hi
  have:=Cd h1
  have:W.heap.size<=b:=hb
  omega
theorem a1s{f:FuncId}{args:List Value}{W:World}{ins:List V}(hs:SatM Tryz.prog true f ins [] (fun out ho A0=>out=.b true/\ho=[]/\A0=[]))(hT:Lib.TabIs Tryz.prog W "internal/strconv.uint64pow10" .u64 Lib.pow10Tab)(hl:args.length=ins.length)
  (ha:∀(i:Nat) v x,ins[i]? =some v->args[i]? =some x->repv (aL W) [] 16 v x):Ret Tryz.prog f args W fun v w'=>v=.bool true/\Hp W w' [] []:=
 (hs (aL W) W args hl ha ⟨fun _ _=>rfl,rfl,fun _ _ _ _=>trivial⟩ (a1r W hT) fun _=>rfl).mono fun v w' ⟨X',ho,A0,out,⟨h1,_,_⟩,h2,H⟩=>by
  subst h1
  refine⟨pP h2,H.kb.1,H.tape,H.kb.2.1,H.νs,fun b hb _=>Ar H.kb (fun b i h=>?_) (fun b h=>?_) b hb,by simp,by simp,.nil⟩
  ·rcases h with⟨r,j,k,h⟩|⟨t,h⟩
   ·obtain⟨_,_,_,h3⟩:=uX h (by simp);cases h3
   obtain⟨_,_,_,h3⟩:=uX h (by simp);cases h3
  obtain⟨_,t,h⟩:=h
  obtain⟨y,_,h2,h3⟩:=uX h (by simp)
  cases h3
  exact pF h2
section
variable {H:Type} {enc:TypeId×Value->H} {W:World} {P2:Nat} {held:Bool}
theorem a1t{a:Addr}(h:W.cell? a=some x):a.spot=none:=by
 obtain⟨b,o,s⟩:=a
 cases s with
|none=>rfl
|some s=>
  simp only[World.cell?]at h
  split at h
  ·simp at h
  cases h
theorem Ce(b o k:Nat):(⟨b,o,none⟩:Addr).add k=ad b (o+k):=by
 unfold Addr.add
 split
 ·rename_i h;subst h;rfl
 rfl
theorem Cg{t:TypeId}{z:Nat}{x:DataW H×List MemPlace}(ht:Tryz.prog.underlying t=some (.slice e))(hz:Tryz.prog.cellsOf e=z)(h0:0<z)(h:DataW.trod enc Tryz.prog W P2 (fun _=>true) held fuel t cs=some x):
  ∃a n cap,cs=[.slice a n cap]/\n<=cap/\cap<=maxLen/\(cap=0\/∃b o,a=some ⟨b,o,none⟩/\∀i,i<n->∃es m y,es.length=z/\(∀(k:Nat) v,es[k]? =some v->W.cell? (ad b (o+i*z+k))=some v)/\DataW.trod enc Tryz.prog W P2 (fun _=>true) held m e es=some y):=by
 rcases DataW.trod_slice ht h with⟨rfl,_⟩|⟨a,len,cap,elems,rest,m,_,rfl,_,_,hl,hm,D7,hel,gA,_⟩
 ·exact⟨none,0,0,rfl,B2 _,by decide,.inl rfl⟩
 refine⟨some a,len,cap,rfl,hl,hm,?_⟩
 by_cases hc:cap=0
 ·exact .inl hc
 have a0:a.add 0=a:=by unfold Addr.add;rw[if_pos rfl]
 have at0:∀k (y:DataW H×List MemPlace),k=0->(W.cells? P2 (a.add k) (Tryz.prog.cellsOf e)).bind (DataW.trod enc Tryz.prog W P2 (fun _=>true) held m e)=some y->a.spot=none:=fun k y hk hy=>by
  subst hk
  obtain⟨cs,w4,_⟩:=DI.1 hy
  obtain⟨_,lZ,hq⟩:=World.cells?_some w4
  have h1:=hq 0 (by rw[hz];exact h0)
  rw[B6 zO,a0,a0]at h1
  exact a1t h1
 have hspot:a.spot=none:=by
  by_cases hn:0<len
  ·have h1:=hel 0 hn
   rw[B6 zO]at h1
   exact at0 _ _ (Nat.zero_mul _) h1
  obtain⟨r1,r2⟩:=gA rfl
  have h1:=r2 0 zO
  rw[B6 zO]at h1
  exact at0 _ _ (by rw[show len+0=0 by omega,Nat.zero_mul]) h1
 obtain⟨b,o,s⟩:=a
 simp only at hspot
 subst hspot
 refine .inr ⟨b,o,rfl,fun i hi=>?_⟩;have h1:=hel i hi
 rw[B6 zO]at h1
 obtain⟨es,iP,hy⟩:=DI.1 h1
 obtain⟨_,lZ,hq⟩:=World.cells?_some iP
 rw[hz]at lZ hq
 refine⟨es,m,_,lZ,fun k v hk=>?_,hy⟩
 have hlt:=(N1.1 hk).1
 have h2:=hq k zO
 rw[hk,Ce,Ce]at h2
 exact h2
theorem Ci{b:Nat}{es:List Value}(h:∀(k:Nat) v,es[k]? =some v->W.cell? (ad b (o+k))=some v)(h1:∀x∈es,x.oneCell'=true):FzAt (aL W).G b o es:=fun k x hk=>Cc (h k x hk) (h1 x (E3 hk))
theorem a1u{x:DataW H×List MemPlace}(h:DataW.trod enc Tryz.prog W P2 (fun _=>true) held fuel 45 cs=some x):∃l:By,∀lv c,2<=c->(∀t,t∈lv->2<=t)->rep (aL W) (.bl 0 l) lv c cs:=by
 obtain⟨a,n,cap,rfl,h1,h2,h3⟩:=Cg Tryz.underlying45 Hn (by decide) h
 rcases h3 with rfl|⟨b,o,rfl,h3⟩
 ·have:n=0:=by omega
  subst this
  exact⟨[],fun lv c hc hl=>⟨a,0,rfl,B2 _,by decide,zO,fun e=>by omega,.inl ⟨.inr rfl,rfl⟩⟩⟩
 have one:∀i,∃u:UInt8,i<n->W.cell? (ad b (o+i))=some (E9 u):=fun i=>by
  by_cases hi:i<n
  ·obtain⟨es,m,y,q1,q2,q3⟩:=h3 i hi
   obtain⟨k,rfl,_,hw⟩:=DataW.trod_int (t:=5) (k:=.u8) Tryz.underlying5 q3
   have hb:=bounds_u8 hw
   have:=q2 0 _ rfl
   rw[l5,t8]at this
   refine⟨UInt8.ofNat k.toNat,fun _=>this.trans ?_⟩
   show some (Value.int .u8 k)=some (Value.int .u8 _)
   rw[UInt8.toNat_ofNat']
   congr 2
   omega
  exact⟨0,fun h=>absurd h hi⟩
 have one':=fun i=>(one i).choose_spec
 refine⟨(List.range n).map fun i=>(one i).choose,fun lv c hc hl=>⟨some ⟨b,o,none⟩,cap,by simp,by simpa using h1,h2,zO,fun e=>by omega,.inr ⟨b,o,rfl,Ci (fun k v hk=>?_) (xD _),fun ht=>by have:=hl 0 ht;omega⟩⟩⟩
 rw[Y6,Y6]at hk
 obtain⟨u,hu,rfl⟩:=eL.1 hk
 obtain⟨i,hi,rfl⟩:=eL.1 hu
 have hlt:k<n:=by have:=(N1.1 hi).1;simpa using this
 rw[JF hlt]at hi
 cases hi
 exact one' k hlt
theorem a1v{α:Type} [Inhabited α]{ec:α->V}{t:TypeId}{z:Nat}{x:DataW H×List MemPlace}(ht:Tryz.prog.underlying t=some (.slice e))(hz:Tryz.prog.cellsOf e=z)(h0:0<z)(hm:∀y,(ec y).mem=true)
  (y7:∀(m:Nat) (es:List Value) (y:DataW H×List MemPlace),DataW.trod enc Tryz.prog W P2 (fun _=>true) held m e es=some y->∃c:α,rep (aL W) (ec c) [] 2 es)
  (h:DataW.trod enc Tryz.prog W P2 (fun _=>true) held fuel t cs=some x):∃(n:Nat) (g:Nat->α),n<=maxLen/\rep (aL W) (.sl 0 z n fun i=>ec (g i)) [] 16 cs:=by
 obtain⟨a,n,cap,rfl,h1,h2,h3⟩:=Cg ht hz h0 h
 rcases h3 with rfl|⟨b,o,rfl,h3⟩
 ·have:n=0:=by omega
  subst this
  exact⟨0,fun _=>default,L8 _,h0,a,0,rfl,B2 _,by decide,zO,fun e=>by omega,.inl ⟨.inr rfl,rfl⟩⟩
 have one:∀i,∃c:α,i<n->∃es,rep (aL W) (ec c) [] 2 es/\es.length=z/\FzAt (aL W).G b (o+i*z) es:=fun i=>by
  by_cases hi:i<n
  ·obtain⟨es,m,y,q1,q2,q3⟩:=h3 i hi
   obtain⟨c,hc⟩:=y7 m es y q3
   exact⟨c,fun _=>⟨es,hc,q1,Ci q2 (r8 (hm c) hc)⟩⟩
  exact⟨default,fun h=>absurd h hi⟩
 refine⟨n,fun i=>(one i).choose,zO,h0,some ⟨b,o,none⟩,cap,rfl,h1,h2,zO,fun e=>by omega,.inr ⟨b,o,rfl,fun i hi=>?_,fun ht=>by cases ht⟩⟩
 obtain⟨es,q1,q2,q3⟩:=(one i).choose_spec hi
 exact⟨es,q1,q2,hm _,q3⟩
theorem a1w(fuel:Nat)(cs:List Value)(x:DataW H×List MemPlace)(h:DataW.trod enc Tryz.prog W P2 (fun _=>true) held fuel 64 cs=some x):∃c:ActT,rep (aL W) (N0 c) [] 2 cs:=by
 obtain⟨xs,n,_,_,hl,hx,hi⟩:=DataW.trod_struct Tryz.underlying64 h
 rw[show Tryz.prog.cellsOf 64=6 by kernel_rfl]at hl
 obtain⟨c0,c1,c2,c3,c4,c5,rfl⟩:∃c0 c1 c2 c3 c4 c5,cs=[c0,c1,c2,c3,c4,c5]:=by
  match cs,hl with
 |[c0,c1,c2,c3,c4,c5],_=>exact⟨c0,c1,c2,c3,c4,c5,rfl⟩
 have hs:∀i,i<6->∃y,xs[i]? =some y:=fun i hi=>⟨_,B6 (by rw[hx];exact hi)⟩
 have num:∀{k:Nat} {t:TypeId} {v:Value} {y:DataW H×List MemPlace},Tryz.prog.underlying t=some (.int .i64)->DataW.trod enc Tryz.prog W P2 (fun _=>true) held k t [v]=some y->∃a:Int,rep (aL W) (.i .i64 a) [] 2 [v]:=fun {k t v y} hu hy=>by
  obtain⟨a,q,_,hw⟩:=DataW.trod_int (k:=.i64) hu hy
  have hb:=bounds_i64 hw
  exact⟨a,q,I8 ⟨zO,zO⟩⟩
 have f3:Tryz.prog.cellsOf 3=1:=by kernel_rfl
 have f2:Tryz.prog.cellsOf 2=1:=by kernel_rfl
 have f5:Tryz.prog.cellsOf 45=1:=by kernel_rfl
 obtain⟨y0,e0⟩:=hs 0 (by decide);obtain⟨y1,e1⟩:=hs 1 (by decide);obtain⟨y2,e2⟩:=hs 2 (by decide)
 obtain⟨y3,e3⟩:=hs 3 (by decide);obtain⟨y4,e4⟩:=hs 4 (by decide);obtain⟨y5,e5⟩:=hs 5 (by decide)
 have h0:DataW.trod enc Tryz.prog W P2 (fun _=>true) held n 3 (([c0,c1,c2,c3,c4,c5].drop 0).take (Tryz.prog.cellsOf 3))=some y0:=(hi 0 _ rfl).trans e0
 have h1:DataW.trod enc Tryz.prog W P2 (fun _=>true) held n 3 (([c0,c1,c2,c3,c4,c5].drop 1).take (Tryz.prog.cellsOf 3))=some y1:=(hi 1 _ rfl).trans e1
 have h2:DataW.trod enc Tryz.prog W P2 (fun _=>true) held n 3 (([c0,c1,c2,c3,c4,c5].drop 2).take (Tryz.prog.cellsOf 3))=some y2:=(hi 2 _ rfl).trans e2
 have h3:DataW.trod enc Tryz.prog W P2 (fun _=>true) held n 3 (([c0,c1,c2,c3,c4,c5].drop 3).take (Tryz.prog.cellsOf 3))=some y3:=(hi 3 _ rfl).trans e3
 have h4:DataW.trod enc Tryz.prog W P2 (fun _=>true) held n 2 (([c0,c1,c2,c3,c4,c5].drop 4).take (Tryz.prog.cellsOf 2))=some y4:=(hi 4 _ rfl).trans e4
 have h5:DataW.trod enc Tryz.prog W P2 (fun _=>true) held n 45 (([c0,c1,c2,c3,c4,c5].drop 5).take (Tryz.prog.cellsOf 45))=some y5:=(hi 5 _ rfl).trans e5
 rw[f3]at h0 h1 h2 h3
 rw[f2]at h4
 rw[f5]at h5
 obtain⟨a0,r0⟩:=num Tryz.underlying3 h0
 obtain⟨a1,r1⟩:=num Tryz.underlying3 h1
 obtain⟨a2,r2⟩:=num Tryz.underlying3 h2
 obtain⟨a3,r3⟩:=num Tryz.underlying3 h3
 obtain⟨a4,r4⟩:=num Tryz.underlying2 h4
 obtain⟨l,r5⟩:=a1u h5
 exact⟨⟨a0,a1,a2,a3,a4,l⟩,[c0,c1,c2,c3,c4],[c5],rfl,⟨[c0,c1,c2,c3],[c4],rfl,⟨[c0,c1,c2],[c3],rfl,⟨[c0,c1],[c2],rfl,⟨[c0],[c1],rfl,⟨[],[c0],rfl,rfl,r0⟩,r1⟩,r2⟩,r3⟩,r4⟩,r5 [] 2 (B2 _) (fun _ h=>by cases h)⟩
theorem a1x{base0:Nat}{v:Value}{d:DataW H}{p:List MemPlace}(hval:Value.okWide Tryz.prog W .any base0 22 v)(h:DataW.Trod enc Tryz.prog W P2 (fun _=>true) held 22 v d p):
  ∃(n:Nat) (g:Nat->ActT),n<=9223372036854775807/\repv (aL W) [] 16 (.sl 0 6 n fun i=>N0 (g i)) v:=by
 obtain⟨a,len,cap,rfl⟩:=okWide_slice Tryz.underlying22 hval
 obtain⟨fuel,hf⟩:=h
 obtain⟨n,g,h1,h2⟩:=a1v (ec:=N0) (z:=6) (e:=64) Tryz.underlying22 zK (by decide) (fun _=>rfl) a1w hf
 have mx:maxLen=9223372036854775807:=rfl
 refine⟨n,g,zO,?_⟩
 show rep (aL W) _ [] 16 [_]
 simpa [Value.cells] using h2
end
end
end Go.Proofs.YtgohjiegkhfpmaaGreatDoor
