/- Lemmas for the statement ModelSweeps, part 6: rules of operations, walks through functions, plain laws. -/
import Derived.Test.YtibmfodphlmnfaaGreatDoorModelSweepsG5
set_option maxRecDepth 100000
set_option linter.all false
namespace Go.Proofs.YtibmfodphlmnfaaGreatDoor
open Go
open Go.IntKind (i64 u64 u8 u32)
open List (replicate)
open Nat (beq blt)
open BitVec (ofInt)
variable {now:Int} {c i j m r:Nat} {α:Type} {v':V}
def sN(a b c:Nat)(s:StaR):V:=A1 [.bs 32 s.root,.i .i64 s.delay,.i .u64 s.serial,.os a 38,.os b 1,.os c 38,.bs 32 s.head]
def tN(a b c:Nat)(t:TenR):V:=A1 [.s t.name,.bs 32 t.key,.i .i64 t.quota,.i .i64 t.next,.os a 33,.os b 36,.os c 33]
def wN(p:V)(o:OpT)(m:Int):V:=A1 [.pr 3 0 [],J1 o,p,.i .u64 m]
def rB(t:TenR):V:=.ar 33 t.nb fun i=>C3 (t.gb i)
def E1(t:TenR):V:=.ar 36 t.ns fun i=>C8 (t.gs i)
def rD(t:TenR):V:=.ar 33 t.nd fun i=>D7 (t.gd i)
def rR(s:StaR):V:=.ar 1 s.nr fun i=>.i .u64 (s.gr i)
def rL(s:StaR):V:=.ar 38 s.nl fun i=>H7 (s.gl i)
def rT(n:Nat)(tg:Nat->TenR):V:=.ar 38 n fun i=>B2 (tg i)
def fN(n:Nat)(tg:Nat->TenR)(i0:Nat)(v:V):V:=.fo 38 (rT n tg) i0 v
def hA(s:StaR)(o:OpT)(m:Int)(n:Nat)(tg:Nat->TenR)(i0:Nat)(v:V)(l:List (Nat×V)):List (Nat×V):=(2,wN (.pr 4 0 [.e i0 38 n]) o m)::(3,sN 4 5 6 s)::(4,fN n tg i0 v)::(5,rR s)::(6,rL s)::l
def o9(s:StaR)(o:OpT)(m:Int)(n:Nat)(tg:Nat->TenR)(i0:Nat)(t:TenR):List (Nat×V):=hA s o m n tg i0 (tN 7 8 9 t) [(7,rB t),(8,E1 t),(9,rD t)]
def fE(s:StaR)(o:OpT)(m:Int)(n:Nat)(tg:Nat->TenR)(i0:Nat)(t:TenR):V:=.pz (A1 [.pz (A1 [.bs 32 s.root,.i .i64 s.delay,.i .u64 s.serial,dR 38 (tP 38 i0 (rT n tg) (B2 t)),.sl 0 1 s.nr fun i=>.i .u64 (s.gr i),.sl 0 38 s.nl fun i=>H7 (s.gl i),.bs 32 s.head]),J1 o,bif beq i0 i0 then .pz (B2 t) else .uk 1,.i .u64 m])
theorem Wh{s:StaR}{o:OpT}{m:Int}{n:Nat}{tg:Nat->TenR}{i0:Nat}{t:TenR}:VW (fE s o m n tg i0 t) (.pz (mU s o t m)):=VW.pz (VW.st ⟨VW.pz (VW.st ⟨VW.rfl,VW.rfl,VW.rfl,VW.uk UZ,VW.rfl,VW.rfl,VW.rfl,zT⟩),VW.rfl,VW.of_eq UY,VW.rfl,zT⟩)
theorem kW{s:StaR}{o:OpT}{m:Int}{n:Nat}{tg:Nat->TenR}{i0:Nat}{t:TenR}:VA (fE s o m n tg i0 t) (.pz (mU s o t m)):=VA.pz (VW.st ⟨VW.pz (VW.st ⟨VW.rfl,VW.rfl,VW.rfl,VW.uk UZ,VW.rfl,VW.rfl,VW.rfl,zT⟩),VW.rfl,VW.of_eq UY,VW.rfl,zT⟩)
theorem VA.fn1{f:FuncId}{v:V}(h:VA (.pz v) (.pz v')):VA (mS f [.pz v]) (mS f [.pz v']):=fun X x ⟨vs,q1,q2,q3⟩=>⟨vs,q1,q2,fun k hk=>by
 obtain⟨y,r1,r2⟩:=q3 k hk
 have lK:k=0:=Nat.lt_one_iff.1 hk
 subst lK
 exact⟨y,r1,h X y r2⟩⟩
theorem Ag{z n:Nat}{e:α->V}{g:Nat->α}:VEq (.ar z n (gU (fun k=>e (g k)) i)) (.ar z n fun k=>e (aC g i k)):=.an _ _ _ _ fun k _=>by
 show VEn (bif blt k i then e (g k) else e (g (k+1))) (e (bif blt k i then g k else g (k+1)))
 cases blt k i<;>exact .rfl _
theorem BZ{z n:Nat}{e:α->V}{g:Nat->α}{v:V}{x:α}(h:VEn v (e x):=by exact .rfl _):VEq (.ar z n (T9 (fun k=>e (g k)) i v)) (.ar z n fun k=>e (f9 g i x k)):=.an _ _ _ _ fun k _=>by
 show VEn (bif blt k i then e (g k) else bif beq k i then v else e (g (k-1))) (e (bif blt k i then g k else bif beq k i then x else g (k-1)))
 cases blt k i
 ·cases beq k i
  ·exact .rfl _
  exact h
 exact .rfl _
structure TB (t:TenR):Prop where
 nb:t.nb<=65536
 ns:t.ns<=65536
 nd:t.nd<=65536
 db:∀j,j<t.nb->(t.gb j).data.length<=100000
 ls:∀j,j<t.ns->(t.gs j).mani.label.length<=5000
 asc:AscK Doo.of t.nd t.gd
structure OB (o:OpT):Prop where
 hb:o.body.length<=4096
 ht:o.token.length<=50000
 hn:o.tenant.length<=16
structure Kp (z:Bool) (now:Int) (t t':TenR):Prop where
 nm:t'.name=t.name
 sn:∀j,j<t.ns->(∃k,k<t'.ns/\(t'.gs k).number=(t.gs j).number)\/(z=true/\(t.gs j).doom≠0/\(t.gs j).doom<=now)
 bl:∀j,j<t.nb->(∃k,k<t'.nb/\(t'.gb k).of=(t.gb j).of)\/(z=true/\∃k,k<t.nd/\(t.gd k).of=(t.gb j).of/\(t.gd k).doom<=now)
 ct:z=true->∃u v,u+v<=4/\(∀f:Snp->Bool,K1 (fun j=>f (t.gs j)) t.ns<=K1 (fun j=>f (t'.gs j)) t'.ns+u)/\∀f:Obj->Bool,K1 (fun j=>f (t.gb j)) t.nb<=K1 (fun j=>f (t'.gb j)) t'.nb+v
theorem Kp.rfl{t:TenR}:Kp false now t t:=⟨Eq.refl _,fun j h=>.inl ⟨j,h,Eq.refl _⟩,fun j h=>.inl ⟨j,h,Eq.refl _⟩,fun h=>(by cases h)⟩
theorem Kp.mk1{t t':TenR}(h:t'.name=t.name)(h1:∀j,j<t.ns->∃k,k<t'.ns/\(t'.gs k).number=(t.gs j).number)(h2:∀j,j<t.nb->∃k,k<t'.nb/\t'.gb k=t.gb j):Kp false now t t':=⟨h,fun j hj=>.inl (h1 j hj),fun j hj=>.inl ((h2 j hj).imp fun _ h=>⟨h.1,by rw[h.2]⟩),fun h=>(by cases h)⟩
def MP(z:Bool)(o:OpT)(t t':TenR)(c:Int):Prop:=(c≠200->c≠201->t'=t)/\(TB t->TB t')/\Kp z o.now t t'
theorem MP.rfl{o:OpT}{t:TenR}{c:Int}:MP false o t t c:=⟨fun _ _=>Eq.refl _,id,.rfl⟩
theorem MP.of{z:Bool}{o:OpT}{t t':TenR}{c:Int}(hc:c=200\/c=201)(h:TB t->TB t')(hk:Kp z o.now t t'):MP z o t t' c:=⟨fun h1 h2=>by rcases hc with h3|h3<;>contradiction,h,hk⟩
theorem Kp.doo{t:TenR}{d:Nat}{g:Nat->Doo}:Kp false now t ⟨t.name,t.key,t.quota,t.next,t.nb,t.gb,t.ns,t.gs,d,g⟩:=.mk1 (Eq.refl _) (fun j h=>⟨j,h,Eq.refl _⟩) fun j h=>⟨j,h,Eq.refl _⟩
theorem TB.doo{t:TenR}{d:Nat}{g:Nat->Doo}(h:d<=t.nd)(ha:AscK Doo.of t.nd t.gd->AscK Doo.of d g)(hB:TB t):TB ⟨t.name,t.key,t.quota,t.next,t.nb,t.gb,t.ns,t.gs,d,g⟩:=⟨hB.nb,hB.ns,L6 h hB.nd,hB.db,hB.ls,ha hB.asc⟩
theorem OD{p:α->Prop}{n:Nat}{g:Nat->α}{x:α}(h:∀j,j<n->p (g j))(hx:p x):∀j,j<n+1->i<=n->p (f9 g i x j):=fun j hj hi=>by
 unfold f9
 cases h1:blt j i
 ·cases h2:beq j i
  ·have:¬ j<i:=fun e=>by rw[<-A8,h1]at e;cases e
   have:j≠i:=fun e=>by rw[e,P7]at h2;cases h2
   exact h _ zO
  exact hx
 rw[A8]at h1;exact h _ zO
theorem Wi{p:α->Prop}{n:Nat}{g:Nat->α}(h:∀j,j<n->p (g j)):∀j,j<n-1->p (aC g i j):=fun j hj=>by
 unfold aC
 cases blt j i
 ·exact h _ zO
 exact h _ zO
theorem Ah{p:α->Prop}{n:Nat}{g:Nat->α}{x:α}(h:∀j,j<n->p (g j))(hx:p x):∀j,j<n->p (F7 g i x j):=fun j hj=>by
 unfold F7
 cases beq j i
 ·exact h _ hj
 exact hx
theorem uK{p:α->Prop}{n:Nat}{g:Nat->α}{x:α}(h:∀j,j<n->p (g j))(hx:p x):∀j,j<n+1->p (J8 n g x j):=fun j hj=>by
 unfold J8
 cases h1:blt j n
 ·exact hx
 rw[A8]at h1;exact h _ h1
theorem jO{z n:Nat}{e:α->V}{g:Nat->α}{v:V}{x:α}(h:VEn v (e x):=by exact .rfl _):VEq (.ar z m (fun k=>bif blt k n then e (g k) else v)) (.ar z m fun k=>e (J8 n g x k)):=.an _ _ _ _ fun k _=>by
 show VEn (bif blt k n then e (g k) else v) (e (bif blt k n then g k else x))
 cases blt k n
 ·exact h
 exact .rfl _
theorem CA{v:V}(h:v.Flo):∀r,(lk [(16,v)] r).Flo:=fun r=>by
 simp only[lk]
 cases beq r 16
 ·trivial
 exact h
theorem Wj(lvi:List Nat)(n i:Nat)(g:Nat->V)(hi:i<n)(hn:n<=1000000):SatHM Tryz.prog false 158 [.os 2 33,.i .i64 (i:Int),.i .i64 (i64.wrap ((i:Int)+1))] lvi [(2,.ar 33 n g)] (fun out ho A0=>out=.os 16 33/\ho=[(16,.ar 33 (n-1) (gU g i))]/\A0=[]):=by
 rw[N4 ⟨zO,zO⟩];exact Tr lvi n i g hi
theorem Wl(lvi:List Nat)(n i:Nat)(g:Nat->V)(hi:i<n)(hn:n<=1000000):SatHM Tryz.prog false 136 [.os 2 33,.i .i64 (i:Int),.i .i64 (i64.wrap ((i:Int)+1))] lvi [(2,.ar 33 n g)] (fun out ho A0=>out=.os 16 33/\ho=[(16,.ar 33 (n-1) (gU g i))]/\A0=[]):=by
 rw[N4 ⟨zO,zO⟩];exact Tp lvi n i g hi
theorem OE(s:StaR)(o:OpT)(t:TenR)(m:Int)(n:Nat)(tg:Nat->TenR)(i0:Nat)(x:By)(hd:t.nd<=100000):SatHM Tryz.prog false 114 [.pr 2 0 [],.bs 32 x] [4,5,6] (o9 s o m n tg i0 t) (fun out ho A0=>∃(d:Nat) (g:Nat->Doo),ho=hA s o m n tg i0 (tN 7 8 16 t) [(7,rB t),(8,E1 t),(9,.un),(16,.ar 33 d fun i=>D7 (g i))]/\A0=[4,5,6]/\d<=t.nd/\(AscK Doo.of t.nd t.gd->AscK Doo.of d g)):=by
 refine fH false Tryz.func114 fun X0 w0 hX hm=>?_
 refine mV 9 ?_;refine L5 (SatM.weak (ins':=[fE s o m n tg i0 t,.bs 32 x]) (YA s o t m x bd) ⟨kW,VA.rfl,zT⟩) ?_;rintro out A0 ⟨rfl,⟨J9,dJ,rfl,oB,iM⟩⟩
 refine⟨rfl,?_⟩
 refine cb (dJ) (fun h1=>?_) fun h1=>?_
 ·have hj:=(iM.ok h1).1
  refine cC (i0=i0) ?_;refine jA 2 5968 (fun(u:Unit)=>[]) (fun(u:Unit)=>[(2,wN (.pr 4 0 [.e i0 38 n]) o m),(3,sN 4 5 6 s),(5,rR s),(6,rL s),(4,fN n tg i0 (tN 7 8 1632 t)),(7,rB t),(8,E1 t),(1632,.ar 33 (t.nd-1) fun i=>gU (fun i=>D7 (t.gd i)) J9 i),(9,.un)]) (fun(u:Unit)=>True) [4,5,6] (fun R hR i hi=>?_) ?_
  ·revert i hi;refine f2 ?_ ?_<;>repeat' (first|(refine kH (e:=eE) [(16,2)] [16] (Wj [] t.nd J9 (fun i=>D7 (t.gd i)) bd bd) ?_;rintro out ho A0 ⟨rfl,rfl,rfl⟩)|refine cC (e:=eE) (i0=i0) ?_|exact cA hX (hR () zT))
  rintro u hJ
  exact xW hX (A2 []) ⟨_,(aC t.gd J9),rfl,rfl,zO,AscK.del⟩ (hH:=⟨v0,v0,v0,v0,v0,v0,v0,v0,(vT (u:=.ar 33 (t.nd-1) fun i=>gU (fun i=>D7 (t.gd i)) J9 i) (Ag)),zT⟩)
 exact xW hX (A2 []) ⟨_,t.gd,rfl,rfl,zO,id⟩ (hH:=⟨v0,v0,v0,v0,v0,v0,v0,v0,(vT (u:=rD t) (.rfl _)),zT⟩)
theorem Wm(s:StaR)(o:OpT)(t:TenR)(m:Int)(n:Nat)(tg:Nat->TenR)(i0:Nat)(hB:TB t)(hO:OB o):SatHM Tryz.prog false 73 [.pr 2 0 []] [4,5,6,7,8,9] (o9 s o m n tg i0 t) (fun out ho A0=>∃c t2,out=A1 [.i .i64 c,.bl 0 []]/\ho=hA s o m n tg i0 (tN 16 8 17 t2) [(7,.un),(8,E1 t2),(9,.un),(16,rB t2),(17,rD t2)]/\A0=[4,5,6]/\MP false o t t2 c):=by
 refine fH false Tryz.func73 fun X0 w0 hX hm=>?_
 have hb:=hO.hb
 have h1:=hB.nb
 have h2:=hB.ns
 have h3:=hB.nd
 have hs:=hB.ls
 refine mV 7 ?_;refine mV 9 ?_;refine L5 (SatM.weak (ins':=[fE s o m n tg i0 t,.bs 32 o.of]) (NN s o t m o.of bd) ⟨kW,VA.rfl,zT⟩) ?_;rintro out A0 ⟨rfl,⟨J9,dJ,rfl,oB,iM⟩⟩
 refine⟨rfl,?_⟩
 refine cB (4000<(o.body.length:Int)) (fun h1=>?_) fun h1=>?_
 ·refine cK [] (E6 413) ?_
  rintro out A0 ⟨rfl,rfl⟩
  exact xW hX (A1 [.i .i64 413,.bl 0 []]) ⟨_,⟨t.name,t.key,t.quota,t.next,t.nb,t.gb,t.ns,t.gs,t.nd,t.gd⟩,rfl,rfl,rfl,.rfl⟩ (hH:=⟨v0,v0,v0,v0,v0,v0,v0,v0,(vT (u:=rB t) (.rfl _)),(vT (u:=rD t) (.rfl _)),zT⟩)
 refine cC (i0=i0) ?_
 refine L5 (Rg t o.body bd) ?_;rintro out A0 ⟨rfl,⟨nm1,rfl⟩⟩
 refine⟨rfl,?_⟩
 refine cN (o.of=nm1) (fun h2=>?_) fun h2=>?_
 ·refine cK [] (E6 400) ?_
  rintro out A0 ⟨rfl,rfl⟩
  exact xW hX (A1 [.i .i64 400,.bl 0 []]) ⟨_,⟨t.name,t.key,t.quota,t.next,t.nb,t.gb,t.ns,t.gs,t.nd,t.gd⟩,rfl,rfl,rfl,.rfl⟩ (hH:=⟨v0,v0,v0,v0,v0,v0,v0,v0,(vT (u:=rB t) (.rfl _)),(vT (u:=rD t) (.rfl _)),zT⟩)
 refine cb (dJ) (fun h3=>?_) fun h3=>?_
 ·refine gD [4,5,6] ?_
  refine kH [(2,2),(3,3),(4,4),(5,5),(6,6),(16,7),(8,8),(80,9)] [2,3,4,5,6,16,8,80] (OE s o t m n tg i0 o.of bc) ?_;rintro out ho A0 ⟨sd2,sg2,rfl,rfl,hsd2,hsa2⟩
  refine cK [] (E6 200) ?_;rintro out A0 ⟨rfl,rfl⟩
  exact xW hX (A1 [.i .i64 200,.bl 0 []]) ⟨_,⟨t.name,t.key,t.quota,t.next,t.nb,t.gb,t.ns,t.gs,sd2,sg2⟩,rfl,rfl,rfl,.of (.inl rfl) (TB.doo zO hsa2) .doo⟩ (hH:=⟨v0,v0,v0,v0,v0,v0,v0,v0,(vT (u:=rB t) (.rfl _)),(vT (u:=.ar 33 sd2 fun i=>D7 (sg2 i)) (.rfl _)),zT⟩)
 refine L5 (SatM.weak (ins':=[fE s o m n tg i0 t,.i .i64 (o.body.length:Int)]) (YC s o t m (o.body.length:Int) bd bd hs) ⟨kW,VA.rfl,zT⟩) ?_
 rintro out A0 ⟨rfl,⟨rp3,rfl⟩⟩
 refine⟨rfl,?_⟩
 refine cn (rp3) (fun h4=>?_) fun h4=>?_
 ·refine cK [] (E6 507) ?_
  rintro out A0 ⟨rfl,rfl⟩
  exact xW hX (A1 [.i .i64 507,.bl 0 []]) ⟨_,⟨t.name,t.key,t.quota,t.next,t.nb,t.gb,t.ns,t.gs,t.nd,t.gd⟩,rfl,rfl,rfl,.rfl⟩ (hH:=⟨v0,v0,v0,v0,v0,v0,v0,v0,(vT (u:=rB t) (.rfl _)),(vT (u:=rD t) (.rfl _)),zT⟩)
 refine cC (i0=i0) ?_
 refine cB (1024<=(t.nb:Int)) (fun h5=>?_) fun h5=>?_
 ·refine cK [] (E6 507) ?_
  rintro out A0 ⟨rfl,rfl⟩
  exact xW hX (A1 [.i .i64 507,.bl 0 []]) (ho:=(hA s o m n tg i0 (tN 16 8 17 t) [(7,.un),(8,E1 t),(9,.un),(16,.ar 33 t.nb fun i=>C3 (t.gb i)),(17,.ar 33 t.nd fun i=>D7 (t.gd i))])) ⟨_,⟨t.name,t.key,t.quota,t.next,t.nb,t.gb,t.ns,t.gs,t.nd,t.gd⟩,rfl,rfl,rfl,.rfl⟩ (hH:=⟨v0,v0,v0,v0,v0,v0,v0,v0,(vT (u:=rB t) (.rfl _)),(vT (u:=rD t) (.rfl _)),zT⟩)
 refine cC (i0=i0) ?_
 refine jA 2 10128 (fun(u:Unit)=>[(2,.pr 144 0 [])]) (fun(u:Unit)=>[(144,A1 [.i .i64 0,.bl 1 []]),(2,wN (.pr 4 0 [.e i0 38 n]) o m),(3,sN 4 5 6 s),(5,rR s),(6,rL s),(4,fN n tg i0 (tN 5792 8 80 t)),(8,E1 t),(80,rD t),(5792,.ar 33 (t.nb+1) fun i=>T9 (fun i=>C3 (t.gb i)) J9 (A1 [.bs 32 o.of,.bl 0 o.body]) i),(7,.un),(9,.un)]) (fun(u:Unit)=>True) [4,5,6,8,80,5792] (fun R hR i hi=>?_) ?_
 ·match i,hi with
 |0,_=>
   refine cK [] (tZ o.body bd) ?_;rintro out A0 ⟨rfl,rfl⟩
   refine kH [(16,2)] [16] (NQ t.nb J9 (fun i=>C3 (t.gb i)) (A1 [.bs 32 o.of,.bl 0 o.body]) bd bd rfl) ?_;rintro out ho A0 ⟨rfl,rfl,rfl⟩
   refine cC (i0=i0) ?_;exact cA hX (hR () zT)
 |1,_=>
   refine cK [] (tZ o.body bd) ?_;rintro out A0 ⟨rfl,rfl⟩
   refine L4 2 zK fun i hi=>?_
   match i,hi with
  |0,_=>
    refine kH [(16,2)] [16] (NQ t.nb J9 (fun i=>C3 (t.gb i)) (A1 [.bs 32 o.of,.bl 0 o.body]) bd bd rfl) ?_;rintro out ho A0 ⟨rfl,rfl,rfl⟩
    refine cC (i0=i0) ?_;exact cA hX (hR () zT)
  |1,_=>
    refine L4 2 zK fun i hi=>?_
    match i,hi with
   |0,_|1,_=>
     refine kH [(16,2)] [16] (NQ t.nb J9 (fun i=>C3 (t.gb i)) (A1 [.bs 32 o.of,.bl 0 o.body]) bd bd rfl) ?_;rintro out ho A0 ⟨rfl,rfl,rfl⟩
     refine cC (i0=i0) ?_;exact cA hX (hR () zT)
 rintro u hJ
 refine cK [] (E6 201) ?_;rintro out A0 ⟨rfl,rfl⟩
 exact xW hX (A1 [.i .i64 201,.bl 0 []]) ⟨_,⟨t.name,t.key,t.quota,t.next,(t.nb+1),(f9 t.gb J9 ⟨o.of,o.body⟩),t.ns,t.gs,t.nd,t.gd⟩,rfl,rfl,rfl,.of (.inr rfl) (fun h=>⟨by dsimp only;omega,h.ns,h.nd,fun j hj=>OD (p:=fun x:Obj=>x.data.length<=100000) h.db (by dsimp only;omega) j hj zO,h.ls,h.asc⟩) (.mk1 rfl (fun j h=>⟨j,h,rfl⟩) fun j h=>NK zO h)⟩ (hH:=⟨v0,v0,v0,v0,v0,v0,v0,v0,(vT (u:=.ar 33 (t.nb+1) fun i=>T9 (fun i=>C3 (t.gb i)) J9 (A1 [.bs 32 o.of,.bl 0 o.body]) i) (BZ)),(vT (u:=rD t) (.rfl _)),zT⟩)
theorem kX{a:Int}{m:Mani}{c:Int}:VEn (A1 [.i .i64 a,f7 m,.i .i64 c]).strip (C8 ⟨a,m,c⟩):=.st _ _ _ fun k hk=>match k,hk with
|0,_=>.rfl _
|1,_=>MD rfl
|2,_=>.rfl _
theorem CB(s:StaR)(o:OpT)(t:TenR)(m:Int)(n:Nat)(tg:Nat->TenR)(i0:Nat)(hn:t.nb<=100000):SatHM Tryz.prog false 119 [.pr 2 0 []] [4,5,6,7,8,9] (o9 s o m n tg i0 t) (fun out ho A0=>out=.sl 16 33 t.nb (fun i=>C3 (t.gb i))/\ho=o9 s o m n tg i0 t/\A0=[4,5,6,7,8,9,16]):=by
 refine fH false Tryz.func119 fun X0 w0 hX hm=>?_
 refine cC (i0=i0) ?_;refine cM hX (fun(k:Nat)=>[(3,.sl 24 33 k fun i=>C3 (t.gb i)),(12,.os 7 33),(13,.i .i64 (t.nb:Int)),(14,.i .i64 (k:Int))]) (fun(k:Nat)=>[(7,rB t),(2,wN (.pr 4 0 [.e i0 38 n]) o m),(3,sN 4 5 6 s),(5,rR s),(6,rL s),(4,fN n tg i0 (tN 7 8 9 t)),(8,E1 t),(9,rD t)]) (fun(k:Nat)=>k<=t.nb) (fun(k:Nat)=>t.nb-k) [4,5,6,7,8,9,24] 720 0 (by simp) ?_ (hS:=⟨(vT (vN (g:=fun _=>.un))),v0,v0,v0,zT⟩);rintro k hI R hR
 refine cB ((k:Int)<(t.nb:Int)) (fun h1=>?_) fun h1=>?_
 ·refine cC ((0:Int)<=(k:Int)/\(k:Int)<(t.nb:Int)) ?_
  refine gR 7 (rB t) (.fo 33 (rB t) k (C3 (t.gb k))) (aA zO rfl) ?_;refine cC (k=k) ?_;refine gR 7 (.fo 33 (rB t) k (C3 (t.gb k))) (rB t) (fC rfl rfl rfl) ?_;refine cC ((k+1)*56<=140737488355328) ?_;exact cA hX (hR (k+1) bd zO) (hS:=⟨(vT UV),v0,v0,(vS bd),zT⟩)
 exact xW hX (.sl 16 33 k fun i=>C3 (t.gb i)) (by obtain rfl:k=t.nb:=oM;exact⟨rfl,rfl,rfl⟩)
theorem Ai(s:StaR)(o:OpT)(t:TenR)(m:Int)(n:Nat)(tg:Nat->TenR)(i0:Nat)(hn:t.ns<=100000):SatHM Tryz.prog false 132 [.pr 2 0 []] [4,5,6,7,8,9] (o9 s o m n tg i0 t) (fun out ho A0=>out=.sl 16 32 t.ns (fun i=>.bs 32 ((t.gs i).mani.root))/\ho=o9 s o m n tg i0 t/\A0=[4,5,6,7,8,9,16]):=by
 refine fH false Tryz.func132 fun X0 w0 hX hm=>?_
 refine cC (i0=i0) ?_;refine cM hX (fun(k:Nat)=>[(3,.sl 24 32 k fun i=>.bs 32 ((t.gs i).mani.root)),(12,.os 8 36),(13,.i .i64 (t.ns:Int)),(14,.i .i64 (k:Int))]) (fun(k:Nat)=>[(8,E1 t),(2,wN (.pr 4 0 [.e i0 38 n]) o m),(3,sN 4 5 6 s),(5,rR s),(6,rL s),(4,fN n tg i0 (tN 7 8 9 t)),(7,rB t),(9,rD t)]) (fun(k:Nat)=>k<=t.ns) (fun(k:Nat)=>t.ns-k) [4,5,6,7,8,9,24] 720 0 (by simp) ?_ (hS:=⟨(vT (vN (g:=fun _=>.un))),v0,v0,v0,zT⟩);rintro k hI R hR
 refine cB ((k:Int)<(t.ns:Int)) (fun h1=>?_) fun h1=>?_
 ·refine cC ((0:Int)<=(k:Int)/\(k:Int)<(t.ns:Int)) ?_
  refine gR 8 (E1 t) (.fo 36 (E1 t) k (C8 (t.gs k))) (aA zO rfl) ?_;refine cC (k=k) ?_;refine gR 8 (.fo 36 (E1 t) k (C8 (t.gs k))) (E1 t) (T7 kX (fun _ _=>rfl) rfl) ?_;refine cC ((k+1)*32<=140737488355328) ?_;exact cA hX (hR (k+1) bd zO) (hS:=⟨(vT UV),v0,v0,(vS bd),zT⟩)
 exact xW hX (.sl 16 32 k fun i=>.bs 32 ((t.gs i).mani.root)) (by obtain rfl:k=t.ns:=oM;exact⟨rfl,rfl,rfl⟩)
theorem Wn(s:StaR)(o:OpT)(t:TenR)(m:Int)(n:Nat)(tg:Nat->TenR)(i0:Nat)(hB:TB t):SatHM Tryz.prog false 74 [.pr 2 0 []] [4,5,6,7,8,9] (o9 s o m n tg i0 t) (fun out ho A0=>∃c b,out=A1 [.i .i64 c,.bl 0 b]/\(c=200\/b=[])/\ho=o9 s o m n tg i0 t/\A0=[4,5,6]/\b.length<=100000):=by
 refine fH false Tryz.func74 fun X0 w0 hX hm=>?_
 have N6:=hB.nb
 have S2:=hB.ns
 have x8:=hB.nd
 have hs:=hB.ls
 refine L5 (SatM.weak (ins':=[fE s o m n tg i0 t,.bs 32 o.of]) (NN s o t m o.of bd) ⟨kW,VA.rfl,zT⟩) ?_;rintro out A0 ⟨rfl,⟨J9,dJ,rfl,oB,iM⟩⟩
 refine⟨rfl,?_⟩
 refine cn (dJ) (fun h1=>?_) fun h1=>?_
 ·refine cK [] (E6 404) ?_
  rintro out A0 ⟨rfl,rfl⟩
  exact xW hX (A1 [.i .i64 404,.bl 0 []]) ⟨_,_,rfl,by simp,rfl,rfl,by first|(simp;done)|omega⟩
 have hj:=(iM.ok (by simpa using h1)).1
 have hd:=hB.db J9 hj
 refine cC (i0=i0) ?_;refine cC ((0:Int)<=(J9:Int)/\(J9:Int)<(t.nb:Int)) ?_;refine gR 7 (rB t) (.fo 33 (rB t) J9 (C3 (t.gb J9))) (aA zO rfl) ?_;refine cC (J9=J9) ?_;refine gR 7 (.fo 33 (rB t) J9 (C3 (t.gb J9))) (rB t) (fC rfl rfl rfl) ?_;refine cK [] (tZ ((t.gb J9).data) bd) ?_;rintro out A0 ⟨rfl,rfl⟩
 refine cK [] (kV ((t.gb J9).data)) ?_;rintro out A0 ⟨rfl,rfl⟩
 exact xW hX (A1 [.i .i64 200,.bl 0 ((t.gb J9).data)]) ⟨_,_,rfl,by simp,rfl,rfl,by first|(simp;done)|omega⟩
theorem Wo(s:StaR)(o:OpT)(t:TenR)(m:Int)(n:Nat)(tg:Nat->TenR)(i0:Nat)(hB:TB t):SatHM Tryz.prog false 76 [.pr 2 0 []] [4,5,6,7,8,9] (o9 s o m n tg i0 t) (fun out ho A0=>∃c b,out=A1 [.i .i64 c,.bl 0 b]/\(c=200\/b=[])/\ho=o9 s o m n tg i0 t/\A0=[4,5,6]/\b.length<=7000*65536):=by
 refine fH false Tryz.func76 fun X0 w0 hX hm=>?_
 have N6:=hB.nb
 have S2:=hB.ns
 have x8:=hB.nd
 have hs:=hB.ls
 refine cC (i0=i0) ?_ bd;refine cM hX (fun(p:Nat×By)=>[(2,.pr 16 0 []),(3,.bl 24 p.2),(13,.os 8 36),(14,.i .i64 (t.ns:Int)),(15,.i .i64 (p.1:Int))]) (fun(p:Nat×By)=>[(8,E1 t),(16,A1 [.i .i64 0,.bl 1 []]),(2,wN (.pr 4 0 [.e i0 38 n]) o m),(3,sN 4 5 6 s),(5,rR s),(6,rL s),(4,fN n tg i0 (tN 7 8 9 t)),(7,rB t),(9,rD t)]) (fun(p:Nat×By)=>p.1<=t.ns/\p.2.length<=7000*p.1) (fun(p:Nat×By)=>t.ns-p.1) [4,5,6,7,8,9,24] 720 (0,[]) ⟨by simp,by simp⟩ ?_;rintro⟨k,b⟩ hI R hR
 dsimp only at hI
 refine cB ((k:Int)<(t.ns:Int)) (fun h1=>?_) fun h1=>?_
 ·have hk:=hs k zO
  refine cC ((0:Int)<=(k:Int)/\(k:Int)<(t.ns:Int)) ?_ bd;refine gR 8 (E1 t) (.fo 36 (E1 t) k (C8 (t.gs k))) (aA zO rfl) ?_;refine cC (k=k) ?_ bd;refine gR 8 (.fo 36 (E1 t) k (C8 (t.gs k))) (E1 t) (T7 kX (fun _ _=>rfl) rfl) ?_;refine cK [] (GQ ((t.gs k).number)) ?_;rintro out A0 ⟨rfl,⟨fS,rfl,hf0⟩⟩
  refine cC (fS.length+[32].length<=maxLen) ?_ bM;refine cK [] (GQ (((t.gs k).mani).time)) ?_;rintro out A0 ⟨rfl,⟨rQ,rfl,hf1⟩⟩
  refine cC ((fS++[32]).length+rQ.length<=maxLen) ?_ bM;refine cC (((fS++[32])++rQ).length+[32].length<=maxLen) ?_ bM;refine cK [] (GQ ((t.gs k).doom)) ?_;rintro out A0 ⟨rfl,⟨Z6,rfl,hf2⟩⟩
  refine cC ((((fS++[32])++rQ)++[32]).length+Z6.length<=maxLen) ?_ bM;refine cC (((((fS++[32])++rQ)++[32])++Z6).length+[32].length<=maxLen) ?_ bM;refine cC ((((((fS++[32])++rQ)++[32])++Z6)++[32]).length+(((t.gs k).mani).label).length<=maxLen) ?_ bM;refine cC (((((((fS++[32])++rQ)++[32])++Z6)++[32])++(((t.gs k).mani).label)).length+[10].length<=maxLen) ?_ bM;refine cC ((b.length+(((((((fS++[32])++rQ)++[32])++Z6)++[32])++(((t.gs k).mani).label))++[10]).length)*1<=140737488355328) ?_ bd;exact cA hX (hR (k+1,(b++(((((((fS++[32])++rQ)++[32])++Z6)++[32])++(((t.gs k).mani).label))++[10]))) ⟨bd,bd⟩ (by dsimp only;omega)) (hS:=⟨v0,v0,v0,v0,(vS bd),zT⟩)
 refine cK [] (kV b) ?_
 rintro out A0 ⟨rfl,rfl⟩
 exact xW hX (A1 [.i .i64 200,.bl 0 b]) ⟨_,_,rfl,.inl rfl,rfl,rfl,zO⟩
theorem Wp(s:StaR)(o:OpT)(t:TenR)(m:Int)(n:Nat)(tg:Nat->TenR)(i0:Nat)(hB:TB t)(hO:OB o):SatHM Tryz.prog true 75 [.pr 2 0 []] [4,5,6,7,8,9] (o9 s o m n tg i0 t) (fun out ho A0=>∃c b t2,out=A1 [.i .i64 c,.bl 0 b]/\ho=hA s o m n tg i0 (tN 7 16 17 t2) [(7,rB t2),(8,.un),(9,.un),(16,E1 t2),(17,rD t2)]/\A0=[4,5,6]/\MP false o t t2 c/\(c=201\/b=[])/\b.length<=100):=by
 refine fH true Tryz.func75 fun X0 w0 hX hm=>?_
 have hb:=hO.hb
 have N6:=hB.nb
 have S2:=hB.ns
 have x8:=hB.nd
 have hs:=hB.ls
 refine mV 8 ?_;refine mV 9 ?_;refine cK [] (Rh o.body bd) ?_;rintro out A0 ⟨rfl,⟨sm0,se0,rfl,hsm0⟩⟩
 refine cB (se0≠0) (fun h1=>?_) fun h1=>?_
 ·refine cK [] (E6 400) ?_
  rintro out A0 ⟨rfl,rfl⟩
  exact xW hX (A1 [.i .i64 400,.bl 0 []]) ⟨_,_,⟨t.name,t.key,t.quota,t.next,t.nb,t.gb,t.ns,t.gs,t.nd,t.gd⟩,rfl,rfl,rfl,.rfl,.inr rfl,bd⟩ (hH:=⟨v0,v0,v0,v0,v0,v0,v0,v0,(vT (u:=E1 t) (.rfl _)),(vT (u:=rD t) (.rfl _)),zT⟩)
 refine jA 2 5328 (fun(p:(List By)×Int)=>[(0,.pr 2 0 []),(2,.pr 144 0 []),(3,.pr 784 0 []),(4,.i .i64 p.2),(5,B4 4000 32 eI p.1)]) (fun(p:(List By)×Int)=>[(2,wN (.pr 4 0 [.e i0 38 n]) o m),(3,sN 4 5 6 s),(5,rR s),(6,rL s),(4,fN n tg i0 (tN 7 16 80 t)),(7,rB t),(16,E1 t),(80,rD t),(144,A1 [.i .i64 0,.bl 1 []]),(784,f7 sm0),(8,.un),(9,.un)]) (fun(p:(List By)×Int)=>p.1.length<=t.nb) [4,5,6,7,16,80,4000] (fun R hR i hi=>?_) ?_
 ·revert i hi;refine f2 ?_ ?_<;>repeat' (first|(refine kH (e:=eE) [(2,2),(3,3),(4,4),(5,5),(6,6),(7,7),(16,8),(80,9)] [2,3,4,5,6,7,16,80] (CB s o t m n tg i0 bc) ?_;rintro out ho A0 ⟨rfl,rfl,rfl⟩)|(refine kM (e:=eE) (fun _=>hm rfl) [] (Vs t.nb t.gb sm0.root zO hB.db) ?_;rintro out ho A0 ⟨cl2,ce2,rfl,rfl,hcl2,rfl⟩)|exact cA hX (hR (cl2,ce2) (by assumption)))
 rintro⟨cl,ce⟩ hI
 dsimp only at hI
 refine cB (ce=15) (fun h2=>?_) fun h2=>?_
 ·refine cK [] (E6 409) ?_
  rintro out A0 ⟨rfl,rfl⟩
  exact xW hX (A1 [.i .i64 409,.bl 0 []]) ⟨_,_,⟨t.name,t.key,t.quota,t.next,t.nb,t.gb,t.ns,t.gs,t.nd,t.gd⟩,rfl,rfl,rfl,.rfl,.inr rfl,bd⟩ (hH:=⟨v0,v0,v0,v0,v0,v0,v0,v0,(vT (u:=E1 t) (.rfl _)),(vT (u:=rD t) (.rfl _)),zT⟩)
 refine cB (ce≠0) (fun h3=>?_) fun h3=>?_
 ·refine cK [] (E6 400) ?_
  rintro out A0 ⟨rfl,rfl⟩
  exact xW hX (A1 [.i .i64 400,.bl 0 []]) ⟨_,_,⟨t.name,t.key,t.quota,t.next,t.nb,t.gb,t.ns,t.gs,t.nd,t.gd⟩,rfl,rfl,rfl,.rfl,.inr rfl,bd⟩ (hH:=⟨v0,v0,v0,v0,v0,v0,v0,v0,(vT (u:=E1 t) (.rfl _)),(vT (u:=rD t) (.rfl _)),zT⟩)
 refine L5 (SatM.weak (ins':=[fE s o m n tg i0 t,.i .i64 (o.body.length:Int)]) (YC s o t m (o.body.length:Int) bd bd hs) ⟨kW,VA.rfl,zT⟩) ?_
 rintro out A0 ⟨rfl,⟨rp5,rfl⟩⟩
 refine⟨rfl,?_⟩
 refine cn (rp5) (fun h4=>?_) fun h4=>?_
 ·refine cK [] (E6 507) ?_
  rintro out A0 ⟨rfl,rfl⟩
  exact xW hX (A1 [.i .i64 507,.bl 0 []]) ⟨_,_,⟨t.name,t.key,t.quota,t.next,t.nb,t.gb,t.ns,t.gs,t.nd,t.gd⟩,rfl,rfl,rfl,.rfl,.inr rfl,bd⟩ (hH:=⟨v0,v0,v0,v0,v0,v0,v0,v0,(vT (u:=E1 t) (.rfl _)),(vT (u:=rD t) (.rfl _)),zT⟩)
 refine cC (i0=i0) ?_
 refine cB (256<=(t.ns:Int)) (fun h5=>?_) fun h5=>?_
 ·refine cK [] (E6 507) ?_
  rintro out A0 ⟨rfl,rfl⟩
  exact xW hX (A1 [.i .i64 507,.bl 0 []]) ⟨_,_,⟨t.name,t.key,t.quota,t.next,t.nb,t.gb,t.ns,t.gs,t.nd,t.gd⟩,rfl,rfl,rfl,.rfl,.inr rfl,bd⟩ (hH:=⟨v0,v0,v0,v0,v0,v0,v0,v0,(vT (u:=E1 t) (.rfl _)),(vT (u:=rD t) (.rfl _)),zT⟩)
 refine cC (i0=i0) ?_
 refine cB (t.next=9223372036854775807) (fun h6=>?_) fun h6=>?_
 ·refine cK [] (E6 507) ?_
  rintro out A0 ⟨rfl,rfl⟩
  exact xW hX (A1 [.i .i64 507,.bl 0 []]) ⟨_,_,⟨t.name,t.key,t.quota,t.next,t.nb,t.gb,t.ns,t.gs,t.nd,t.gd⟩,rfl,rfl,rfl,.rfl,.inr rfl,bd⟩ (hH:=⟨v0,v0,v0,v0,v0,v0,v0,v0,(vT (u:=E1 t) (.rfl _)),(vT (u:=rD t) (.rfl _)),zT⟩)
 refine cC (i0=i0) ?_
 refine cC (i0=i0) ?_;refine cC (i0=i0) ?_;refine cC (i0=i0) ?_;refine cC ((t.ns+1)*72<=140737488355328) ?_;refine cC (i0=i0) ?_;refine cM hX (fun(p:Nat×Nat×(Nat->Doo))=>[(0,.pr 2 0 []),(2,.pr 144 0 []),(6,.i .i64 t.next),(104,B4 4000 32 eI cl),(105,.i .i64 (cl.length:Int)),(106,.i .i64 (p.1:Int))]) (fun(p:Nat×Nat×(Nat->Doo))=>[(2,wN (.pr 4 0 [.e i0 38 n]) o m),(3,sN 4 5 6 s),(5,rR s),(6,rL s),(4,fN n tg i0 (A1 [.s t.name,.bs 32 t.key,.i .i64 t.quota,.i .i64 (i64.wrap (t.next+1)),.os 7 33,.os 9872 36,.os 80 33])),(7,rB t),(80,.ar 33 p.2.1 fun i=>D7 (p.2.2 i)),(9872,.ar 36 (t.ns+1) fun i=>C8 (J8 t.ns t.gs ⟨t.next,sm0,0⟩ i)),(144,A1 [.i .i64 0,.bl 1 []])]) (fun(p:Nat×Nat×(Nat->Doo))=>p.1<=cl.length/\p.2.1<=t.nd/\(AscK Doo.of t.nd t.gd->AscK Doo.of p.2.1 p.2.2)) (fun(p:Nat×Nat×(Nat->Doo))=>cl.length-p.1) [4,5,6,4000] 10320 (0,t.nd,t.gd) ⟨by simp,by simp,id⟩ ?_ (hH:=⟨v0,v0,v0,v0,v0,v0,v0,(vT jO),v0,zT⟩);rintro⟨k,d,g⟩ hI R hR
 dsimp only at hI
 refine cB ((k:Int)<(cl.length:Int)) (fun h7=>?_) fun h7=>?_
 ·refine cC ((0:Int)<=(k:Int)/\(k:Int)<(cl.length:Int)) ?_
  refine kH [(2,2),(3,3),(4,4),(5,5),(6,6),(7,7),(9872,8),(80,9)] [2,3,4,5,6,7,9872,80] (OE s o (⟨t.name,t.key,t.quota,(i64.wrap (t.next+1)),t.nb,t.gb,(t.ns+1),(fun i=>(J8 t.ns t.gs ⟨t.next,sm0,0⟩ i)),d,g⟩) m n tg i0 (cl.getD k default) bc) ?_;rintro out ho A0 ⟨sd6,sg6,rfl,rfl,hsd6,hsa6⟩
  try dsimp only at hsd6 hsa6
  exact cA hX (hR (k+1,sd6,sg6) ⟨bd,bd,fun h=>hsa6 (hI.2.2 h)⟩ (by dsimp only;omega)) (hS:=⟨v0,v0,v0,v0,v0,(vS bd),zT⟩)
 refine cK [] (yF 201 t.next) ?_
 rintro out A0 ⟨nb7,rfl,rfl,hnb7⟩
 exact xW hX (A1 [.i .i64 201,.bl 0 nb7]) ⟨_,_,⟨t.name,t.key,t.quota,(i64.wrap (t.next+1)),t.nb,t.gb,(t.ns+1),(fun i=>(J8 t.ns t.gs ⟨t.next,sm0,0⟩ i)),d,g⟩,rfl,rfl,rfl,.of (.inr rfl) (fun h=>⟨h.nb,by dsimp only;omega,by dsimp only;omega,h.db,fun j hj=>uK (p:=fun x:Snp=>x.mani.label.length<=5000) h.ls (by dsimp only;omega) j hj,hI.2.2 h.asc⟩) (.mk1 rfl (fun j h=>⟨j,Nat.lt_succ_of_lt h,congrArg Snp.number (NH h)⟩) fun j h=>⟨j,h,rfl⟩),.inl rfl,bd⟩ (hH:=⟨v0,v0,v0,v0,v0,v0,v0,v0,(vT (u:=.ar 36 (t.ns+1) fun i=>C8 (J8 t.ns t.gs ⟨t.next,sm0,0⟩ i)) (.rfl _)),(vT (u:=.ar 33 d fun i=>D7 (g i)) (.rfl _)),zT⟩)
theorem Aj{g:Nat->Snp}{a:Int}{m:Mani}{c:Int}:VEn (A1 [.i .i64 a,f7 m,.i .i64 c]).strip (C8 (F7 g i ⟨a,m,c⟩ i)):=by
 rw[show F7 g i ⟨a,m,c⟩ i=⟨a,m,c⟩ by unfold F7;rw[P7];rfl];exact kX
theorem Ak{g:Nat->Snp}{m:Mani}{c:Int}:(F7 g i ⟨(g i).number,m,c⟩ j).number=(g j).number:=by
 by_cases h:j=i
 ·subst h;rw[NI]
 rw[NJ h]
theorem OF{l:List α}{k:Nat}{d:α}(h:k<l.length):l.getD k d∈l:=by rw[j9,B6 h];exact dY h
theorem aF{e:α->V}{g:Nat->α}{x:α}:∀j,j≠i->e (F7 g i x j)=e (g j):=fun j h=>by unfold F7;rw[GH h];rfl
theorem Wq(s:StaR)(o:OpT)(t:TenR)(m:Int)(n:Nat)(tg:Nat->TenR)(i0:Nat)(hB:TB t)(hO:OB o):SatHM Tryz.prog true 77 [.pr 2 0 []] [4,5,6,7,8,9] (o9 s o m n tg i0 t) (fun out ho A0=>∃c b t2,out=A1 [.i .i64 c,.bl 0 b]/\ho=hA s o m n tg i0 (tN 7 16 9 t2) [(7,rB t2),(8,.un),(9,rD t2),(16,E1 t2)]/\A0=[4,5,6]/\MP false o t t2 c/\(c=200\/b=[])/\b.length<=3000000000/\(o.do≠7->o.do≠8->t2=t)):=by
 refine fH true Tryz.func77 fun X0 w0 hX hm=>?_
 have hb:=hO.hb
 have N6:=hB.nb
 have S2:=hB.ns
 have x8:=hB.nd
 have hs:=hB.ls
 refine mV 8 ?_;refine cC (i0=i0) ?_;refine L5 (SatM.weak (ins':=[.sl 0 36 t.ns fun i=>C8 (t.gs i),mS 123 [.pz (fE s o m n tg i0 t)]]) (Ss t.ns t.gs bd s o t m) ⟨VA.rfl,(VA.fn1 (VA.pz Wh)),zT⟩) ?_;rintro out A0 ⟨rfl,⟨E3,rfl,hij0,hik0⟩⟩
 refine⟨rfl,?_⟩
 refine cB (E3<0) (fun h1=>?_) fun h1=>?_
 ·refine cK [] (E6 404) ?_
  rintro out A0 ⟨rfl,rfl⟩
  exact xW hX (A1 [.i .i64 404,.bl 0 []]) ⟨_,_,⟨t.name,t.key,t.quota,t.next,t.nb,t.gb,t.ns,t.gs,t.nd,t.gd⟩,rfl,rfl,rfl,.rfl,.inr rfl,bd,by first|exact fun _ _=>rfl|(intro _ _;contradiction)⟩ (hH:=⟨v0,v0,v0,v0,v0,v0,v0,v0,(vT (u:=E1 t) (.rfl _)),zT⟩)
 have hl:=hs (E3).toNat zO
 refine cC (i0=i0) ?_;refine cC ((0:Int)<=E3/\E3<(t.ns:Int)) ?_;refine gR 16 (E1 t) (.fo 36 (E1 t) ((E3).toNat) (C8 (t.gs (E3).toNat))) (aA zO rfl) ?_;refine cB (o.do=5) (fun h2=>?_) fun h2=>?_
 ·refine cC ((E3).toNat=(E3).toNat) ?_
  refine cK [] (WX ((t.gs (E3).toNat).mani) bd) ?_;rintro out A0 ⟨sb1,se1,rfl,rfl,hsb1⟩
  refine cK [] (kV sb1) ?_;rintro out A0 ⟨rfl,rfl⟩
  refine gR 16 (.fo 36 (E1 t) ((E3).toNat) (C8 (t.gs (E3).toNat))) (E1 t) (T7 kX (fun _ _=>rfl) rfl) ?_;exact xW hX (A1 [.i .i64 200,.bl 0 sb1]) ⟨_,_,⟨t.name,t.key,t.quota,t.next,t.nb,t.gb,t.ns,t.gs,t.nd,t.gd⟩,rfl,rfl,rfl,.rfl,.inl rfl,bd,by first|exact fun _ _=>rfl|(intro _ _;contradiction)⟩ (hH:=⟨v0,v0,v0,v0,v0,v0,v0,v0,(vT (u:=E1 t) (.rfl _)),zT⟩)
 refine cB (o.do=7) (fun h3=>?_) fun h3=>?_
 ·refine cC ((E3).toNat=(E3).toNat) ?_
  refine cB ((t.gs (E3).toNat).doom=0) (fun h4=>?_) fun h4=>?_
  ·refine gR 16 (.fo 36 (E1 t) ((E3).toNat) (C8 (t.gs (E3).toNat))) (E1 t) (T7 kX (fun _ _=>rfl) rfl) ?_
   refine L5 (SatM.weak (ins':=[fE s o m n tg i0 t]) (NM s o t m) ⟨kW,zT⟩) ?_;rintro out A0 ⟨rfl,rfl⟩
   refine⟨rfl,?_⟩
   refine gR 16 (E1 t) (.fo 36 (E1 t) ((E3).toNat) (C8 (t.gs (E3).toNat))) (aA zO rfl) ?_;refine cC ((E3).toNat=(E3).toNat) ?_;refine cC ((E3).toNat=(E3).toNat) ?_;refine cK [] (yF 200 (fD s.delay o.now)) ?_;rintro out A0 ⟨nb2,rfl,rfl,hnb2⟩
   refine gR 16 (.fo 36 (E1 t) ((E3).toNat) (A1 [.i .i64 ((t.gs (E3).toNat).number),f7 ((t.gs (E3).toNat).mani),.i .i64 (fD s.delay o.now)])) (.ar 36 t.ns fun i=>C8 (F7 t.gs (E3).toNat ⟨(t.gs (E3).toNat).number,((t.gs (E3).toNat).mani),(fD s.delay o.now)⟩ i)) (T7 Aj aF rfl) ?_;exact xW hX (A1 [.i .i64 200,.bl 0 nb2]) ⟨_,_,⟨t.name,t.key,t.quota,t.next,t.nb,t.gb,t.ns,(fun i=>(F7 t.gs (E3).toNat ⟨(t.gs (E3).toNat).number,((t.gs (E3).toNat).mani),(fD s.delay o.now)⟩ i)),t.nd,t.gd⟩,rfl,rfl,rfl,.of (.inl rfl) (fun h=>⟨h.nb,h.ns,h.nd,h.db,fun j hj=>Ah (p:=fun x:Snp=>x.mani.label.length<=5000) h.ls (by exact hl) j hj,h.asc⟩) (.mk1 rfl (fun j h=>⟨j,h,Ak⟩) fun j h=>⟨j,h,rfl⟩),.inl rfl,bd,by first|exact fun _ _=>rfl|(intro _ _;contradiction)⟩ (hH:=⟨v0,v0,v0,v0,v0,v0,v0,v0,(vT (u:=.ar 36 t.ns fun i=>C8 (F7 t.gs (E3).toNat ⟨(t.gs (E3).toNat).number,((t.gs (E3).toNat).mani),(fD s.delay o.now)⟩ i)) (.rfl _)),zT⟩)
  refine cC ((E3).toNat=(E3).toNat) ?_
  refine cK [] (yF 200 ((t.gs (E3).toNat).doom)) ?_;rintro out A0 ⟨nb3,rfl,rfl,hnb3⟩
  refine gR 16 (.fo 36 (E1 t) ((E3).toNat) (C8 (t.gs (E3).toNat))) (E1 t) (T7 kX (fun _ _=>rfl) rfl) ?_;exact xW hX (A1 [.i .i64 200,.bl 0 nb3]) ⟨_,_,⟨t.name,t.key,t.quota,t.next,t.nb,t.gb,t.ns,t.gs,t.nd,t.gd⟩,rfl,rfl,rfl,.rfl,.inl rfl,bd,by first|exact fun _ _=>rfl|(intro _ _;contradiction)⟩ (hH:=⟨v0,v0,v0,v0,v0,v0,v0,v0,(vT (u:=E1 t) (.rfl _)),zT⟩)
 refine cB (o.do=8) (fun h5=>?_) fun h5=>?_
 ·refine cC ((E3).toNat=(E3).toNat) ?_
  refine cK [] (E6 200) ?_;rintro out A0 ⟨rfl,rfl⟩
  refine gR 16 (.fo 36 (E1 t) ((E3).toNat) (A1 [.i .i64 ((t.gs (E3).toNat).number),f7 ((t.gs (E3).toNat).mani),.i .i64 0])) (.ar 36 t.ns fun i=>C8 (F7 t.gs (E3).toNat ⟨(t.gs (E3).toNat).number,((t.gs (E3).toNat).mani),0⟩ i)) (T7 Aj aF rfl) ?_;exact xW hX (A1 [.i .i64 200,.bl 0 []]) ⟨_,_,⟨t.name,t.key,t.quota,t.next,t.nb,t.gb,t.ns,(fun i=>(F7 t.gs (E3).toNat ⟨(t.gs (E3).toNat).number,((t.gs (E3).toNat).mani),0⟩ i)),t.nd,t.gd⟩,rfl,rfl,rfl,.of (.inl rfl) (fun h=>⟨h.nb,h.ns,h.nd,h.db,fun j hj=>Ah (p:=fun x:Snp=>x.mani.label.length<=5000) h.ls (by exact hl) j hj,h.asc⟩) (.mk1 rfl (fun j h=>⟨j,h,Ak⟩) fun j h=>⟨j,h,rfl⟩),.inl rfl,bd,by first|exact fun _ _=>rfl|(intro _ _;contradiction)⟩ (hH:=⟨v0,v0,v0,v0,v0,v0,v0,v0,(vT (u:=.ar 36 t.ns fun i=>C8 (F7 t.gs (E3).toNat ⟨(t.gs (E3).toNat).number,((t.gs (E3).toNat).mani),0⟩ i)) (.rfl _)),zT⟩)
 refine gR 16 (.fo 36 (E1 t) ((E3).toNat) (C8 (t.gs (E3).toNat))) (E1 t) (T7 kX (fun _ _=>rfl) rfl) ?_
 refine jA 2 6736 (fun(p:(List Fil)×Int)=>[(2,.pr 144 0 []),(7,B4 4000 3 O7 p.1),(8,.i .i64 p.2)]) (fun(p:(List Fil)×Int)=>[(144,A1 [.i .i64 0,.bl 1 []]),(2,wN (.pr 4 0 [.e i0 38 n]) o m),(3,sN 4 5 6 s),(5,rR s),(6,rL s),(4,fN n tg i0 (tN 7 16 9 t)),(7,rB t),(9,rD t),(16,E1 t),(8,.un)]) (fun(p:(List Fil)×Int)=>p.1.length<=1024/\FOk p.1) [4,5,6,7,9,16,4000] (fun R hR i hi=>?_) ?_
 ·match i,hi with
 |0,_=>
   refine kH [(2,2),(3,3),(4,4),(5,5),(6,6),(7,7),(16,8),(9,9)] [2,3,4,5,6,7,16,9] (CB s o t m n tg i0 bc) ?_;rintro out ho A0 ⟨rfl,rfl,rfl⟩
   refine gR 16 (E1 t) (.fo 36 (E1 t) ((E3).toNat) (C8 (t.gs (E3).toNat))) (aA zO rfl) ?_;refine cC ((E3).toNat=(E3).toNat) ?_;refine gR 16 (.fo 36 (E1 t) ((E3).toNat) (C8 (t.gs (E3).toNat))) (E1 t) (T7 kX (fun _ _=>rfl) rfl) ?_;refine kM (fun _=>hm rfl) [] (ZX t.nb t.gb (((t.gs (E3).toNat).mani).root) zO hB.db) ?_;rintro out ho A0 ⟨fl5,fe5,rfl,rfl,hfl5,hfk5,rfl⟩
   exact cA hX (hR (fl5,fe5) ⟨by assumption,by assumption⟩)
 |1,_=>
   refine gR 16 (E1 t) (.fo 36 (E1 t) ((E3).toNat) (C8 (t.gs (E3).toNat))) (aA zO rfl) ?_;refine cC ((E3).toNat=(E3).toNat) ?_;refine gR 16 (.fo 36 (E1 t) ((E3).toNat) (C8 (t.gs (E3).toNat))) (E1 t) (T7 kX (fun _ _=>rfl) rfl) ?_;refine kH [(2,2),(3,3),(4,4),(5,5),(6,6),(7,7),(16,8),(9,9)] [2,3,4,5,6,7,16,9] (CB s o t m n tg i0 bc) ?_;rintro out ho A0 ⟨rfl,rfl,rfl⟩
   refine kM (fun _=>hm rfl) [] (ZX t.nb t.gb (((t.gs (E3).toNat).mani).root) zO hB.db) ?_;rintro out ho A0 ⟨fl7,fe7,rfl,rfl,hfl7,hfk7,rfl⟩
   exact cA hX (hR (fl7,fe7) ⟨by assumption,by assumption⟩)
 rintro⟨fl,fe⟩ hI
 dsimp only at hI
 have bV:=hI.2
 have dD:=hI.1
 refine cK [] ((VE [] (u64.wrap (fl.length:Int)) bd).full (ins':=[.bl 1 [],.i .u64 (u64.wrap (fl.length:Int))])) ?_;rintro out A0 ⟨l8,rfl,rfl,hl8⟩
 refine cM hX (fun(p:Nat×By)=>[(2,.pr 144 0 []),(9,.bl 24 p.2),(89,B4 4000 3 O7 fl),(90,.i .i64 (fl.length:Int)),(91,.i .i64 (p.1:Int))]) (fun(p:Nat×By)=>[(144,A1 [.i .i64 0,.bl 1 []]),(2,wN (.pr 4 0 [.e i0 38 n]) o m),(3,sN 4 5 6 s),(5,rR s),(6,rL s),(4,fN n tg i0 (tN 7 16 9 t)),(7,rB t),(9,rD t),(16,E1 t)]) (fun(p:Nat×By)=>p.1<=fl.length/\p.2.length<=20+1300000*p.1) (fun(p:Nat×By)=>fl.length-p.1) [4,5,6,7,9,16,24,4000] 7248 (0,l8) ⟨by simp,bd⟩ ?_;rintro⟨k,b⟩ hI R hR
 dsimp only at hI
 refine cB ((k:Int)<(fl.length:Int)) (fun h6=>?_) fun h6=>?_
 ·have hk:=bV _ (OF (d:=default) (by omega:k<fl.length))
  refine cC ((0:Int)<=(k:Int)/\(k:Int)<(fl.length:Int)) ?_;refine cb ((fl.getD k default).dir) (fun h7=>?_) fun h7=>?_
  ·refine cC ((b.length+[1].length)*1<=140737488355328) ?_ bd
   refine cK [] (tV (b++[1]) ((fl.getD k default).path) bd bd) ?_;rintro out A0 ⟨xl9,xe9,rfl,rfl,hx9,hy9⟩
   refine cK [] (tV xl9 ((fl.getD k default).data) bd bd) ?_;rintro out A0 ⟨xl10,xe10,rfl,rfl,hx10,hy10⟩
   exact cA hX (hR (k+1,xl10) ⟨bd,bd⟩ (by dsimp only;omega)) (hS:=⟨v0,v0,v0,v0,(vS bd),zT⟩)
  refine cC ((b.length+[0].length)*1<=140737488355328) ?_ bd
  refine cK [] (tV (b++[0]) ((fl.getD k default).path) bd bd) ?_;rintro out A0 ⟨xl11,xe11,rfl,rfl,hx11,hy11⟩
  refine cK [] (tV xl11 ((fl.getD k default).data) bd bd) ?_;rintro out A0 ⟨xl12,xe12,rfl,rfl,hx12,hy12⟩
  exact cA hX (hR (k+1,xl12) ⟨bd,bd⟩ (by dsimp only;omega)) (hS:=⟨v0,v0,v0,v0,(vS bd),zT⟩)
 refine cK [] (kV b) ?_
 rintro out A0 ⟨rfl,rfl⟩
 exact xW hX (A1 [.i .i64 200,.bl 0 b]) ⟨_,_,⟨t.name,t.key,t.quota,t.next,t.nb,t.gb,t.ns,t.gs,t.nd,t.gd⟩,rfl,rfl,rfl,.rfl,.inl rfl,bd,by first|exact fun _ _=>rfl|(intro _ _;contradiction)⟩ (hH:=⟨v0,v0,v0,v0,v0,v0,v0,v0,(vT (u:=E1 t) (.rfl _)),zT⟩)
structure SnI (t:TenR) (now:Int) (k c a:Nat) (g:Nat->Snp):Prop where
 ak:a<=k
 ls:∀j,j<a->(g j).mani.label.length<=5000
 c4:c<=4
 hs:∀j,j<k->(∃q,q<a/\g q=t.gs j)\/((t.gs j).doom≠0/\(t.gs j).doom<=now)
 ct:∀f:Snp->Bool,K1 (fun j=>f (t.gs j)) k<=K1 (fun j=>f (g j)) a+c
theorem SnI.z{t:TenR}{g:Nat->Snp}:SnI t now 0 0 0 g:=⟨B3 _,fun j h=>absurd h (U2 _),by decide,fun j h=>absurd h (U2 _),fun f=>B3 _⟩
theorem SnI.gone{t:TenR}{k a:Nat}{g:Nat->Snp}(h:SnI t now k c a g)(hc:c<4)(h1:(t.gs k).doom≠0)(h2:(t.gs k).doom<=now):SnI t now (k+1) (c+1) a g:=⟨by have:=h.ak;omega,h.ls,hc,fun j hj=>by
 by_cases e:j=k
 ·subst e;exact .inr ⟨h1,h2⟩
 exact h.hs j zO,fun f=>by
 have:=h.ct f
 rw[K1]
 cases f (t.gs k)<;>simp only[cond_true,cond_false]<;>omega⟩
theorem SnI.stay{t:TenR}{k a:Nat}{g:Nat->Snp}(h:SnI t now k c a g)(hl:(t.gs k).mani.label.length<=5000):SnI t now (k+1) c (a+1) (J8 a g (t.gs k)):=⟨by have:=h.ak;omega,uK (p:=fun x:Snp=>x.mani.label.length<=5000) h.ls hl,h.c4,fun j hj=>by
 by_cases e:j=k
 ·subst e;exact .inl ⟨a,zO,XR⟩
 exact(h.hs j zO).imp (fun⟨q,h1,h2⟩=>⟨q,zO,by rw[NH h1];exact h2⟩) id,fun f=>by
 have:=h.ct f
 rw[K1,K1,GX (n:=a) (f':=fun j=>f (g j)) fun j hj=>by rw[NH hj],XR]
 omega⟩
structure BlI (t:TenR) (now:Int) (c e b:Nat) (gb:Nat->Obj) (d:Nat) (gd:Nat->Doo):Prop where
 bb:b<=t.nb
 dd:d<=t.nd
 e4:e<=4
 ce:c<=e
 db:∀j,j<b->(gb j).data.length<=100000
 asc:AscK Doo.of d gd
 hs:∀j,j<t.nb->(∃q,q<b/\gb q=t.gb j)\/∃q,q<t.nd/\(t.gd q).of=(t.gb j).of/\(t.gd q).doom<=now
 ct:∀f:Obj->Bool,K1 (fun j=>f (t.gb j)) t.nb<=K1 (fun j=>f (gb j)) b+(e-c)
theorem BlI.z{t:TenR}(h:TB t)(hc:c<=4):BlI t now c c t.nb t.gb t.nd t.gd:=⟨B3 _,B3 _,hc,B3 _,h.db,h.asc,fun j hj=>.inl ⟨j,hj,rfl⟩,fun f=>Nat.le_add_right _ _⟩
theorem BlI.sp{t:TenR}{e b d d2:Nat}{gb:Nat->Obj}{gd gd2:Nat->Doo}(h:BlI t now c e b gb d gd)(hd:d2<=d)(ha:AscK Doo.of d gd->AscK Doo.of d2 gd2):BlI t now c e b gb d2 gd2:=⟨h.bb,L6 hd h.dd,h.e4,h.ce,h.db,ha h.asc,h.hs,h.ct⟩
theorem BlI.up{t:TenR}{e b d:Nat}{gb:Nat->Obj}{gd:Nat->Doo}(h:BlI t now c e b gb d gd)(he:e<4):BlI t now c (e+1) b gb d gd:=⟨h.bb,h.dd,he,by have:=h.ce;omega,h.db,h.asc,h.hs,fun f=>L6 (h.ct f) zO⟩
theorem BlI.del{t:TenR}{e b d:Nat}{gb:Nat->Obj}{gd:Nat->Doo}(h:BlI t now c e b gb d gd)(he:e<4)(hj:j<b)(hx:(gb j).of=(t.gd i).of)(hi:i<t.nd)(hn:(t.gd i).doom<=now):BlI t now c (e+1) (b-1) (aC gb j) d gd:=⟨by have:=h.bb;omega,h.dd,he,by have:=h.ce;omega,Wi (p:=fun x:Obj=>x.data.length<=100000) h.db,h.asc,fun k hk=>by
 rcases h.hs k hk with⟨q,q1,q2⟩|q
 ·by_cases e:q=j
  ·subst e;exact .inr ⟨i,hi,by rw[<-hx,q2],hn⟩
  obtain⟨z,z1,z2⟩:=Sk (g:=gb) hj q1 e
  exact .inl ⟨z,z1,z2.trans q2⟩
 exact .inr q,fun f=>by
 have h1:=h.ct f
 have h2:=XS (f:=fun q=>f (gb q)) hj
 have h3:=h.ce
 rw[GX (n:=b-1) (f':=aC (fun q=>f (gb q)) j) fun q hq=>by by_cases z:q<j;rw[uB z,uB z];rw[yI zO,yI zO]]
 omega⟩
theorem Kp.swp{t:TenR}{e a b d:Nat}{g:Nat->Snp}{gb:Nat->Obj}{gd:Nat->Doo}(hs:SnI t now t.ns c a g)(hb:BlI t now c e b gb d gd):Kp true now t ⟨t.name,t.key,t.quota,t.next,b,gb,a,g,d,gd⟩:=
 ⟨Eq.refl _,fun j hj=>(hs.hs j hj).imp (fun⟨q,h1,h2⟩=>⟨q,h1,by rw[<-h2]⟩) fun h=>⟨Eq.refl _,h⟩,fun j hj=>(hb.hs j hj).imp (fun⟨q,h1,h2⟩=>⟨q,h1,by rw[<-h2]⟩) fun h=>⟨Eq.refl _,h⟩,fun _=>⟨c,e-c,by have:=hb.ce;have:=hb.e4;omega,hs.ct,hb.ct⟩⟩
theorem TB.swp{t:TenR}{e a b d:Nat}{g:Nat->Snp}{gb:Nat->Obj}{gd:Nat->Doo}(hs:SnI t now t.ns c a g)(hb:BlI t now c e b gb d gd)(h:TB t):TB ⟨t.name,t.key,t.quota,t.next,b,gb,a,g,d,gd⟩:=
 ⟨L6 hb.bb h.nb,L6 hs.ak h.ns,L6 hb.dd h.nd,hb.db,hs.ls,hb.asc⟩
theorem AscK.insB{n:Nat}{g:Nat->Doo}{x:By}{q:Int}{p:Bool}(h:AscK Doo.of n g)(hb:BsP n (fun k=>Lib.compareBytes (g k).of x) j p)(hp:p=false):AscK Doo.of (n+1) (f9 g j ⟨x,q⟩):=by
 subst hp
 exact h.ins (x:=⟨x,q⟩) hb.le (h.at hb).1 (h.at hb).2
theorem Wr{z:Nat}{e:α->V}{g:Nat->α}{g':Nat->V}:VEq (.ar z 0 g') (.ar z 0 fun k=>e (g k)):=.an _ _ _ _ fun k hk=>absurd hk (U2 k)
theorem Ws(s:StaR)(o:OpT)(t:TenR)(m:Int)(n:Nat)(tg:Nat->TenR)(i0:Nat)(hB:TB t)(hO:OB o):SatHM Tryz.prog false 84 [.pr 2 0 []] [4,5,6,7,8,9] (o9 s o m n tg i0 t) (fun out ho A0=>∃c b t2,out=A1 [.i .i64 c,.bl 0 b]/\ho=hA s o m n tg i0 (tN 7 8 16 t2) [(7,rB t2),(8,E1 t2),(9,.un),(16,rD t2)]/\A0=[4,5,6]/\MP false o t t2 c/\c=200/\b.length<=21):=by
 refine fH false Tryz.func84 fun X0 w0 hX hm=>?_
 have hb:=hO.hb
 have N6:=hB.nb
 have S2:=hB.ns
 have x8:=hB.nd
 have hs:=hB.ls
 refine mV 9 ?_;refine kH [(2,2),(3,3),(4,4),(5,5),(6,6),(7,7),(8,8),(16,9)] [2,3,4,5,6,7,8,16] (CB s o t m n tg i0 bc) ?_;rintro out ho A0 ⟨rfl,rfl,rfl⟩
 refine kH [(2,2),(3,3),(4,4),(5,5),(6,6),(7,7),(8,8),(16,9)] [2,3,4,5,6,7,8,16] (Ai s o t m n tg i0 bc) ?_;rintro out ho A0 ⟨rfl,rfl,rfl⟩
 refine cK [] (Vz t.nb t.ns t.gb (fun i=>(t.gs i).mani.root) bd bd hB.db) ?_;rintro out A0 ⟨rl,rfl,rfl,qX,hrk⟩
 refine cM hX (fun(p:Nat×Nat×(Nat->Doo)×Int)=>[(0,.pr 2 0 []),(2,.pr 80 0 []),(3,.i .i64 p.2.2.2),(12,B4 466 32 eI rl),(13,.i .i64 (rl.length:Int)),(14,.i .i64 (p.1:Int))]) (fun(p:Nat×Nat×(Nat->Doo)×Int)=>[(2,wN (.pr 4 0 [.e i0 38 n]) o m),(3,sN 4 5 6 s),(5,rR s),(6,rL s),(4,fN n tg i0 (tN 7 8 16 t)),(7,rB t),(8,E1 t),(16,.ar 33 p.2.1 fun i=>D7 (p.2.2.1 i)),(80,A1 [.i .i64 0,.bl 1 []])]) (fun(p:Nat×Nat×(Nat->Doo)×Int)=>p.1<=rl.length/\p.2.1<=65536/\(AscK Doo.of t.nd t.gd->AscK Doo.of p.2.1 p.2.2.1)) (fun(p:Nat×Nat×(Nat->Doo)×Int)=>rl.length-p.1) [4,5,6,7,8,16,466] 656 (0,t.nd,t.gd,0) ⟨by simp,x8,id⟩ ?_;rintro⟨k,d,g,c⟩ hI R hR
 dsimp only at hI
 refine cB ((k:Int)<(rl.length:Int)) (fun h1=>?_) fun h1=>?_
 ·refine cC ((0:Int)<=(k:Int)/\(k:Int)<(rl.length:Int)) ?_
  refine L5 (SatM.weak (ins':=[fE s o m n tg i0 (⟨t.name,t.key,t.quota,t.next,t.nb,t.gb,t.ns,t.gs,d,g⟩),.bs 32 (rl.getD k default)]) (YA s o (⟨t.name,t.key,t.quota,t.next,t.nb,t.gb,t.ns,t.gs,d,g⟩) m (rl.getD k default) bd) ⟨kW,VA.rfl,zT⟩) ?_;rintro out A0 ⟨rfl,⟨bj3,bp3,rfl,hbj3,hbp3⟩⟩
  dsimp only at hbj3 hbp3
  refine⟨rfl,?_⟩
  refine cb (bp3) (fun h2=>?_) fun h2=>?_
  ·exact cA hX (hR (k+1,d,g,c) ⟨bd,by dsimp only;omega,hI.2.2⟩ (by dsimp only;omega)) (hS:=⟨v0,v0,v0,v0,v0,(vS bd),zT⟩)
  refine cC (i0=i0) ?_
  refine cB (64<=(d:Int)) (fun h3=>?_) fun h3=>?_
  ·exact cA (R:=R) hX (hR (k+1,d,g,c) ⟨bd,by dsimp only;omega,hI.2.2⟩ (by dsimp only;omega)) (hS:=⟨v0,v0,v0,v0,v0,(vS bd),zT⟩) (hH:=⟨v0,v0,v0,v0,v0,v0,v0,v0,v0,zT⟩)
  refine cC (i0=i0) ?_
  refine jA 2 7696 (fun(u:Unit)=>[(0,.pr 2 0 []),(2,.pr 80 0 []),(3,.i .i64 c),(12,B4 466 32 eI rl),(13,.i .i64 (rl.length:Int)),(14,.i .i64 (k:Int))]) (fun(u:Unit)=>[(2,wN (.pr 4 0 [.e i0 38 n]) o m),(3,sN 4 5 6 s),(5,rR s),(6,rL s),(4,fN n tg i0 (tN 7 8 3360 t)),(7,rB t),(8,E1 t),(3360,.ar 33 (d+1) fun i=>T9 (fun i=>D7 (g i)) bj3 (A1 [.bs 32 (rl.getD k default),.i .i64 (fD s.delay o.now)]) i),(80,A1 [.i .i64 0,.bl 1 []]),(9,.un)]) (fun(u:Unit)=>True) [4,5,6,7,8,466,3360] (fun R hR i hi=>?_) ?_
  ·match i,hi with
  |0,_=>
    refine L5 (SatM.weak (ins':=[fE s o m n tg i0 (⟨t.name,t.key,t.quota,t.next,t.nb,t.gb,t.ns,t.gs,d,g⟩)]) (NM s o (⟨t.name,t.key,t.quota,t.next,t.nb,t.gb,t.ns,t.gs,d,g⟩) m) ⟨kW,zT⟩) ?_;rintro out A0 ⟨rfl,rfl⟩
    refine⟨rfl,?_⟩
    refine kH [(16,2)] [16] (NR d bj3 (fun i=>D7 (g i)) (A1 [.bs 32 (rl.getD k default),.i .i64 (fD s.delay o.now)]) bd bd rfl) ?_;rintro out ho A0 ⟨rfl,rfl,rfl⟩
    refine cC (i0=i0) ?_;exact cA hX (hR () zT)
  |1,_=>
    refine L5 (SatM.weak (ins':=[fE s o m n tg i0 (⟨t.name,t.key,t.quota,t.next,t.nb,t.gb,t.ns,t.gs,d,g⟩)]) (NM s o (⟨t.name,t.key,t.quota,t.next,t.nb,t.gb,t.ns,t.gs,d,g⟩) m) ⟨kW,zT⟩) ?_;rintro out A0 ⟨rfl,rfl⟩
    refine⟨rfl,?_⟩
    refine L4 2 zK fun i hi=>?_
    match i,hi with
   |0,_=>
     refine kH [(16,2)] [16] (NR d bj3 (fun i=>D7 (g i)) (A1 [.bs 32 (rl.getD k default),.i .i64 (fD s.delay o.now)]) bd bd rfl) ?_;rintro out ho A0 ⟨rfl,rfl,rfl⟩
     refine cC (i0=i0) ?_;exact cA hX (hR () zT)
   |1,_=>
     refine L4 2 zK fun i hi=>?_
     match i,hi with
    |0,_|1,_=>
      refine kH [(16,2)] [16] (NR d bj3 (fun i=>D7 (g i)) (A1 [.bs 32 (rl.getD k default),.i .i64 (fD s.delay o.now)]) bd bd rfl) ?_;rintro out ho A0 ⟨rfl,rfl,rfl⟩
      refine cC (i0=i0) ?_;exact cA hX (hR () zT)
  rintro u hJ
  exact cA hX (hR (k+1,(d+1),(f9 g bj3 ⟨(rl.getD k default),(fD s.delay o.now)⟩),(i64.wrap (c+1))) ⟨bd,by dsimp only;omega,fun h=>(hI.2.2 h).insB hbp3 (by assumption)⟩ (by dsimp only;omega)) (hS:=⟨v0,v0,v0,v0,v0,(vS bd),zT⟩) (hH:=⟨v0,v0,v0,v0,v0,v0,v0,(vT BZ),v0,zT⟩)
 refine cK [] (yF 200 c) ?_
 rintro out A0 ⟨nb4,rfl,rfl,hnb4⟩
 exact xW hX (A1 [.i .i64 200,.bl 0 nb4]) ⟨_,_,⟨t.name,t.key,t.quota,t.next,t.nb,t.gb,t.ns,t.gs,d,g⟩,rfl,rfl,rfl,.of (.inl rfl) (fun h=>⟨h.nb,h.ns,by dsimp only;omega,h.db,h.ls,hI.2.2 h.asc⟩) .doo,rfl,bd⟩ (hH:=⟨v0,v0,v0,v0,v0,v0,v0,v0,(vT (u:=.ar 33 d fun i=>D7 (g i)) (.rfl _)),zT⟩)
theorem Wt(s:StaR)(o:OpT)(t:TenR)(m:Int)(n:Nat)(tg:Nat->TenR)(i0:Nat)(hB:TB t)(hO:OB o):SatHM Tryz.prog true 85 [.pr 2 0 []] [4,5,6,7,8,9] (o9 s o m n tg i0 t) (fun out ho A0=>∃c b t2,out=A1 [.i .i64 c,.bl 0 b]/\ho=hA s o m n tg i0 (tN 16 17 18 t2) [(7,.un),(8,.un),(9,.un),(16,rB t2),(17,E1 t2),(18,rD t2)]/\A0=[4,5,6]/\MP true o t t2 c/\c=200/\b.length<=21):=by
 refine fH true Tryz.func85 fun X0 w0 hX hm=>?_
 have hb:=hO.hb
 have N6:=hB.nb
 have S2:=hB.ns
 have x8:=hB.nd
 have hs:=hB.ls
 refine mV 7 ?_;refine mV 8 ?_;refine mV 9 ?_;refine cC (i0=i0) ?_;refine gN 4 36 (fun _=>.un) (fun _=>.un) ?_;refine cM hX (fun(p:Nat×Nat×Nat×(Nat->Snp))=>[(0,.pr 2 0 []),(2,.pr 208 0 []),(3,.i .i64 (p.2.1:Int)),(4,.os 848 36),(20,.os 80 36),(21,.i .i64 (t.ns:Int)),(22,.i .i64 (p.1:Int))]) (fun(p:Nat×Nat×Nat×(Nat->Snp))=>[(2,wN (.pr 4 0 [.e i0 38 n]) o m),(3,sN 4 5 6 s),(5,rR s),(6,rL s),(4,fN n tg i0 (tN 16 80 144 t)),(16,rB t),(144,rD t),(80,E1 t),(208,A1 [.i .i64 0,.bl 1 []]),(848,.ar 36 p.2.2.1 fun i=>C8 (p.2.2.2 i))]) (fun(p:Nat×Nat×Nat×(Nat->Snp))=>p.1<=t.ns/\SnI t o.now p.1 p.2.1 p.2.2.1 p.2.2.2) (fun(p:Nat×Nat×Nat×(Nat->Snp))=>t.ns-p.1) [4,5,6,16,80,144,848] 1040 (0,0,0,fun _=>default) ⟨by simp,.z⟩ ?_ (hH:=⟨v0,v0,v0,v0,v0,v0,v0,v0,v0,(vT (u:=.ar 36 0 fun _=>.un) Wr),zT⟩);rintro⟨k,c,a,g⟩ hI R hR
 dsimp only at hI
 have aP:=hI.2
 have hc4:=aP.c4
 have hak:=aP.ak
 refine cB ((k:Int)<(t.ns:Int)) (fun h1=>?_) fun h1=>?_
 ·refine cC ((0:Int)<=(k:Int)/\(k:Int)<(t.ns:Int)) ?_
  refine gR 80 (E1 t) (.fo 36 (E1 t) k (C8 (t.gs k))) (aA zO rfl) ?_;refine cC (k=k) ?_;refine gR 80 (.fo 36 (E1 t) k (C8 (t.gs k))) (E1 t) (T7 kX (fun _ _=>rfl) rfl) ?_;refine cB ((c:Int)<4) (fun h2=>?_) fun h2=>?_
  ·refine cB ((t.gs k).doom≠0) (fun h3=>?_) fun h3=>?_
   ·refine cB ((t.gs k).doom<=o.now) (fun h4=>?_) fun h4=>?_
    ·exact cA hX (hR (k+1,c+1,a,g) ⟨bd,hI.2.gone zO (by assumption) zO⟩ (by dsimp only;omega)) (hS:=⟨v0,v0,(vS bd),v0,v0,v0,(vS bd),zT⟩)
    refine cC ((a+1)*72<=140737488355328) ?_
    exact cA hX (hR (k+1,c,a+1,J8 a g (t.gs k)) ⟨bd,hI.2.stay (hs k zO)⟩ (by dsimp only;omega)) (hS:=⟨v0,v0,v0,v0,v0,v0,(vS bd),zT⟩) (hH:=⟨v0,v0,v0,v0,v0,v0,v0,v0,v0,(vT jO),zT⟩)
   refine cC ((a+1)*72<=140737488355328) ?_
   exact cA hX (hR (k+1,c,a+1,J8 a g (t.gs k)) ⟨bd,hI.2.stay (hs k zO)⟩ (by dsimp only;omega)) (hS:=⟨v0,v0,v0,v0,v0,v0,(vS bd),zT⟩) (hH:=⟨v0,v0,v0,v0,v0,v0,v0,v0,v0,(vT jO),zT⟩)
  refine cC ((a+1)*72<=140737488355328) ?_
  exact cA hX (hR (k+1,c,a+1,J8 a g (t.gs k)) ⟨bd,hI.2.stay (hs k zO)⟩ (by dsimp only;omega)) (hS:=⟨v0,v0,v0,v0,v0,v0,(vS bd),zT⟩) (hH:=⟨v0,v0,v0,v0,v0,v0,v0,v0,v0,(vT jO),zT⟩)
 obtain rfl:k=t.ns:=by omega
 refine cC (i0=i0) ?_;refine MA (t:=202) (d:=57) ⟨0,((List.range t.nb).map fun i=>(t.gb i).of)⟩ fun bZ=>?_
 refine kH [(2,2),(3,3),(4,4),(5,5),(6,6),(16,7),(848,8),(144,9)] [2,3,4,5,6,16,848,144] (CB s o (⟨t.name,t.key,t.quota,t.next,t.nb,t.gb,a,g,t.nd,t.gd⟩) m n tg i0 bc) ?_;rintro out ho A0 ⟨rfl,rfl,rfl⟩
 refine kH [(2,2),(3,3),(4,4),(5,5),(6,6),(16,7),(848,8),(144,9)] [2,3,4,5,6,16,848,144] (Ai s o (⟨t.name,t.key,t.quota,t.next,t.nb,t.gb,a,g,t.nd,t.gd⟩) m n tg i0 bc) ?_;rintro out ho A0 ⟨rfl,rfl,rfl⟩
 refine cK [] (Vy t.nb a t.gb (fun i=>(g i).mani.root) bd bd hB.db) ?_;rintro out A0 ⟨rl,rfl,rfl,qX,hrk⟩
 refine cM hX (fun(k:Nat)=>[(0,.pr 2 0 []),(2,.pr 208 0 []),(3,.i .i64 (c:Int)),(7,.mp bZ 0 ⟨0,((List.range t.nb).map fun i=>(t.gb i).of)⟩),(62,B4 2002 32 eI rl),(63,.i .i64 (rl.length:Int)),(64,.i .i64 (k:Int))]) (fun(k:Nat)=>[(2,wN (.pr 4 0 [.e i0 38 n]) o m),(3,sN 4 5 6 s),(5,rR s),(6,rL s),(4,fN n tg i0 (tN 16 848 144 t)),(16,rB t),(144,rD t),(848,.ar 36 a fun i=>C8 (g i)),(208,A1 [.i .i64 0,.bl 1 []])]) (fun(k:Nat)=>k<=rl.length) (fun(k:Nat)=>rl.length-k) [4,5,6,16,144,848,2002] 2192 0 (by simp) ?_;rintro k hI R hR
 refine cB ((k:Int)<(rl.length:Int)) (fun h5=>?_) fun h5=>?_
 ·refine cC ((0:Int)<=(k:Int)/\(k:Int)<(rl.length:Int)) ?_
  refine jA 2 7056 (fun(u:Unit)=>[(0,.pr 2 0 []),(2,.pr 208 0 []),(3,.i .i64 (c:Int)),(7,.mp bZ 0 ⟨0,((List.range t.nb).map fun i=>(t.gb i).of)⟩),(62,B4 2002 32 eI rl),(63,.i .i64 (rl.length:Int)),(64,.i .i64 (k:Int))]) (fun(u:Unit)=>[(2,wN (.pr 4 0 [.e i0 38 n]) o m),(3,sN 4 5 6 s),(5,rR s),(6,rL s),(4,fN n tg i0 (tN 16 848 144 t)),(16,rB t),(144,rD t),(848,.ar 36 a fun i=>C8 (g i)),(208,A1 [.i .i64 0,.bl 1 []]),(7,.un),(8,.un),(9,.un)]) (fun(u:Unit)=>True) [4,5,6,16,144,848,2002] (fun R hR i hi=>?_) ?_
  ·match i,hi with
  |0,_=>
    refine mL (t:=202) (kt:=34) (et:=3) (x:=.tmp 68) (y:=.tmp 69) (ok:=false) (d:=70) bZ ⟨0,((List.range t.nb).map fun i=>(t.gb i).of)⟩ (rl.getD k default) gS ?_;rintro _ mp4 ⟨mn4,rfl⟩ hmk4
    refine mE (t:=202) (kt:=34) (et:=3) (x:=.tmp 68) (y:=.tmp 69) (d:=72) bZ ⟨0,((List.range t.nb).map fun i=>(t.gb i).of)⟩ (rl.getD k default) gS (hm rfl) (hrk _ (OF zO)) ?_;rintro _ ms5 ⟨mn5,rfl⟩
    refine GG (t:=202) (et:=3) (x:=.tmp 68) (y:=.tmp 73) (z:=.tmp 71) bZ ⟨0,((List.range t.nb).map fun i=>(t.gb i).of)⟩ ms5 ⟨0,((List.range t.nb).map fun i=>(t.gb i).of)⟩ (.i .i64 (i64.wrap (mn4+1))) (hm rfl) rfl ?_;exact cA hX (hR () zT)
  |1,_=>
    refine mE (t:=202) (kt:=34) (et:=3) (x:=.tmp 68) (y:=.tmp 69) (d:=72) bZ ⟨0,((List.range t.nb).map fun i=>(t.gb i).of)⟩ (rl.getD k default) gS (hm rfl) (hrk _ (OF zO)) ?_;rintro _ ms6 ⟨mn6,rfl⟩
    refine mL (t:=202) (kt:=34) (et:=3) (x:=.tmp 68) (y:=.tmp 69) (ok:=false) (d:=70) bZ ⟨0,((List.range t.nb).map fun i=>(t.gb i).of)⟩ (rl.getD k default) gS ?_;rintro _ mp7 ⟨mn7,rfl⟩ hmk7
    refine GG (t:=202) (et:=3) (x:=.tmp 68) (y:=.tmp 73) (z:=.tmp 71) bZ ⟨0,((List.range t.nb).map fun i=>(t.gb i).of)⟩ ms6 ⟨0,((List.range t.nb).map fun i=>(t.gb i).of)⟩ (.i .i64 (i64.wrap (mn7+1))) (hm rfl) rfl ?_;exact cA hX (hR () zT)
  rintro u hJ
  exact cA hX (hR (k+1) bd zO) (hS:=⟨v0,v0,v0,v0,v0,v0,(vS bd),zT⟩)
 refine cC (i0=i0) ?_
 refine kB (HV t.nd t.gd (bc)) ?_;rintro out ho A0 ⟨rfl,rfl,rfl⟩
 refine⟨⟨rfl,CA (fun k _ j hj=>match j,hj with|0,_=>trivial|1,_=>trivial)⟩,?_⟩
 refine cM hX (fun(p:Nat×Nat×Nat×(Nat->Obj)×Nat×(Nat->Doo))=>[(0,.pr 2 0 []),(2,.pr 208 0 []),(3,.i .i64 (p.2.1:Int)),(7,.mp bZ 0 ⟨0,((List.range t.nb).map fun i=>(t.gb i).of)⟩),(82,.os 2720 33),(83,.i .i64 (t.nd:Int)),(84,.i .i64 (p.1:Int))]) (fun(p:Nat×Nat×Nat×(Nat->Obj)×Nat×(Nat->Doo))=>[(2,wN (.pr 4 0 [.e i0 38 n]) o m),(3,sN 4 5 6 s),(5,rR s),(6,rL s),(4,fN n tg i0 (tN 16 848 144 t)),(16,.ar 33 p.2.2.1 fun i=>C3 (p.2.2.2.1 i)),(144,.ar 33 p.2.2.2.2.1 fun i=>D7 (p.2.2.2.2.2 i)),(848,.ar 36 a fun i=>C8 (g i)),(208,A1 [.i .i64 0,.bl 1 []]),(2720,rD t)]) (fun(p:Nat×Nat×Nat×(Nat->Obj)×Nat×(Nat->Doo))=>p.1<=t.nd/\BlI t o.now c p.2.1 p.2.2.1 p.2.2.2.1 p.2.2.2.2.1 p.2.2.2.2.2) (fun(p:Nat×Nat×Nat×(Nat->Obj)×Nat×(Nat->Doo))=>t.nd-p.1) [4,5,6] 2896 (0,c,t.nb,t.gb,t.nd,t.gd) ⟨by simp,.z hB hc4⟩ ?_;rintro⟨k,e,b,gb,d,gd⟩ hI R hR
 dsimp only at hI
 have he4:=hI.2.e4
 have O3:=hI.2.bb
 have hdd:=hI.2.dd
 refine cB ((k:Int)<(t.nd:Int)) (fun h6=>?_) fun h6=>?_
 ·refine cC ((0:Int)<=(k:Int)/\(k:Int)<(t.nd:Int)) ?_
  refine gR 2720 (rD t) (.fo 33 (rD t) k (D7 (t.gd k))) (aA zO rfl) ?_;refine cC (k=k) ?_;refine gR 2720 (.fo 33 (rD t) k (D7 (t.gd k))) (rD t) (fC rfl rfl rfl) ?_;refine cB ((e:Int)=4) (fun h7=>?_) fun h7=>?_
  ·refine cK [] (yF 200 (e:Int)) ?_
   rintro out A0 ⟨nb8,rfl,rfl,hnb8⟩
   exact xW hX (A1 [.i .i64 200,.bl 0 nb8]) ⟨_,_,⟨t.name,t.key,t.quota,t.next,b,gb,a,g,d,gd⟩,rfl,rfl,rfl,.of (.inl rfl) (.swp aP hI.2) (.swp aP hI.2),rfl,bd⟩ (hH:=⟨v0,v0,v0,v0,v0,v0,v0,v0,(vT (u:=.ar 33 b fun i=>C3 (gb i)) (.rfl _)),(vT (u:=.ar 36 a fun i=>C8 (g i)) (.rfl _)),(vT (u:=.ar 33 d fun i=>D7 (gd i)) (.rfl _)),zT⟩)
  refine cB (o.now<(t.gd k).doom) (fun h8=>?_) fun h8=>?_
  ·exact cA hX (hR (k+1,e,b,gb,d,gd) ⟨bd,hI.2⟩ (by dsimp only;omega)) (hS:=⟨v0,v0,v0,v0,v0,v0,(vS bd),zT⟩)
  refine kH [(2,2),(3,3),(4,4),(5,5),(6,6),(16,7),(848,8),(144,9)] [2,3,4,5,6,16,848,144] (OE s o (⟨t.name,t.key,t.quota,t.next,b,gb,a,g,d,gd⟩) m n tg i0 ((t.gd k).of) bc) ?_
  rintro out ho A0 ⟨sd9,sg9,rfl,rfl,hsd9,hsa9⟩
  try dsimp only at hsd9 hsa9
  refine mL (t:=202) (kt:=34) (et:=3) (x:=.tmp 102) (y:=.tmp 104) (ok:=false) (d:=105) bZ ⟨0,((List.range t.nb).map fun i=>(t.gb i).of)⟩ ((t.gd k).of) gS ?_;rintro _ mp10 ⟨mn10,rfl⟩ hmk10
  refine cB (mn10=0) (fun h9=>?_) fun h9=>?_
  ·refine L5 (SatM.weak (ins':=[fE s o m n tg i0 (⟨t.name,t.key,t.quota,t.next,b,gb,a,g,sd9,sg9⟩),.bs 32 ((t.gd k).of)]) (NN s o (⟨t.name,t.key,t.quota,t.next,b,gb,a,g,sd9,sg9⟩) m ((t.gd k).of) bd) ⟨kW,VA.rfl,zT⟩) ?_
   rintro out A0 ⟨rfl,⟨bj11,bp11,rfl,hbj11,hbp11⟩⟩
   dsimp only at hbj11 hbp11
   refine⟨rfl,?_⟩
   refine cb (bp11) (fun J7=>?_) fun J7=>?_
   ·have hj:=hbp11.ok (by assumption)
    refine cC (i0=i0) ?_;refine jA 2 10320 (fun(u:Unit)=>[(0,.pr 2 0 []),(2,.pr 208 0 []),(3,.i .i64 (e:Int)),(7,.mp bZ 0 ⟨0,((List.range t.nb).map fun i=>(t.gb i).of)⟩),(82,.os 2720 33),(83,.i .i64 (t.nd:Int)),(84,.i .i64 (k:Int))]) (fun(u:Unit)=>[(2,wN (.pr 4 0 [.e i0 38 n]) o m),(3,sN 4 5 6 s),(5,rR s),(6,rL s),(4,fN n tg i0 (tN 5984 848 4064 t)),(848,.ar 36 a fun i=>C8 (g i)),(4064,.ar 33 sd9 fun i=>D7 (sg9 i)),(5984,.ar 33 (b-1) fun i=>gU (fun i=>C3 (gb i)) bj11 i),(208,A1 [.i .i64 0,.bl 1 []]),(2720,rD t),(7,.un),(8,.un),(9,.un)]) (fun(u:Unit)=>True) [4,5,6] (fun R hR i hi=>?_) ?_
    ·match i,hi with
    |0,_|1,_=>
      refine kH [(16,2)] [16] (Wl [] b bj11 (fun i=>C3 (gb i)) bd bd) ?_;rintro out ho A0 ⟨rfl,rfl,rfl⟩
      refine cC (i0=i0) ?_;exact cA hX (hR () zT)
    rintro u hJ
    exact cA hX (hR (k+1,e+1,(b-1),(aC gb bj11),sd9,sg9) ⟨bd,(hI.2.sp hsd9 hsa9).del zO hj.1 (cmp_eq hj.2) zO zO⟩ (by dsimp only;omega)) (hS:=⟨v0,v0,(vS bd),v0,v0,v0,(vS bd),zT⟩) (hH:=⟨v0,v0,v0,v0,v0,(vT Ag),v0,v0,v0,v0,zT⟩)
   exact cA hX (hR (k+1,e+1,b,gb,sd9,sg9) ⟨bd,(hI.2.sp hsd9 hsa9).up zO⟩ (by dsimp only;omega)) (hS:=⟨v0,v0,(vS bd),v0,v0,v0,(vS bd),zT⟩)
  exact cA hX (hR (k+1,e,b,gb,sd9,sg9) ⟨bd,(hI.2.sp hsd9 hsa9)⟩ (by dsimp only;omega)) (hS:=⟨v0,v0,v0,v0,v0,v0,(vS bd),zT⟩)
 refine cK [] (yF 200 (e:Int)) ?_
 rintro out A0 ⟨nb12,rfl,rfl,hnb12⟩
 exact xW hX (A1 [.i .i64 200,.bl 0 nb12]) ⟨_,_,⟨t.name,t.key,t.quota,t.next,b,gb,a,g,d,gd⟩,rfl,rfl,rfl,.of (.inl rfl) (.swp aP hI.2) (.swp aP hI.2),rfl,bd⟩ (hH:=⟨v0,v0,v0,v0,v0,v0,v0,v0,(vT (u:=.ar 33 b fun i=>C3 (gb i)) (.rfl _)),(vT (u:=.ar 36 a fun i=>C8 (g i)) (.rfl _)),(vT (u:=.ar 33 d fun i=>D7 (gd i)) (.rfl _)),zT⟩)
theorem Al{a b:By}(h:Op.bytesLess a b=false):¬ a<b:=fun h2=>by rw[(NF a b).2 h2]at h;cases h
theorem AscK.tenI{n k:Nat}{tg:Nat->TenR}{x:TenR}(h:AscK TenR.name n tg)(U3:AscK TenR.name n tg->∀j,j<n->(tg j).name≠x.name)(hk:k<=n)(hl:∀j,j<k->(tg j).name<x.name)(hg:k=n\/¬ (tg k).name<x.name):AscK TenR.name (n+1) (f9 tg k x):=h.ins hk hl fun j h1 h2=>by
 have h3:x.name<(tg k).name:=by
  rcases hg with e|e
  ·omega
  exact Decidable.byContradiction fun e2=>U3 h k zO (List.le_antisymm (nG.1 e2) (nG.1 e))
 by_cases e:j=k
 ·rw[e];exact h3
 exact List.lt_trans h3 (h k j zO h2)
def gW(s:StaR)(o:OpT)(m:Int)(n:Nat)(tg:Nat->TenR):List (Nat×V):=[(2,wN .np o m),(3,sN 4 5 6 s),(4,rT n tg),(5,rR s),(6,rL s)]
theorem Am{z n:Nat}{g:Nat->Int}{x:Int}:VEq (.ar z n (T9 (fun k=>.i .u64 (g k)) i (.i .u64 x))) (.ar z n fun k=>.i .u64 (f9 g i x k)):=BZ (e:=fun x=>.i .u64 x)
theorem Wu(s:StaR)(o:OpT)(t:TenR)(m:Int)(n:Nat)(tg:Nat->TenR)(i0:Nat)(hO:OB o):SatHM Tryz.prog false 82 [.pr 2 0 []] [4,5,6,7,8,9] (o9 s o m n tg i0 t) (fun out ho A0=>∃c b e,out=A1 [.i .i64 c,.bl 0 b]/\ho=[(2,wN (.pr 4 0 [.e i0 38 n]) o m),(3,sN 4 5 6 (⟨s.root,s.delay,e,s.nr,s.gr,s.nl,s.gl,s.head⟩)),(4,fN n tg i0 (tN 7 8 9 t)),(5,rR s),(6,rL s),(7,rB t),(8,E1 t),(9,rD t)]/\A0=[4,5,6]/\(c=201\/e=s.serial/\b=[])/\b.length<=20000):=by
 refine fH false Tryz.func82 fun X0 w0 hX hm=>?_
 have hn:=hO.hn
 refine cB (o.rights=0) (fun h1=>?_) fun h1=>?_
 ·refine cK [] (E6 400) ?_
  rintro out A0 ⟨rfl,rfl⟩
  exact xW hX (A1 [.i .i64 400,.bl 0 []]) ⟨_,_,s.serial,rfl,rfl,rfl,.inr ⟨rfl,rfl⟩,bd⟩
 refine cB (4611686018427387903<=s.serial) (fun h2=>?_) fun h2=>?_
 ·refine cK [] (E6 507) ?_
  rintro out A0 ⟨rfl,rfl⟩
  exact xW hX (A1 [.i .i64 507,.bl 0 []]) ⟨_,_,s.serial,rfl,rfl,rfl,.inr ⟨rfl,rfl⟩,bd⟩
 refine jA 2 9100 (fun(p:Tok×Int)=>[(0,.pr 2 0 []),(2,.pr 16 0 []),(3,.pr 9000 0 []),(4,.i .i64 p.2)]) (fun(p:Tok×Int)=>[(2,wN (.pr 4 0 [.e i0 38 n]) o m),(3,sN 4 5 6 s),(5,rR s),(6,rL s),(4,fN n tg i0 (tN 7 8 9 t)),(7,rB t),(8,E1 t),(9,rD t),(16,A1 [.i .i64 0,.bl 1 []]),(9000,G1 p.1)]) (fun(p:Tok×Int)=>p.1.tenant.length<=16/\p.1.cavs=[]) [4,5,6,7,8,9] (fun R hR i hi=>?_) ?_
 ·match i,hi with
 |0,_|1,_=>
   refine cK [] (pU (ins':=[.bs 32 s.root,A1 [.i .u64 (u64.wrap (s.serial+1)),.s o.tenant,.i .u8 o.rights,.i .i64 o.now,.i .i64 o.until,.sl 1 2 0 fun _=>.un,.bs 32 (replicate 32 0)]]) (WT s.root ⟨(u64.wrap (s.serial+1)),o.tenant,o.rights,o.now,o.until,[],(replicate 32 0)⟩ bd (by simp)) ⟨.rfl _,C4 ⟨.rfl _,.rfl _,.rfl _,.rfl _,.rfl _,dU,.rfl _,zT⟩,zT⟩) ?_;rintro out A0 ⟨rfl,⟨K9,bY,rfl,htk0,htc0⟩⟩
   exact cA hX (hR (K9,bY) ⟨by dsimp only at *;omega,by assumption⟩)
 rintro⟨tk,ec⟩ hI
 dsimp only at hI
 refine cK [] (WS tk bd (by rw[hI.2];exact L8 _)) ?_;rintro out A0 ⟨tb2,tf2,rfl,rfl,htb2⟩
 exact xW hX (A1 [.i .i64 201,.bl 0 tb2]) ⟨_,_,(u64.wrap (s.serial+1)),rfl,rfl,rfl,.inl rfl,bd⟩
theorem Wv(s:StaR)(o:OpT)(t:TenR)(m:Int)(n:Nat)(tg:Nat->TenR)(i0:Nat)(hr:s.nr<=100000):SatHM Tryz.prog false 83 [.pr 2 0 []] [4,5,6,7,8,9] (o9 s o m n tg i0 t) (fun out ho A0=>∃c r g,out=A1 [.i .i64 c,.bl 0 []]/\ho=[(2,wN (.pr 4 0 [.e i0 38 n]) o m),(3,sN 4 16 6 (⟨s.root,s.delay,s.serial,r,g,s.nl,s.gl,s.head⟩)),(4,fN n tg i0 (tN 7 8 9 t)),(5,.un),(6,rL s),(7,rB t),(8,E1 t),(9,rD t),(16,.ar 1 r fun i=>.i .u64 (g i))]/\A0=[4,6]/\(c=200\/r=s.nr/\g=s.gr)/\r<=100000):=by
 refine fH false Tryz.func83 fun X0 w0 hX hm=>?_
 refine mV 5 ?_;refine L5 (BS s.nr s.gr (u64.wrap o.number) bd) ?_;rintro out A0 ⟨rfl,⟨J9,dJ,rfl,oB,iM⟩⟩
 refine⟨rfl,?_⟩
 refine cB ((u64.wrap o.number)=0) (fun h1=>?_) fun h1=>?_
 ·refine cK [] (E6 409) ?_
  rintro out A0 ⟨rfl,rfl⟩
  exact xW hX (A1 [.i .i64 409,.bl 0 []]) ⟨_,_,s.gr,rfl,rfl,rfl,.inr ⟨rfl,rfl⟩,zO⟩
 refine cB (s.serial<(u64.wrap o.number)) (fun h2=>?_) fun h2=>?_
 ·refine cK [] (E6 404) ?_
  rintro out A0 ⟨rfl,rfl⟩
  exact xW hX (A1 [.i .i64 404,.bl 0 []]) ⟨_,_,s.gr,rfl,rfl,rfl,.inr ⟨rfl,rfl⟩,zO⟩
 refine cb (dJ) (fun h3=>?_) fun h3=>?_
 ·refine cK [] (E6 200) ?_
  rintro out A0 ⟨rfl,rfl⟩
  exact xW hX (A1 [.i .i64 200,.bl 0 []]) ⟨_,_,s.gr,rfl,rfl,rfl,.inl rfl,zO⟩
 refine cB (256<=(s.nr:Int)) (fun h4=>?_) fun h4=>?_
 ·refine cK [] (E6 507) ?_
  rintro out A0 ⟨rfl,rfl⟩
  exact xW hX (A1 [.i .i64 507,.bl 0 []]) ⟨_,_,s.gr,rfl,rfl,rfl,.inr ⟨rfl,rfl⟩,zO⟩
 refine jA 2 8336 (fun(u:Unit)=>[(2,.pr 80 0 [])]) (fun(u:Unit)=>[(80,A1 [.i .i64 0,.bl 1 []]),(2,wN (.pr 4 0 [.e i0 38 n]) o m),(3,sN 4 4000 6 s),(6,rL s),(4000,.ar 1 (s.nr+1) fun i=>T9 (fun i=>.i .u64 (s.gr i)) J9 (.i .u64 (u64.wrap o.number)) i),(4,fN n tg i0 (tN 7 8 9 t)),(7,rB t),(8,E1 t),(9,rD t),(5,.un)]) (fun(u:Unit)=>True) [4,6,7,8,9,4000] (fun R hR i hi=>?_) ?_
 ·match i,hi with
 |0,_=>
   refine kH [(16,2)] [16] (HF s.nr J9 (fun i=>.i .u64 (s.gr i)) (.i .u64 (u64.wrap o.number)) bd bd rfl) ?_;rintro out ho A0 ⟨rfl,rfl,rfl⟩
   exact cA hX (hR () zT)
 |1,_=>
   refine L4 2 zK fun i hi=>?_
   match i,hi with
  |0,_|1,_=>
    refine kH [(16,2)] [16] (HF s.nr J9 (fun i=>.i .u64 (s.gr i)) (.i .u64 (u64.wrap o.number)) bd bd rfl) ?_;rintro out ho A0 ⟨rfl,rfl,rfl⟩
    exact cA hX (hR () zT)
 rintro u hJ
 refine cK [] (E6 200) ?_;rintro out A0 ⟨rfl,rfl⟩
 exact xW hX (A1 [.i .i64 200,.bl 0 []]) ⟨_,_,(f9 s.gr J9 (u64.wrap o.number)),rfl,rfl,rfl,.inl rfl,zO⟩ (hH:=⟨v0,v0,v0,v0,v0,v0,v0,v0,(vT (u:=.ar 1 (s.nr+1) fun i=>T9 (fun i=>.i .u64 (s.gr i)) J9 (.i .u64 (u64.wrap o.number)) i) (Am)),zT⟩)
theorem Ww(s:StaR)(o:OpT)(m:Int)(n:Nat)(tg:Nat->TenR)(hO:OB o):SatHM Tryz.prog false 82 [.pr 2 0 []] [4,5,6] (gW s o m n tg) (fun out ho A0=>∃c b e,out=A1 [.i .i64 c,.bl 0 b]/\ho=[(2,wN .np o m),(3,sN 4 5 6 (⟨s.root,s.delay,e,s.nr,s.gr,s.nl,s.gl,s.head⟩)),(4,rT n tg),(5,rR s),(6,rL s)]/\A0=[4,5,6]/\(c=201\/e=s.serial/\b=[])/\b.length<=20000):=by
 refine fH false Tryz.func82 fun X0 w0 hX hm=>?_
 have hn:=hO.hn
 refine cB (o.rights=0) (fun h1=>?_) fun h1=>?_
 ·refine cK [] (E6 400) ?_
  rintro out A0 ⟨rfl,rfl⟩
  exact xW hX (A1 [.i .i64 400,.bl 0 []]) ⟨_,_,s.serial,rfl,rfl,rfl,.inr ⟨rfl,rfl⟩,bd⟩
 refine cB (4611686018427387903<=s.serial) (fun h2=>?_) fun h2=>?_
 ·refine cK [] (E6 507) ?_
  rintro out A0 ⟨rfl,rfl⟩
  exact xW hX (A1 [.i .i64 507,.bl 0 []]) ⟨_,_,s.serial,rfl,rfl,rfl,.inr ⟨rfl,rfl⟩,bd⟩
 refine jA 2 9100 (fun(p:Tok×Int)=>[(0,.pr 2 0 []),(2,.pr 16 0 []),(3,.pr 9000 0 []),(4,.i .i64 p.2)]) (fun(p:Tok×Int)=>[(2,wN .np o m),(3,sN 4 5 6 s),(4,rT n tg),(5,rR s),(6,rL s),(16,A1 [.i .i64 0,.bl 1 []]),(9000,G1 p.1)]) (fun(p:Tok×Int)=>p.1.tenant.length<=16/\p.1.cavs=[]) [4,5,6] (fun R hR i hi=>?_) ?_
 ·match i,hi with
 |0,_|1,_=>
   refine cK [] (pU (ins':=[.bs 32 s.root,A1 [.i .u64 (u64.wrap (s.serial+1)),.s o.tenant,.i .u8 o.rights,.i .i64 o.now,.i .i64 o.until,.sl 1 2 0 fun _=>.un,.bs 32 (replicate 32 0)]]) (WT s.root ⟨(u64.wrap (s.serial+1)),o.tenant,o.rights,o.now,o.until,[],(replicate 32 0)⟩ bd (by simp)) ⟨.rfl _,C4 ⟨.rfl _,.rfl _,.rfl _,.rfl _,.rfl _,dU,.rfl _,zT⟩,zT⟩) ?_;rintro out A0 ⟨rfl,⟨K9,bY,rfl,htk0,htc0⟩⟩
   exact cA hX (hR (K9,bY) ⟨by dsimp only at *;omega,by assumption⟩)
 rintro⟨tk,ec⟩ hI
 dsimp only at hI
 refine cK [] (WS tk bd (by rw[hI.2];exact L8 _)) ?_;rintro out A0 ⟨tb2,tf2,rfl,rfl,htb2⟩
 exact xW hX (A1 [.i .i64 201,.bl 0 tb2]) ⟨_,_,(u64.wrap (s.serial+1)),rfl,rfl,rfl,.inl rfl,bd⟩
theorem Wx(s:StaR)(o:OpT)(m:Int)(n:Nat)(tg:Nat->TenR)(hr:s.nr<=100000):SatHM Tryz.prog false 83 [.pr 2 0 []] [4,5,6] (gW s o m n tg) (fun out ho A0=>∃c r g,out=A1 [.i .i64 c,.bl 0 []]/\ho=[(2,wN .np o m),(3,sN 4 16 6 (⟨s.root,s.delay,s.serial,r,g,s.nl,s.gl,s.head⟩)),(4,rT n tg),(5,.un),(6,rL s),(16,.ar 1 r fun i=>.i .u64 (g i))]/\A0=[4,6]/\(c=200\/r=s.nr/\g=s.gr)/\r<=100000):=by
 refine fH false Tryz.func83 fun X0 w0 hX hm=>?_
 refine mV 5 ?_;refine L5 (BS s.nr s.gr (u64.wrap o.number) bd) ?_;rintro out A0 ⟨rfl,⟨J9,dJ,rfl,oB,iM⟩⟩
 refine⟨rfl,?_⟩
 refine cB ((u64.wrap o.number)=0) (fun h1=>?_) fun h1=>?_
 ·refine cK [] (E6 409) ?_
  rintro out A0 ⟨rfl,rfl⟩
  exact xW hX (A1 [.i .i64 409,.bl 0 []]) ⟨_,_,s.gr,rfl,rfl,rfl,.inr ⟨rfl,rfl⟩,zO⟩
 refine cB (s.serial<(u64.wrap o.number)) (fun h2=>?_) fun h2=>?_
 ·refine cK [] (E6 404) ?_
  rintro out A0 ⟨rfl,rfl⟩
  exact xW hX (A1 [.i .i64 404,.bl 0 []]) ⟨_,_,s.gr,rfl,rfl,rfl,.inr ⟨rfl,rfl⟩,zO⟩
 refine cb (dJ) (fun h3=>?_) fun h3=>?_
 ·refine cK [] (E6 200) ?_
  rintro out A0 ⟨rfl,rfl⟩
  exact xW hX (A1 [.i .i64 200,.bl 0 []]) ⟨_,_,s.gr,rfl,rfl,rfl,.inl rfl,zO⟩
 refine cB (256<=(s.nr:Int)) (fun h4=>?_) fun h4=>?_
 ·refine cK [] (E6 507) ?_
  rintro out A0 ⟨rfl,rfl⟩
  exact xW hX (A1 [.i .i64 507,.bl 0 []]) ⟨_,_,s.gr,rfl,rfl,rfl,.inr ⟨rfl,rfl⟩,zO⟩
 refine jA 2 8336 (fun(u:Unit)=>[(2,.pr 80 0 [])]) (fun(u:Unit)=>[(80,A1 [.i .i64 0,.bl 1 []]),(2,wN .np o m),(3,sN 4 4000 6 s),(4,rT n tg),(6,rL s),(4000,.ar 1 (s.nr+1) fun i=>T9 (fun i=>.i .u64 (s.gr i)) J9 (.i .u64 (u64.wrap o.number)) i),(5,.un)]) (fun(u:Unit)=>True) [4,6,4000] (fun R hR i hi=>?_) ?_
 ·match i,hi with
 |0,_=>
   refine kH [(16,2)] [16] (HF s.nr J9 (fun i=>.i .u64 (s.gr i)) (.i .u64 (u64.wrap o.number)) bd bd rfl) ?_;rintro out ho A0 ⟨rfl,rfl,rfl⟩
   exact cA hX (hR () zT)
 |1,_=>
   refine L4 2 zK fun i hi=>?_
   match i,hi with
  |0,_|1,_=>
    refine kH [(16,2)] [16] (HF s.nr J9 (fun i=>.i .u64 (s.gr i)) (.i .u64 (u64.wrap o.number)) bd bd rfl) ?_;rintro out ho A0 ⟨rfl,rfl,rfl⟩
    exact cA hX (hR () zT)
 rintro u hJ
 refine cK [] (E6 200) ?_;rintro out A0 ⟨rfl,rfl⟩
 exact xW hX (A1 [.i .i64 200,.bl 0 []]) ⟨_,_,(f9 s.gr J9 (u64.wrap o.number)),rfl,rfl,rfl,.inl rfl,zO⟩ (hH:=⟨v0,v0,v0,v0,v0,(vT (u:=.ar 1 (s.nr+1) fun i=>T9 (fun i=>.i .u64 (s.gr i)) J9 (.i .u64 (u64.wrap o.number)) i) (Am)),zT⟩)
theorem Wy(s:StaR)(o:OpT)(m:Int)(n:Nat)(tg:Nat->TenR)(hn:n<=1000)(hO:OB o)(U3:AscK TenR.name n tg->∀j,j<n->(tg j).name≠o.tenant):SatHM Tryz.prog false 80 [.pr 2 0 []] [4,5,6] (gW s o m n tg) (fun out ho A0=>∃c n2 tg2,out=A1 [.i .i64 c,.bl 0 []]/\ho=[(2,wN .np o m),(3,sN 16 5 6 s),(4,.un),(5,rR s),(6,rL s),(16,rT n2 tg2)]/\A0=[5,6]/\(c=201\/n2=n/\tg2=tg)/\(n<=1000->n2<=1000)/\((∀i,i<n->TB (tg i))->∀i,i<n2->TB (tg2 i))/\(AscK TenR.name n tg->AscK TenR.name n2 tg2)/\∀j,j<n->∃k,k<n2/\tg2 k=tg j):=by
 refine fH false Tryz.func80 fun X0 w0 hX hm=>?_
 have hO1:=hO.hn
 refine mV 4 ?_;refine mM fV true ?_;refine cB (32<=(n:Int)) (fun h1=>?_) fun h1=>?_
 ·refine cK [] (E6 507) ?_
  rintro out A0 ⟨rfl,rfl⟩
  exact xW hX (A1 [.i .i64 507,.bl 0 []]) ⟨_,_,tg,rfl,rfl,rfl,.inr ⟨rfl,rfl⟩,id,id,id,fun j hj=>⟨j,hj,rfl⟩⟩
 refine jA 2 6100 (fun(kh:By)=>[(0,.pr 2 0 []),(2,.pr 80 0 []),(3,.pr 6000 0 []),(1000004,A2 [])]) (fun(kh:By)=>[(2,wN .np o m),(3,sN 16 5 6 s),(5,rR s),(6,rL s),(16,rT n tg),(80,A1 [.i .i64 0,.bl 1 []]),(6000,A1 [.s o.tenant,.bs 32 kh,.i .i64 o.number,.i .i64 1,B4 0 33 C3 [],B4 0 36 C8 [],B4 0 33 D7 []]),(4,.un)]) (fun(kh:By)=>True) [5,6,16] (fun R hR i hi=>?_) ?_
 ·match i,hi with
 |0,_=>
   refine L4 2 zK fun i hi=>?_
   match i,hi with
  |0,_=>
    refine ME (t:=81) (d:=51) (x0:=.tmp 42) (x1:=.tmp 45) (x2:=.tmp 50) [116,101,110,97,110,116] o.tenant 1 3024 (.vw 2 [.f 1 1,.f 9 40] 0 32) ?_
    refine L5 (uA ((s.root.drop 0).take 32) 0 0 3 (fun i=>[.bl 1 [116,101,110,97,110,116],.bl 0 o.tenant,.bl 0 ((o.draw.drop 0).take 32)].getD i .un) (fun i hi=>match i,hi with|0,_=>⟨_,_,rfl,bd⟩|1,_=>⟨_,_,rfl,bd⟩|2,_=>⟨_,_,rfl,bd⟩) (by decide)) ?_;rintro out A0 ⟨rfl,⟨l4,rfl⟩⟩
    refine⟨rfl,?_⟩
    refine gR 1872 (A1 [.s o.tenant,.bs 32 (replicate 32 0),.i .i64 o.number,.i .i64 1,.sl 1 33 0 fun _=>.un,.sl 1 36 0 fun _=>.un,.sl 1 33 0 fun _=>.un]) (A1 [.s o.tenant,.bs 32 (replicate 32 0),.i .i64 o.number,.i .i64 1,B4 0 33 C3 [],B4 0 36 C8 [],B4 0 33 D7 []]) (xQ (C4 ⟨.rfl _,.rfl _,.rfl _,.rfl _,dU,dU,dU,zT⟩) rfl) ?_;exact cA hX (hR l4 trivial)
  |1,_=>
    refine ME (t:=81) (d:=51) (x0:=.tmp 42) (x1:=.tmp 45) (x2:=.tmp 50) [116,101,110,97,110,116] o.tenant 1 2960 (.vw 2 [.f 1 1,.f 9 40] 0 32) ?_
    refine L5 (uA ((s.root.drop 0).take 32) 0 0 3 (fun i=>[.bl 1 [116,101,110,97,110,116],.bl 0 o.tenant,.bl 0 ((o.draw.drop 0).take 32)].getD i .un) (fun i hi=>match i,hi with|0,_=>⟨_,_,rfl,bd⟩|1,_=>⟨_,_,rfl,bd⟩|2,_=>⟨_,_,rfl,bd⟩) (by decide)) ?_;rintro out A0 ⟨rfl,⟨hm1,rfl⟩⟩
    refine⟨rfl,?_⟩
    refine gR 1872 (A1 [.s o.tenant,.bs 32 (replicate 32 0),.i .i64 o.number,.i .i64 1,.sl 1 33 0 fun _=>.un,.sl 1 36 0 fun _=>.un,.sl 1 33 0 fun _=>.un]) (A1 [.s o.tenant,.bs 32 (replicate 32 0),.i .i64 o.number,.i .i64 1,B4 0 33 C3 [],B4 0 36 C8 [],B4 0 33 D7 []]) (xQ (C4 ⟨.rfl _,.rfl _,.rfl _,.rfl _,dU,dU,dU,zT⟩) rfl) ?_;exact cA hX (hR hm1 trivial)
 |1,_=>
   refine ME (t:=81) (d:=51) (x0:=.tmp 42) (x1:=.tmp 45) (x2:=.tmp 50) [116,101,110,97,110,116] o.tenant 1 2896 (.vw 2 [.f 1 1,.f 9 40] 0 32) ?_
   refine L5 (uA ((s.root.drop 0).take 32) 0 0 3 (fun i=>[.bl 1 [116,101,110,97,110,116],.bl 0 o.tenant,.bl 0 ((o.draw.drop 0).take 32)].getD i .un) (fun i hi=>match i,hi with|0,_=>⟨_,_,rfl,bd⟩|1,_=>⟨_,_,rfl,bd⟩|2,_=>⟨_,_,rfl,bd⟩) (by decide)) ?_;rintro out A0 ⟨rfl,⟨dH,rfl⟩⟩
   refine⟨rfl,?_⟩
   refine gR 1872 (A1 [.s o.tenant,.bs 32 (replicate 32 0),.i .i64 o.number,.i .i64 1,.sl 1 33 0 fun _=>.un,.sl 1 36 0 fun _=>.un,.sl 1 33 0 fun _=>.un]) (A1 [.s o.tenant,.bs 32 (replicate 32 0),.i .i64 o.number,.i .i64 1,B4 0 33 C3 [],B4 0 36 C8 [],B4 0 33 D7 []]) (xQ (C4 ⟨.rfl _,.rfl _,.rfl _,.rfl _,dU,dU,dU,zT⟩) rfl) ?_;exact cA (R:=R) hX (hR dH trivial)
 rintro kh hJ
 refine cM hX (fun(k:Nat)=>[(0,.pr 2 0 []),(2,.pr 80 0 []),(3,.pr 6000 0 []),(4,.i .i64 (k:Int)),(1000004,A2 [])]) (fun(k:Nat)=>[(2,wN .np o m),(3,sN 16 5 6 s),(5,rR s),(6,rL s),(16,rT n tg),(80,A1 [.i .i64 0,.bl 1 []]),(6000,A1 [.s o.tenant,.bs 32 kh,.i .i64 o.number,.i .i64 1,B4 0 33 C3 [],B4 0 36 C8 [],B4 0 33 D7 []])]) (fun(k:Nat)=>k<=n/\∀j,j<k->(tg j).name<o.tenant) (fun(k:Nat)=>n-k) [5,6,16] 6164 0 ⟨by simp,fun j hj=>absurd hj (U2 j)⟩ ?_;rintro k hI R hR
 refine cB ((k:Int)<(n:Int)) (fun h2=>?_) fun h2=>?_
 ·refine cC ((0:Int)<=(k:Int)/\(k:Int)<(n:Int)) ?_
  refine gR 16 (rT n tg) (.fo 38 (rT n tg) k (B2 (tg k))) (aA zO rfl) ?_;refine cC (k=k) ?_;refine gR 16 (.fo 38 (rT n tg) k (B2 (tg k))) (rT n tg) (fC rfl rfl rfl) ?_;refine cb ((Op.bytesLess ((tg k).name) o.tenant)) (fun h3=>?_) fun h3=>?_
  ·exact cA (R:=R) hX (hR (k+1) ⟨zO,fun j hj=>(nH.1 hj).elim (hI.2 j) fun e=>by rw[e];exact(NF _ _).1 (by assumption)⟩ zO) (hS:=⟨v0,v0,v0,(vS bd),v0,zT⟩)
  refine jA 2 13076 (fun(u:Unit)=>[(2,.pr 80 0 []),(1000004,A2 [])]) (fun(u:Unit)=>[(80,A1 [.i .i64 0,.bl 1 []]),(2,wN .np o m),(3,sN 8740 5 6 s),(5,rR s),(6,rL s),(8740,.ar 38 (n+1) fun i=>T9 (fun i=>B2 (tg i)) k (A1 [.s o.tenant,.bs 32 kh,.i .i64 o.number,.i .i64 1,B4 0 33 C3 [],B4 0 36 C8 [],B4 0 33 D7 []]) i),(4,.un)]) (fun(u:Unit)=>True) [5,6,8740] (fun R hR i hi=>?_) ?_
  ·match i,hi with
  |0,_=>
    refine kH [(16,2)] [16] (HE n k (fun i=>B2 (tg i)) (A1 [.s o.tenant,.bs 32 kh,.i .i64 o.number,.i .i64 1,B4 0 33 C3 [],B4 0 36 C8 [],B4 0 33 D7 []]) bd bd rfl) ?_;rintro out ho A0 ⟨rfl,rfl,rfl⟩
    exact cA hX (hR () zT)
  |1,_=>
    refine L4 2 zK fun i hi=>?_
    match i,hi with
   |0,_|1,_=>
     refine kH [(16,2)] [16] (HE n k (fun i=>B2 (tg i)) (A1 [.s o.tenant,.bs 32 kh,.i .i64 o.number,.i .i64 1,B4 0 33 C3 [],B4 0 36 C8 [],B4 0 33 D7 []]) bd bd rfl) ?_;rintro out ho A0 ⟨rfl,rfl,rfl⟩
     exact cA hX (hR () zT)
  rintro u hJ
  refine cK [] (E6 201) ?_;rintro out A0 ⟨rfl,rfl⟩
  exact xW hX (A1 [.i .i64 201,.bl 0 []]) (ho:=[(2,wN .np o m),(3,sN 16 5 6 s),(4,.un),(5,rR s),(6,rL s),(16,.ar 38 (n+1) fun i=>B2 ((f9 tg k (⟨o.tenant,kh,o.number,1,0,fun i=>[].getD i default,0,fun i=>[].getD i default,0,fun i=>[].getD i default⟩:TenR)) i))]) ⟨_,_,(f9 tg k (⟨o.tenant,kh,o.number,1,0,fun i=>[].getD i default,0,fun i=>[].getD i default,0,fun i=>[].getD i default⟩:TenR)),rfl,rfl,rfl,.inl rfl,fun _=>by omega,fun h=>fun j hj=>OD (p:=TB) h ⟨L8 _,L8 _,L8 _,fun j hj=>absurd hj (U2 j),fun j hj=>absurd hj (U2 j),.mk0⟩ j hj zO,fun h=>h.tenI U3 zO hI.2 (by first|exact .inl zO|exact .inr (Al (by assumption))),fun j hj=>NK zO hj⟩ (hH:=⟨v0,v0,v0,v0,v0,(vT (u:=.ar 38 (n+1) fun i=>T9 (fun i=>B2 (tg i)) k (A1 [.s o.tenant,.bs 32 kh,.i .i64 o.number,.i .i64 1,B4 0 33 C3 [],B4 0 36 C8 [],B4 0 33 D7 []]) i) ((BZ (x:=(⟨o.tenant,kh,o.number,1,0,fun i=>[].getD i default,0,fun i=>[].getD i default,0,fun i=>[].getD i default⟩:TenR))))),zT⟩)
 refine jA 2 12180 (fun(u:Unit)=>[(2,.pr 80 0 []),(1000004,A2 [])]) (fun(u:Unit)=>[(80,A1 [.i .i64 0,.bl 1 []]),(2,wN .np o m),(3,sN 7844 5 6 s),(5,rR s),(6,rL s),(7844,.ar 38 (n+1) fun i=>T9 (fun i=>B2 (tg i)) k (A1 [.s o.tenant,.bs 32 kh,.i .i64 o.number,.i .i64 1,B4 0 33 C3 [],B4 0 36 C8 [],B4 0 33 D7 []]) i),(4,.un)]) (fun(u:Unit)=>True) [5,6,7844] (fun R hR i hi=>?_) ?_
 ·match i,hi with
 |0,_=>
   refine kH [(16,2)] [16] (HE n k (fun i=>B2 (tg i)) (A1 [.s o.tenant,.bs 32 kh,.i .i64 o.number,.i .i64 1,B4 0 33 C3 [],B4 0 36 C8 [],B4 0 33 D7 []]) bd bd rfl) ?_;rintro out ho A0 ⟨rfl,rfl,rfl⟩
   exact cA hX (hR () zT)
 |1,_=>
   refine L4 2 zK fun i hi=>?_
   match i,hi with
  |0,_|1,_=>
    refine kH [(16,2)] [16] (HE n k (fun i=>B2 (tg i)) (A1 [.s o.tenant,.bs 32 kh,.i .i64 o.number,.i .i64 1,B4 0 33 C3 [],B4 0 36 C8 [],B4 0 33 D7 []]) bd bd rfl) ?_;rintro out ho A0 ⟨rfl,rfl,rfl⟩
    exact cA hX (hR () zT)
 rintro u hJ
 refine cK [] (E6 201) ?_;rintro out A0 ⟨rfl,rfl⟩
 exact xW hX (A1 [.i .i64 201,.bl 0 []]) ⟨_,_,(f9 tg k (⟨o.tenant,kh,o.number,1,0,fun i=>[].getD i default,0,fun i=>[].getD i default,0,fun i=>[].getD i default⟩:TenR)),rfl,rfl,rfl,.inl rfl,fun _=>by omega,fun h=>fun j hj=>OD (p:=TB) h ⟨L8 _,L8 _,L8 _,fun j hj=>absurd hj (U2 j),fun j hj=>absurd hj (U2 j),.mk0⟩ j hj zO,fun h=>h.tenI U3 zO hI.2 (by first|exact .inl zO|exact .inr (Al (by assumption))),fun j hj=>NK zO hj⟩ (hH:=⟨v0,v0,v0,v0,v0,(vT (u:=.ar 38 (n+1) fun i=>T9 (fun i=>B2 (tg i)) k (A1 [.s o.tenant,.bs 32 kh,.i .i64 o.number,.i .i64 1,B4 0 33 C3 [],B4 0 36 C8 [],B4 0 33 D7 []]) i) ((BZ (x:=(⟨o.tenant,kh,o.number,1,0,fun i=>[].getD i default,0,fun i=>[].getD i default,0,fun i=>[].getD i default⟩:TenR))))),zT⟩)
theorem Wz(s:StaR)(o:OpT)(t:TenR)(m:Int)(n:Nat)(tg:Nat->TenR)(i0:Nat):SatHM Tryz.prog false 80 [.pr 2 0 []] [4,5,6,7,8,9] (o9 s o m n tg i0 t) (fun out ho A0=>out=A1 [.i .i64 409,.bl 0 []]/\ho=o9 s o m n tg i0 t/\A0=[4,5,6]):=by
 refine fH false Tryz.func80 fun X0 w0 hX hm=>?_
 refine cK [] (E6 409) ?_;rintro out A0 ⟨rfl,rfl⟩
 exact xW hX (A1 [.i .i64 409,.bl 0 []]) ⟨rfl,rfl,rfl⟩
def kY(d:Int):Prop:=d=2\/d=4\/d=5\/d=6\/d=9\/d=16\/d=17
structure DoP (o:OpT) (s s2:StaR) (n n2:Nat) (tg tg2:Nat->TenR) (c:Int) (b:By):Prop where
 ref:c=200\/c=201\/(s2=s/\n2=n/\(∀k,k<n->tg2 k=tg k)/\b=[])
 rd:kY o.do->s2=s/\n2=n/\∀k,k<n->tg2 k=tg k
 nb:n<=1000->n2<=1000
 tb:(∀i,i<n->TB (tg i))->∀i,i<n2->TB (tg2 i)
 nr:s.nr<=100000->s2.nr<=100000
 eq:s2.root=s.root/\s2.delay=s.delay/\s2.nl=s.nl/\s2.gl=s.gl/\s2.head=s.head
 bl:b.length<=4000000000/\(o.do=12->b.length<=20000)
 kp:∃i,∀k,k<n->∃m,m<n2/\Kp (decide (k=i/\o.do=15/\c=200)) o.now (tg k) (tg2 m)
 asc:AscK TenR.name n tg->AscK TenR.name n2 tg2
theorem Kp.all{o:OpT}{n n2:Nat}{tg tg2:Nat->TenR}{c:Int}(h:∀k,k<n->∃m,m<n2/\tg2 m=tg k):∃i,∀k,k<n->∃m,m<n2/\Kp (decide (k=i/\o.do=15/\c=200)) o.now (tg k) (tg2 m):=⟨n,fun k hk=>by
 obtain⟨m,h1,h2⟩:=h k hk
 refine⟨m,h1,?_⟩
 rw[h2,decide_eq_false fun e=>absurd e.1 zO]
 exact .rfl⟩
theorem HX{tg:Nat->TenR}{t:TenR}(h:t=tg i):∀k,F7 tg i t k=tg k:=fun k=>by
 unfold F7
 cases e:beq k i
 ·rfl
 rw[A5 e];exact h
theorem DoP.t{z:Bool}{o:OpT}{s:StaR}{n:Nat}{tg:Nat->TenR}{t t2:TenR}{c:Int}{b:By}(ht:t=tg i)(hm:MP z o t t2 c)(hb:c=200\/c=201\/b=[])(hr:kY o.do->t2=t:=by intro h;first|rfl|(exfalso;unfold kY at h;omega))(hl:b.length<=4000000000:=by first|omega|(simp;done)|(simp;omega))(h12:o.do=12->b.length<=20000:=by intro h;first|omega|(simp;done))(hz:z=decide (o.do=15/\c=200):=by first|exact(decide_eq_false fun h=>by omega).symm|exact(decide_eq_true zO).symm):DoP o s s n n tg (F7 tg i t2) c b:=
 ⟨by
  by_cases h0:c=200
  ·exact .inl h0
  by_cases h1:c=201
  ·exact .inr (.inl h1)
  ·exact .inr (.inr ⟨rfl,rfl,fun k _=>HX ((hm.1 h0 h1).trans ht) k,by rcases hb with h|h|h<;>first|contradiction|exact h⟩),fun h=>⟨rfl,rfl,fun k _=>HX ((hr h).trans ht) k⟩,id,fun h j hj=>by
  unfold F7
  cases e:beq j i
  ·exact h j hj
  ·have:=A5 e
   subst this
   exact hm.2.1 (ht▸h j hj),id,⟨rfl,rfl,rfl,rfl,rfl⟩,⟨hl,h12⟩,⟨i,fun k hk=>⟨k,hk,by
  by_cases e:k=i
  ·subst e
   rw[NI, <-ht,show decide (k=k/\o.do=15/\c=200)=z by rw[hz];simp]
   exact hm.2.2
  ·rw[NJ e,decide_eq_false fun h=>e h.1]
   exact .rfl⟩⟩,fun h a b U3 hb=>by
  have nm:∀k,(F7 tg i t2 k).name=(tg k).name:=fun k=>by
   by_cases e:k=i
   ·rw[e,NI,hm.2.2.nm,ht]
   rw[NJ e]
  rw[nm,nm]
  exact h a b U3 hb⟩
theorem DoP.s{o:OpT}{s:StaR}{n:Nat}{e:Int}{g:Nat->Int}{tg tg2:Nat->TenR}{c:Int}{b:By}(ht:∀k,k<n->tg2 k=tg k)(hb:c=200\/c=201\/(e=s.serial/\r=s.nr/\g=s.gr)/\b=[])(hn:s.nr<=100000->r<=100000)(hr:kY o.do->(e=s.serial/\r=s.nr/\g=s.gr):=by intro h;exfalso;unfold kY at h;omega)(hl:b.length<=4000000000:=by first|omega|(simp;done)|(simp;omega))(h12:o.do=12->b.length<=20000:=by intro h;first|omega|(simp;done)):DoP o s ⟨s.root,s.delay,e,r,g,s.nl,s.gl,s.head⟩ n n tg tg2 c b:=
 ⟨hb.imp id (.imp id fun⟨⟨h1,h2,h3⟩,h4⟩=>⟨by rw[h1,h2,h3],rfl,ht,h4⟩),fun h=>by obtain⟨h1,h2,h3⟩:=hr h;exact⟨by rw[h1,h2,h3],rfl,ht⟩,id,fun h j hj=>by rw[ht j hj];exact h j hj,hn,⟨rfl,rfl,rfl,rfl,rfl⟩,⟨hl,h12⟩,Kp.all fun k hk=>⟨k,hk,ht k hk⟩,fun h a b U3 hb=>by rw[ht b hb,ht a zO];exact h a b U3 hb⟩
theorem Xa{u t v:V}(h:u.nz=v:=by rfl):(bif beq i i then u else t).nz=v:=by rw[P7];exact h
theorem cW{tg:Nat->TenR}{i:Nat}{t:TenR}{l:List V}(h:l.map V.strip=[.s t.name,.bs 32 t.key,.i .i64 t.quota,.i .i64 t.next,.sl 0 33 t.nb fun i=>C3 (t.gb i),.sl 0 36 t.ns fun i=>C8 (t.gs i),.sl 0 33 t.nd fun i=>D7 (t.gd i)]):VEn (A1 l).strip (B2 (F7 tg i t i)):=by
 rw[show F7 tg i t i=t by unfold F7;rw[P7];rfl];exact MD h
theorem HY(l:By)(h0:l.length≠0)(hl:l.length<=1000000):SatM Tryz.prog false 79 [.bl 0 l] [] (fun out ho A0=>out=.os 16 1/\ho=[(16,.bs l.length l)]/\A0=[16]):=by
 refine fM false Tryz.func79 fun X0 w0 hX hm=>?_
 refine mM fO true ?_;refine c0 (l.length) (fun h1=>?_) ?_
 ·exact absurd h1 h0
 refine cC (l.length*1<=140737488355328) ?_
 exact xW hX (.os 16 1) ⟨rfl,rfl,rfl⟩
theorem An(n:Nat)(g:Nat->Ent)(hn:n<=4096)(hg:∀i,i<n->(g i).tenant.length<=100):SatHM Tryz.prog false 86 [.os 2 38] [2] [(2,.ar 38 n fun i=>H7 (g i))] (fun out ho A0=>∃l c,out=A2 [.bl 16 l,.i .i64 c]/\ho=[(2,.ar 38 n fun i=>H7 (g i))]/\A0=[2,16]/\l.length<=900000):=by
 refine fH false Tryz.func86 fun X0 w0 hX hm=>?_
 refine L5 (Rk n (fun i=>(g i)) bd hg) ?_;rintro out A0 ⟨rfl,⟨lm0,le0,rfl⟩⟩
 refine⟨rfl,?_⟩
 refine cB (le0≠0) (fun h1=>?_) fun h1=>?_
 ·exact xW hX (A2 [.bl 16 [],.i .i64 le0]) ⟨_,_,rfl,rfl,rfl,bd⟩
 refine cK [] ((mW [76,49] (u64.wrap (n:Int)) 8 bd bd).full (ins':=[.bl 1 [76,49],.i .u64 (u64.wrap (n:Int)),.i .i64 8])) ?_
 rintro out A0 ⟨lY,pe1,rfl,rfl,hp1,hq1⟩
 refine cM hX (fun(p:Nat×By)=>[(6,.bl 24 p.2),(29,.os 2 38),(30,.i .i64 (n:Int)),(31,.i .i64 (p.1:Int))]) (fun(p:Nat×By)=>[(2,.ar 38 n fun i=>H7 (g i))]) (fun(p:Nat×By)=>p.1<=n/\p.2.length<=20+200*p.1) (fun(p:Nat×By)=>n-p.1) [2,24] 1680 (0,lY) ⟨bd,bd⟩ ?_;rintro⟨k,l⟩ hI R hR
 dsimp only at hI
 refine cB ((k:Int)<(n:Int)) (fun h2=>?_) fun h2=>?_
 ·have hk:=hg k zO
  refine cC ((0:Int)<=(k:Int)/\(k:Int)<(n:Int)) ?_;refine gR 2 (.ar 38 n fun i=>H7 (g i)) (.fo 38 (.ar 38 n fun i=>H7 (g i)) k (H7 (g k))) (aA zO rfl) ?_;refine cC (k=k) ?_;refine gR 2 (.fo 38 (.ar 38 n fun i=>H7 (g i)) k (H7 (g k))) (.ar 38 n fun i=>H7 (g i)) (fC rfl rfl rfl) ?_;refine cK [] (WZ (g k) bd) ?_;rintro out A0 ⟨al2,ae2,rfl,rfl,ha2⟩
  refine cC ((l.length+al2.length)*1<=140737488355328) ?_;exact cA hX (hR (k+1,(l++al2)) ⟨bd,bd⟩ (by dsimp only;omega)) (hS:=⟨v0,v0,v0,(vS bd),zT⟩)
 exact xW hX (A2 [.bl 16 l,.i .i64 0]) ⟨_,_,rfl,rfl,rfl,bd⟩
theorem Xb(s:StaR)(o:OpT)(t:TenR)(m:Int)(n:Nat)(tg:Nat->TenR)(i0:Nat)(hB:TB t)(hO:OB o)(ht:t=tg i0)(hk:t.key.length=32/\s.head.length=32)(hr:s.nr<=100000)(hl:s.nl<=4096)(hg:∀i,i<s.nl->(s.gl i).tenant.length<=100):SatHM Tryz.prog true 29 [.pr 2 0 []] [4,5,6,7,8,9] (o9 s o m n tg i0 t) (fun out ho A0=>∃c b s2 tg2,out=A1 [.i .i64 c,.bl 0 b]/\ho=[(2,wN (.pr 4 0 [.e i0 38 n]) o m),(3,sN 4 16 6 s2),(4,rT n tg2),(5,.un),(6,rL s2),(7,.un),(8,.un),(9,.un),(16,rR s2)]/\A0=[6]/\DoP o s s2 n n tg tg2 c b):=by
 refine fH true Tryz.func29 fun X0 w0 hX hm=>?_
 have N6:=hB.nb
 have S2:=hB.ns
 have x8:=hB.nd
 have hs:=hB.ls
 refine mV 5 ?_;refine mV 7 ?_;refine mV 8 ?_;refine mV 9 ?_;refine mM fV true ?_;refine cB (o.do=1) (fun h1=>?_) fun h1=>?_
 ·refine kH [(2,2),(3,3),(4,4),(16,5),(6,6),(80,7),(144,8),(208,9)] [2,3,4,16,6,80,144,208] (Wm s o t m n tg i0 hB hO) ?_
  rintro out ho A0 ⟨c0,u0,rfl,rfl,rfl,l4⟩
  refine gZ 864 ?_;refine gZ 144 ?_;refine gZ 865 ?_;refine gR 4 (fN n tg i0 (A1 [.s u0.name,.bs 32 u0.key,.i .i64 u0.quota,.i .i64 u0.next,.sl 864 33 u0.nb fun i=>C3 (u0.gb i),.sl 144 36 u0.ns fun i=>C8 (u0.gs i),.sl 865 33 u0.nd fun i=>D7 (u0.gd i)])) (.ar 38 n fun i=>B2 (F7 tg i0 u0 i)) (T7 (cW (t:=u0) rfl) aF rfl) ?_;exact xW hX (A1 [.i .i64 c0,.bl 0 []]) ⟨_,_,s,F7 tg i0 u0,rfl,rfl,rfl,.t ht l4 (.inr (.inr rfl))⟩
 refine cB (o.do=2) (fun h2=>?_) fun h2=>?_
 ·refine kH [(2,2),(3,3),(4,4),(16,5),(6,6),(80,7),(144,8),(208,9)] [2,3,4,16,6,80,144,208] (Wn s o t m n tg i0 hB) ?_
  rintro out ho A0 ⟨c1,b1,rfl,hc1,rfl,rfl,N6⟩
  refine gZ 80 ?_;refine gZ 144 ?_;refine gZ 208 ?_;refine gR 4 (fN n tg i0 (A1 [.s t.name,.bs 32 t.key,.i .i64 t.quota,.i .i64 t.next,.sl 80 33 t.nb fun i=>C3 (t.gb i),.sl 144 36 t.ns fun i=>C8 (t.gs i),.sl 208 33 t.nd fun i=>D7 (t.gd i)])) (.ar 38 n fun i=>B2 (F7 tg i0 t i)) (T7 (cW (t:=t) rfl) aF rfl) ?_;exact xW hX (A1 [.i .i64 c1,.bl 0 b1]) ⟨_,_,s,F7 tg i0 t,rfl,rfl,rfl,.t ht .rfl (hc1.imp id .inr)⟩
 refine cB (o.do=3) (fun h3=>?_) fun h3=>?_
 ·refine gO (fun _=>hm rfl) [(2,2),(3,3),(4,4),(16,5),(6,6),(80,7),(144,8),(208,9)] [2,3,4,16,6,80,144,208] (Wp s o t m n tg i0 hB hO) ?_
  rintro out ho A0 ⟨c2,b2,u2,rfl,rfl,rfl,dH,U5,vP⟩
  refine gZ 80 ?_;refine gZ 1120 ?_;refine gZ 1121 ?_;refine gR 4 (fN n tg i0 (A1 [.s u2.name,.bs 32 u2.key,.i .i64 u2.quota,.i .i64 u2.next,.sl 80 33 u2.nb fun i=>C3 (u2.gb i),.sl 1120 36 u2.ns fun i=>C8 (u2.gs i),.sl 1121 33 u2.nd fun i=>D7 (u2.gd i)])) (.ar 38 n fun i=>B2 (F7 tg i0 u2 i)) (T7 (cW (t:=u2) rfl) aF rfl) ?_;exact xW hX (A1 [.i .i64 c2,.bl 0 b2]) ⟨_,_,s,F7 tg i0 u2,rfl,rfl,rfl,.t ht dH (.inr U5)⟩
 refine cB (o.do=4) (fun h4=>?_) fun h4=>?_
 ·refine kH [(2,2),(3,3),(4,4),(16,5),(6,6),(80,7),(144,8),(208,9)] [2,3,4,16,6,80,144,208] (Wo s o t m n tg i0 hB) ?_
  rintro out ho A0 ⟨c3,b3,rfl,hc3,rfl,rfl,x8⟩
  refine gZ 80 ?_;refine gZ 144 ?_;refine gZ 208 ?_;refine gR 4 (fN n tg i0 (A1 [.s t.name,.bs 32 t.key,.i .i64 t.quota,.i .i64 t.next,.sl 80 33 t.nb fun i=>C3 (t.gb i),.sl 144 36 t.ns fun i=>C8 (t.gs i),.sl 208 33 t.nd fun i=>D7 (t.gd i)])) (.ar 38 n fun i=>B2 (F7 tg i0 t i)) (T7 (cW (t:=t) rfl) aF rfl) ?_;exact xW hX (A1 [.i .i64 c3,.bl 0 b3]) ⟨_,_,s,F7 tg i0 t,rfl,rfl,rfl,.t ht .rfl (hc3.imp id .inr)⟩
 refine jB (o.do=5) 5392 (fun(q:Bool)=>[(0,.pr 2 0 []),(2,.pr 272 0 []),(9,.i .i64 o.do),(26,.b q),(1000004,A2 [])]) (fun(q:Bool)=>[(2,wN (.pr 4 0 [.e i0 38 n]) o m),(3,sN 4 16 6 s),(6,rL s),(16,rR s),(4,fN n tg i0 (tN 80 144 208 t)),(80,rB t),(144,E1 t),(208,rD t),(272,A1 [.i .i64 0,.bl 1 []]),(5,.un),(7,.un),(8,.un),(9,.un)]) (fun(q:Bool)=>(q=true->5<=o.do/\o.do<=8)/\(q=false->¬(5<=o.do/\o.do<=8))) [4,6,16,80,144,208] (fun R hR=>⟨fun h5=>?_,fun h5=>?_⟩) ?_
 ·exact cA hX (hR (decide (o.do=5)) ⟨by intro hq;simp at hq;omega,by intro hq;simp at hq;omega⟩)
 ·refine cB (o.do=6) (fun h6=>?_) fun h6=>?_
  ·exact cA hX (hR (decide (o.do=6)) ⟨by intro hq;simp at hq;omega,by intro hq;simp at hq;omega⟩)
  refine cB (o.do=7) (fun h7=>?_) fun h7=>?_
  ·exact cA hX (hR (decide (o.do=7)) ⟨by intro hq;simp at hq;omega,by intro hq;simp at hq;omega⟩)
  exact cA hX (hR (decide (o.do=8)) ⟨by intro hq;simp at hq;omega,by intro hq;simp at hq;omega⟩)
 rintro q hJ
 refine cb (q) (fun h8=>?_) fun h8=>?_
 ·refine gO (fun _=>hm rfl) [(2,2),(3,3),(4,4),(16,5),(6,6),(80,7),(144,8),(208,9)] [2,3,4,16,6,80,144,208] (Wq s o t m n tg i0 hB hO) ?_
  rintro out ho A0 ⟨c4,b4,u4,rfl,rfl,rfl,hm4,hc4,hb4,hr4⟩
  refine gZ 80 ?_;refine gZ 5472 ?_;refine gZ 208 ?_;refine gR 4 (fN n tg i0 (A1 [.s u4.name,.bs 32 u4.key,.i .i64 u4.quota,.i .i64 u4.next,.sl 80 33 u4.nb fun i=>C3 (u4.gb i),.sl 5472 36 u4.ns fun i=>C8 (u4.gs i),.sl 208 33 u4.nd fun i=>D7 (u4.gd i)])) (.ar 38 n fun i=>B2 (F7 tg i0 u4 i)) (T7 (cW (t:=u4) rfl) aF rfl) ?_;exact xW hX (A1 [.i .i64 c4,.bl 0 b4]) ⟨_,_,s,F7 tg i0 u4,rfl,rfl,rfl,.t ht hm4 (hc4.imp id .inr) (fun h=>hr4 (by unfold kY at h;omega) (by unfold kY at h;omega)) (h12:=fun h=>absurd (hJ.1 (by assumption)) zO) (hz:=(decide_eq_false fun h=>absurd (hJ.1 (by assumption)) zO).symm)⟩
 refine cB (o.do=9) (fun h9=>?_) fun h9=>?_
 ·refine kB (SatM.weak (ins':=[(bif beq i0 i0 then .bl 0 ((t.key.drop 0).take 32) else .uk 1:V).nz]) (HY ((t.key.drop 0).take 32) (by simp only[F6,K5];omega) bd) ⟨(VA.of_eq Xa),zT⟩) ?_
  rintro out ho A0 ⟨rfl,rfl,rfl⟩
  refine⟨⟨rfl,CA trivial⟩,?_⟩
  refine gZ 5984 ?_;refine cK [] (kV ((t.key.drop 0).take 32)) ?_;rintro out A0 ⟨rfl,rfl⟩
  refine gZ 80 ?_;refine gZ 144 ?_;refine gZ 208 ?_;refine gR 4 (fN n tg i0 (A1 [.s t.name,.bs 32 t.key,.i .i64 t.quota,.i .i64 t.next,.sl 80 33 t.nb fun i=>C3 (t.gb i),.sl 144 36 t.ns fun i=>C8 (t.gs i),.sl 208 33 t.nd fun i=>D7 (t.gd i)])) (.ar 38 n fun i=>B2 (F7 tg i0 t i)) (T7 (cW (t:=t) rfl) aF rfl) ?_;exact xW hX (A1 [.i .i64 200,.bl 0 ((t.key.drop 0).take 32)]) ⟨_,_,s,F7 tg i0 t,rfl,rfl,rfl,.t ht .rfl (.inl rfl)⟩
 refine cB (o.do=10) (fun J7=>?_) fun J7=>?_
 ·refine kH [(2,2),(3,3),(4,4),(16,5),(6,6),(80,7),(144,8),(208,9)] [2,3,4,16,6,80,144,208] (Wz s o t m n tg i0) ?_
  rintro out ho A0 ⟨rfl,rfl,rfl⟩
  refine gZ 80 ?_;refine gZ 144 ?_;refine gZ 208 ?_;refine gR 4 (fN n tg i0 (A1 [.s t.name,.bs 32 t.key,.i .i64 t.quota,.i .i64 t.next,.sl 80 33 t.nb fun i=>C3 (t.gb i),.sl 144 36 t.ns fun i=>C8 (t.gs i),.sl 208 33 t.nd fun i=>D7 (t.gd i)])) (.ar 38 n fun i=>B2 (F7 tg i0 t i)) (T7 (cW (t:=t) rfl) aF rfl) ?_;exact xW hX (A1 [.i .i64 409,.bl 0 []]) ⟨_,_,s,F7 tg i0 t,rfl,rfl,rfl,.t ht .rfl (.inr (.inr rfl))⟩
 refine cB (o.do=11) (fun P5=>?_) fun P5=>?_
 ·refine cC (i0=i0) ?_
  refine L5 (YB ⟨t.name,t.key,t.quota,t.next,t.nb,t.gb,t.ns,t.gs,t.nd,t.gd⟩ bd bd hs) ?_;rintro out A0 ⟨rfl,⟨uu6,rfl⟩⟩
  refine⟨rfl,?_⟩
  refine cB (o.number<uu6) (fun h12=>?_) fun h12=>?_
  ·refine cK [] (E6 409) ?_
   rintro out A0 ⟨rfl,rfl⟩
   refine gZ 80 ?_;refine gZ 144 ?_;refine gZ 208 ?_;refine gR 4 (fN n tg i0 (A1 [.s t.name,.bs 32 t.key,.i .i64 t.quota,.i .i64 t.next,.sl 80 33 t.nb fun i=>C3 (t.gb i),.sl 144 36 t.ns fun i=>C8 (t.gs i),.sl 208 33 t.nd fun i=>D7 (t.gd i)])) (.ar 38 n fun i=>B2 (F7 tg i0 t i)) (T7 (cW (t:=t) rfl) aF rfl) ?_;exact xW hX (A1 [.i .i64 409,.bl 0 []]) ⟨_,_,s,F7 tg i0 t,rfl,rfl,rfl,.t ht .rfl (.inr (.inr rfl))⟩
  refine cC (i0=i0) ?_
  refine cK [] (E6 200) ?_;rintro out A0 ⟨rfl,rfl⟩
  refine gZ 80 ?_;refine gZ 144 ?_;refine gZ 208 ?_;refine gR 4 (fN n tg i0 (A1 [.s t.name,.bs 32 t.key,.i .i64 o.number,.i .i64 t.next,.sl 80 33 t.nb fun i=>C3 (t.gb i),.sl 144 36 t.ns fun i=>C8 (t.gs i),.sl 208 33 t.nd fun i=>D7 (t.gd i)])) (.ar 38 n fun i=>B2 (F7 tg i0 (⟨t.name,t.key,o.number,t.next,t.nb,t.gb,t.ns,t.gs,t.nd,t.gd⟩) i)) (T7 (cW (t:=⟨t.name,t.key,o.number,t.next,t.nb,t.gb,t.ns,t.gs,t.nd,t.gd⟩) rfl) aF rfl) ?_;exact xW hX (A1 [.i .i64 200,.bl 0 []]) ⟨_,_,s,F7 tg i0 (⟨t.name,t.key,o.number,t.next,t.nb,t.gb,t.ns,t.gs,t.nd,t.gd⟩),rfl,rfl,rfl,.t ht (.of (.inl rfl) (fun h=>⟨h.nb,h.ns,h.nd,h.db,h.ls,h.asc⟩) (.mk1 rfl (fun j h=>⟨j,h,rfl⟩) fun j h=>⟨j,h,rfl⟩)) (.inl rfl)⟩
 refine cB (o.do=12) (fun v8=>?_) fun v8=>?_
 ·refine kH [(2,2),(3,3),(4,4),(16,5),(6,6),(80,7),(144,8),(208,9)] [2,3,4,16,6,80,144,208] (Wu s o t m n tg i0 hO) ?_
  rintro out ho A0 ⟨c7,b7,e7,rfl,rfl,rfl,hc7,hb7⟩
  refine gZ 80 ?_;refine gZ 144 ?_;refine gZ 208 ?_;refine gR 4 (fN n tg i0 (A1 [.s t.name,.bs 32 t.key,.i .i64 t.quota,.i .i64 t.next,.sl 80 33 t.nb fun i=>C3 (t.gb i),.sl 144 36 t.ns fun i=>C8 (t.gs i),.sl 208 33 t.nd fun i=>D7 (t.gd i)])) (.ar 38 n fun i=>B2 (F7 tg i0 t i)) (T7 (cW (t:=t) rfl) aF rfl) ?_;exact xW hX (A1 [.i .i64 c7,.bl 0 b7]) ⟨_,_,⟨s.root,s.delay,e7,s.nr,s.gr,s.nl,s.gl,s.head⟩,F7 tg i0 t,rfl,rfl,rfl,.s (fun k _=>HX ht k) (.inr (hc7.imp id fun h=>⟨⟨h.1,rfl,rfl⟩,h.2⟩)) id⟩
 refine cB (o.do=13) (fun bW=>?_) fun bW=>?_
 ·refine kH [(2,2),(3,3),(4,4),(16,5),(6,6),(80,7),(144,8),(208,9)] [2,3,4,16,6,80,144,208] (Wv s o t m n tg i0 hr) ?_
  rintro out ho A0 ⟨c8,r8,g8,rfl,rfl,rfl,hc8,hr8⟩
  refine gZ 80 ?_;refine gZ 144 ?_;refine gZ 208 ?_;refine gR 4 (fN n tg i0 (A1 [.s t.name,.bs 32 t.key,.i .i64 t.quota,.i .i64 t.next,.sl 80 33 t.nb fun i=>C3 (t.gb i),.sl 144 36 t.ns fun i=>C8 (t.gs i),.sl 208 33 t.nd fun i=>D7 (t.gd i)])) (.ar 38 n fun i=>B2 (F7 tg i0 t i)) (T7 (cW (t:=t) rfl) aF rfl) ?_;exact xW hX (A1 [.i .i64 c8,.bl 0 []]) ⟨_,_,⟨s.root,s.delay,s.serial,r8,g8,s.nl,s.gl,s.head⟩,F7 tg i0 t,rfl,rfl,rfl,.s (fun k _=>HX ht k) (hc8.imp id fun h=>.inr ⟨⟨rfl,h⟩,rfl⟩) (fun _=>hr8)⟩
 refine cB (o.do=14) (fun aR=>?_) fun aR=>?_
 ·refine kH [(2,2),(3,3),(4,4),(16,5),(6,6),(80,7),(144,8),(208,9)] [2,3,4,16,6,80,144,208] (Ws s o t m n tg i0 hB hO) ?_
  rintro out ho A0 ⟨c9,b9,u9,rfl,rfl,rfl,hm9,hc9,hb9⟩
  refine gZ 80 ?_;refine gZ 144 ?_;refine gZ 6240 ?_;refine gR 4 (fN n tg i0 (A1 [.s u9.name,.bs 32 u9.key,.i .i64 u9.quota,.i .i64 u9.next,.sl 80 33 u9.nb fun i=>C3 (u9.gb i),.sl 144 36 u9.ns fun i=>C8 (u9.gs i),.sl 6240 33 u9.nd fun i=>D7 (u9.gd i)])) (.ar 38 n fun i=>B2 (F7 tg i0 u9 i)) (T7 (cW (t:=u9) rfl) aF rfl) ?_;exact xW hX (A1 [.i .i64 c9,.bl 0 b9]) ⟨_,_,s,F7 tg i0 u9,rfl,rfl,rfl,.t ht hm9 (.inl hc9)⟩
 refine cB (o.do=15) (fun K3=>?_) fun K3=>?_
 ·refine gO (fun _=>hm rfl) [(2,2),(3,3),(4,4),(16,5),(6,6),(80,7),(144,8),(208,9)] [2,3,4,16,6,80,144,208] (Wt s o t m n tg i0 hB hO) ?_
  rintro out ho A0 ⟨c10,b10,fU,rfl,rfl,rfl,hm10,hc10,hb10⟩
  refine gZ 6368 ?_;refine gZ 6369 ?_;refine gZ 6370 ?_;refine gR 4 (fN n tg i0 (A1 [.s fU.name,.bs 32 fU.key,.i .i64 fU.quota,.i .i64 fU.next,.sl 6368 33 fU.nb fun i=>C3 (fU.gb i),.sl 6369 36 fU.ns fun i=>C8 (fU.gs i),.sl 6370 33 fU.nd fun i=>D7 (fU.gd i)])) (.ar 38 n fun i=>B2 (F7 tg i0 fU i)) (T7 (cW (t:=fU) rfl) aF rfl) ?_;exact xW hX (A1 [.i .i64 c10,.bl 0 b10]) ⟨_,_,s,F7 tg i0 fU,rfl,rfl,rfl,.t ht hm10 (.inl hc10)⟩
 refine cB (o.do=16) (fun h17=>?_) fun h17=>?_
 ·refine kH [(6,2)] [6] (An s.nl s.gl bd hg) ?_
  rintro out ho A0 ⟨xb11,xe11,rfl,rfl,rfl,hxb11⟩
  refine cK [] (kV xb11) ?_;rintro out A0 ⟨rfl,rfl⟩
  refine gZ 80 ?_;refine gZ 144 ?_;refine gZ 208 ?_;refine gR 4 (fN n tg i0 (A1 [.s t.name,.bs 32 t.key,.i .i64 t.quota,.i .i64 t.next,.sl 80 33 t.nb fun i=>C3 (t.gb i),.sl 144 36 t.ns fun i=>C8 (t.gs i),.sl 208 33 t.nd fun i=>D7 (t.gd i)])) (.ar 38 n fun i=>B2 (F7 tg i0 t i)) (T7 (cW (t:=t) rfl) aF rfl) ?_;exact xW hX (A1 [.i .i64 200,.bl 0 xb11]) ⟨_,_,s,F7 tg i0 t,rfl,rfl,rfl,.t ht .rfl (.inl rfl)⟩
 refine kB (HY ((s.head.drop 0).take 32) (by simp only[F6,K5];omega) bd) ?_
 rintro out ho A0 ⟨rfl,rfl,rfl⟩
 refine⟨⟨rfl,CA trivial⟩,?_⟩
 refine gZ 6880 ?_;refine cK [] (kV ((s.head.drop 0).take 32)) ?_;rintro out A0 ⟨rfl,rfl⟩
 refine gZ 80 ?_;refine gZ 144 ?_;refine gZ 208 ?_;refine gR 4 (fN n tg i0 (A1 [.s t.name,.bs 32 t.key,.i .i64 t.quota,.i .i64 t.next,.sl 80 33 t.nb fun i=>C3 (t.gb i),.sl 144 36 t.ns fun i=>C8 (t.gs i),.sl 208 33 t.nd fun i=>D7 (t.gd i)])) (.ar 38 n fun i=>B2 (F7 tg i0 t i)) (T7 (cW (t:=t) rfl) aF rfl) ?_;exact xW hX (A1 [.i .i64 200,.bl 0 ((s.head.drop 0).take 32)]) ⟨_,_,s,F7 tg i0 t,rfl,rfl,rfl,.t ht .rfl (.inl rfl)⟩
theorem DoP.n{o:OpT}{s:StaR}{n n2:Nat}{tg tg2:Nat->TenR}{c:Int}(hc:c=201\/n2=n/\tg2=tg)(hn:n<=1000->n2<=1000)(ht:(∀i,i<n->TB (tg i))->∀i,i<n2->TB (tg2 i))(ha:AscK TenR.name n tg->AscK TenR.name n2 tg2)(hk:∀k,k<n->∃m,m<n2/\tg2 m=tg k)(hr:¬ kY o.do:=by unfold kY;omega):DoP o s s n n2 tg tg2 c []:=
 ⟨.inr (hc.imp id fun h=>⟨rfl,h.1,fun k _=>by rw[h.2],rfl⟩),fun h=>absurd h hr,hn,ht,id,⟨rfl,rfl,rfl,rfl,rfl⟩,⟨by simp,fun _=>by simp⟩,Kp.all hk,ha⟩
theorem Ao(s:StaR)(o:OpT)(m:Int)(n:Nat)(tg:Nat->TenR)(hn:n<=1000)(hO:OB o)(hd:o.do=10\/o.do=12\/o.do=13\/o.do=16\/o.do=17)(U3:AscK TenR.name n tg->∀j,j<n->(tg j).name≠o.tenant)(hk:s.head.length=32)(hr:s.nr<=100000)(hl:s.nl<=4096)(hg:∀i,i<s.nl->(s.gl i).tenant.length<=100):SatHM Tryz.prog true 29 [.pr 2 0 []] [4,5,6] (gW s o m n tg) (fun out ho A0=>∃c b s2 n2 tg2,out=A1 [.i .i64 c,.bl 0 b]/\ho=[(2,wN .np o m),(3,sN 17 16 6 s2),(4,.un),(5,.un),(6,rL s2),(16,rR s2),(17,rT n2 tg2)]/\A0=[6]/\DoP o s s2 n n2 tg tg2 c b):=by
 refine fH true Tryz.func29 fun X0 w0 hX hm=>?_
 refine mV 5 ?_;refine mV 4 ?_;refine mM fV true ?_;refine cB (o.do=1) (fun h1=>?_) fun h1=>?_
 ·exact absurd hd zO
 refine cB (o.do=2) (fun h2=>?_) fun h2=>?_
 ·exact absurd hd zO
 refine cB (o.do=3) (fun h3=>?_) fun h3=>?_
 ·exact absurd hd zO
 refine cB (o.do=4) (fun h4=>?_) fun h4=>?_
 ·exact absurd hd zO
 refine cB (o.do=5) (fun h5=>?_) fun h5=>?_
 ·exact absurd hd zO
 refine cB (o.do=6) (fun h6=>?_) fun h6=>?_
 ·exact absurd hd zO
 refine cB (o.do=7) (fun h7=>?_) fun h7=>?_
 ·exact absurd hd zO
 refine cB (o.do=8) (fun h8=>?_) fun h8=>?_
 ·exact absurd hd zO
 refine cB (o.do=9) (fun h9=>?_) fun h9=>?_
 ·exact absurd hd zO
 refine cB (o.do=10) (fun J7=>?_) fun J7=>?_
 ·refine kH [(2,2),(3,3),(80,4),(16,5),(6,6)] [2,3,80,16,6] (Wy s o m n tg hn hO U3) ?_
  rintro out ho A0 ⟨c0,n0,tg0,rfl,rfl,rfl,vR,vL,rE,ha0,lK⟩
  exact xW hX (A1 [.i .i64 c0,.bl 0 []]) ⟨_,_,s,n0,tg0,rfl,rfl,rfl,.n vR vL rE ha0 lK⟩
 refine cB (o.do=11) (fun P5=>?_) fun P5=>?_
 ·exact absurd hd zO
 refine cB (o.do=12) (fun h12=>?_) fun h12=>?_
 ·refine kH [(2,2),(3,3),(80,4),(16,5),(6,6)] [2,3,80,16,6] (Ww s o m n tg hO) ?_
  rintro out ho A0 ⟨c1,b1,e1,rfl,rfl,rfl,hc1,N6⟩
  exact xW hX (A1 [.i .i64 c1,.bl 0 b1]) ⟨_,_,⟨s.root,s.delay,e1,s.nr,s.gr,s.nl,s.gl,s.head⟩,n,tg,rfl,rfl,rfl,.s (fun _ _=>rfl) (.inr (hc1.imp id fun h=>⟨⟨h.1,rfl,rfl⟩,h.2⟩)) id⟩
 refine cB (o.do=13) (fun v8=>?_) fun v8=>?_
 ·refine kH [(2,2),(3,3),(80,4),(16,5),(6,6)] [2,3,80,16,6] (Wx s o m n tg hr) ?_
  rintro out ho A0 ⟨c2,r2,g2,rfl,rfl,rfl,U5,dE⟩
  exact xW hX (A1 [.i .i64 c2,.bl 0 []]) ⟨_,_,⟨s.root,s.delay,s.serial,r2,g2,s.nl,s.gl,s.head⟩,n,tg,rfl,rfl,rfl,.s (fun _ _=>rfl) (U5.imp id fun h=>.inr ⟨⟨rfl,h⟩,rfl⟩) (fun _=>dE)⟩
 refine cB (o.do=14) (fun bW=>?_) fun bW=>?_
 ·exact absurd hd zO
 refine cB (o.do=15) (fun aR=>?_) fun aR=>?_
 ·exact absurd hd zO
 refine cB (o.do=16) (fun K3=>?_) fun K3=>?_
 ·refine kH [(6,2)] [6] (An s.nl s.gl bd hg) ?_
  rintro out ho A0 ⟨xb3,xe3,rfl,rfl,rfl,hxb3⟩
  refine cK [] (kV xb3) ?_;rintro out A0 ⟨rfl,rfl⟩
  exact xW hX (A1 [.i .i64 200,.bl 0 xb3]) ⟨_,_,s,n,tg,rfl,rfl,rfl,.s (fun _ _=>rfl) (.inl rfl) id (fun _=>⟨rfl,rfl,rfl⟩)⟩
 refine kB (HY ((s.head.drop 0).take 32) (by simp only[F6,K5];omega) bd) ?_
 rintro out ho A0 ⟨rfl,rfl,rfl⟩
 refine⟨⟨rfl,CA trivial⟩,?_⟩
 refine gZ 3040 ?_;refine cK [] (kV ((s.head.drop 0).take 32)) ?_;rintro out A0 ⟨rfl,rfl⟩
 exact xW hX (A1 [.i .i64 200,.bl 0 ((s.head.drop 0).take 32)]) ⟨_,_,s,n,tg,rfl,rfl,rfl,.s (fun _ _=>rfl) (.inl rfl) id (fun _=>⟨rfl,rfl,rfl⟩)⟩
theorem kZ{n:Nat}{tg:Nat->TenR}{x:By}{p:Bool}(h:AscK TenR.name n tg)(hb:BsP n (fun k=>Lib.compareBytes (tg k).name x) j p)(hp:p=false):∀k,k<n->(tg k).name≠x:=fun k hk e=>by
 subst hp
 obtain⟨h1,h2⟩:=h.at hb
 by_cases q:k<j
 ·exact absurd (h1 k q) (by rw[e];exact List.lt_irrefl _)
 exact absurd (h2 k zO hk) (by rw[e];exact List.lt_irrefl _)
theorem VA.row{t z n:Nat}{g:Nat->V}{v:V}(h:VW v (g i))(hm:(g i).mem=true):VA (.sl t z n fun k=>bif beq k i then v else g k) (.sl t z n g):=fun X x ⟨h0,a,cap,q1,q2,q3,q4,q5,q6⟩=>
 ⟨h0,a,cap,q1,q2,q3,q4,q5,q6.imp id fun⟨b,o,r1,r2,r3⟩=>⟨b,o,r1,fun k hk=>by
  obtain⟨es,s1,s2,s3,s4⟩:=r2 k hk
  dsimp only at s1 s3
  cases e:beq k i
  ·rw[e]at s1 s3;exact⟨es,s1,s2,s3,s4⟩
  have:=A5 e
  subst this
  rw[e]at s1 s3;exact⟨es,h X es s1,s2,hm,s4⟩,r3⟩⟩
theorem Xc{n i0:Nat}{tg:Nat->TenR}{t:TenR}(hi:i0<n)(ht:t=tg i0):VA (dR 38 (tP 38 i0 (rT n tg) (B2 t))).nz (.sl 0 38 n fun k=>B2 (tg k)):=by
 unfold rT
 rw[Oz hi rfl]
 exact VA.row (g:=fun k=>B2 (tg k)) (VW.of_eq (by rw[ht])) rfl
def HZ(p:V)(s:StaR)(o:OpT)(m:Int)(n:Nat)(tg:Nat->TenR)(i0:Nat)(t:TenR):List (Nat×V):=[(2,wN p o m),(3,sN 4 5 6 s),(4,fN n tg i0 (tN 7 8 9 t)),(5,rR s),(6,rL s),(7,rB t),(8,E1 t),(9,rD t)]
def HN(o:OpT):Prop:=o.do=10\/o.do=12\/o.do=13\/o.do=16\/o.do=17
theorem Xd(s:StaR)(o:OpT)(t:TenR)(m:Int)(n:Nat)(tg:Nat->TenR)(i0:Nat)(hO:o.token.length<=50000)(hn:n<=1000)(hi:i0<n)(h0:i0=yL n tg o.tenant)(ht:t=tg i0)(hr:s.nr<=100000):SatHM Tryz.prog false 28 [.pr 2 0 []] [4,5,6,7,8,9] (HZ .np s o m n tg i0 t) (fun out ho A0=>∃c m2,out=A1 [.i .i64 c,.bl 0 []]/\A0=[4,5,6,7,8,9]/\((c≠0/\ho=HZ .np s o m2 n tg i0 t)\/(c=0/\ho=HZ (.pr 4 0 [.e i0 38 n]) s o m2 n tg i0 t)\/(c=0/\HN o/\(AscK TenR.name n tg->∀j,j<n->(tg j).name≠o.tenant)/\ho=HZ .np s o m2 n tg i0 t))):=by
 refine fH false Tryz.func28 fun X0 w0 hX hm=>?_
 have hbs:=NL n tg o.tenant bd
 rw[<-h0]at hbs
 refine cB ((o.token.length:Int)=0) (fun h1=>?_) fun h1=>?_
 ·refine cK [] (E6 401) ?_
  rintro out A0 ⟨rfl,rfl⟩
  exact xW hX (A1 [.i .i64 401,.bl 0 []]) ⟨_,m,rfl,rfl,.inl ⟨by decide,rfl⟩⟩
 refine cK [] (WV o.token bd) ?_
 rintro out A0 ⟨rfl,⟨K9,bY,rfl,htk0,htc0⟩⟩
 refine cB (bY≠0) (fun h2=>?_) fun h2=>?_
 ·refine cK [] (E6 401) ?_
  rintro out A0 ⟨rfl,rfl⟩
  exact xW hX (A1 [.i .i64 401,.bl 0 []]) ⟨_,m,rfl,rfl,.inl ⟨by decide,rfl⟩⟩
 refine cK [] (WU s.root K9 o.now bd bd) ?_
 rintro out A0 ⟨rfl,⟨ck1,rfl⟩⟩
 refine cB (ck1≠0) (fun h3=>?_) fun h3=>?_
 ·refine cK [] (E6 401) ?_
  rintro out A0 ⟨rfl,rfl⟩
  exact xW hX (A1 [.i .i64 401,.bl 0 []]) ⟨_,m,rfl,rfl,.inl ⟨by decide,rfl⟩⟩
 refine L5 (BS s.nr s.gr K9.serial bd) ?_
 rintro out A0 ⟨rfl,⟨bj2,bp2,rfl,hbj2,hbp2⟩⟩
 refine⟨rfl,?_⟩
 refine cb (bp2) (fun h4=>?_) fun h4=>?_
 ·refine cK [] (E6 401) ?_
  rintro out A0 ⟨rfl,rfl⟩
  exact xW hX (A1 [.i .i64 401,.bl 0 []]) ⟨_,m,rfl,rfl,.inl ⟨by decide,rfl⟩⟩
 refine cK [] (WH o.do) ?_
 rintro out A0 ⟨rfl,⟨nd3,ne3,rfl⟩⟩
 refine cK [] (MZ K9 bd) ?_;rintro out A0 ⟨rfl,⟨er4,eu4,rfl⟩⟩
 refine cK [] (WI er4 nd3) ?_;rintro out A0 ⟨rfl,⟨cv5,rfl⟩⟩
 refine cn (cv5) (fun h5=>?_) fun h5=>?_
 ·refine cK [] (E6 403) ?_
  rintro out A0 ⟨rfl,rfl⟩
  exact xW hX (A1 [.i .i64 403,.bl 0 []]) ⟨_,K9.serial,rfl,rfl,.inl ⟨by decide,rfl⟩⟩
 refine jb (!(decide (K9.tenant=[]))) 9744 (fun(q:Bool)=>[(0,.pr 2 0 []),(2,.pr 16 0 []),(111,.b q)]) (fun(q:Bool)=>[(2,wN .np o (K9.serial)),(3,sN 4 5 6 s),(4,fN n tg i0 (tN 7 8 9 t)),(7,rB t),(8,E1 t),(9,rD t),(5,rR s),(6,rL s),(16,A1 [.i .i64 0,.bl 1 []])]) (fun(q:Bool)=>True) [4,5,6,7,8,9] (fun R hR=>⟨fun h6=>?_,fun h6=>?_⟩) ?_
 ·replace h6:=WR h6
  replace h6:=of_decide_eq_false h6
  refine cK [] (MV o.do) ?_;rintro out A0 ⟨rfl,⟨pr6,rfl⟩⟩
  refine cb (pr6) (fun h7=>?_) fun h7=>?_
  ·exact cA hX (hR true trivial) (hS:=⟨v0,v0,(vT (.bc true)),zT⟩)
  exact cA hX (hR (!(decide (K9.tenant=o.tenant))) zT)
 ·replace h6:=jM h6
  replace h6:=of_decide_eq_true h6
  exact cA hX (hR false trivial) (hS:=⟨v0,v0,(vT (.bc false)),zT⟩)
 rintro q hJ
 refine cb (q) (fun h8=>?_) fun h8=>?_
 ·refine cK [] (E6 403) ?_
  rintro out A0 ⟨rfl,rfl⟩
  exact xW hX (A1 [.i .i64 403,.bl 0 []]) ⟨_,K9.serial,rfl,rfl,.inl ⟨by decide,rfl⟩⟩
 refine L5 (SatM.weak (ins':=[(dR 38 (tP 38 i0 (rT n tg) (A1 [.s t.name,.bs 32 t.key,.i .i64 t.quota,.i .i64 t.next,.sl 0 33 t.nb fun i=>C3 (t.gb i),.sl 0 36 t.ns fun i=>C8 (t.gs i),.sl 0 33 t.nd fun i=>D7 (t.gd i)])):V).nz,.s o.tenant,.fn 71 0 fun _=>.un]) (hbs) ⟨(Xc hi ht),VA.rfl,VA.rfl,zT⟩) ?_
 rintro out A0 ⟨rfl,⟨bp7,rfl,iP⟩⟩
 refine⟨rfl,?_⟩
 refine cb (bp7) (fun h9=>?_) fun h9=>?_
 ·refine cC ((0:Int)<=(i0:Int)/\(i0:Int)<(n:Int)) ?_
  refine cK [] (E6 0) ?_;rintro out A0 ⟨rfl,rfl⟩
  exact xW hX (A1 [.i .i64 0,.bl 0 []]) ⟨_,K9.serial,rfl,rfl,.inr (.inl ⟨rfl,rfl⟩)⟩
 refine cB (o.do=10) (fun J7=>?_) fun J7=>?_
 ·refine O6 (o.do=10) J7 ?_
  refine cK [] (E6 0) ?_;rintro out A0 ⟨rfl,rfl⟩
  exact xW hX (A1 [.i .i64 0,.bl 0 []]) ⟨_,K9.serial,rfl,rfl,.inr (.inr ⟨rfl,by unfold HN;omega,fun h=>kZ h iP (by assumption),rfl⟩)⟩
 refine cB (o.do=13) (fun P5=>?_) fun P5=>?_
 ·refine O6 (o.do=13) P5 ?_
  refine cK [] (E6 0) ?_;rintro out A0 ⟨rfl,rfl⟩
  exact xW hX (A1 [.i .i64 0,.bl 0 []]) ⟨_,K9.serial,rfl,rfl,.inr (.inr ⟨rfl,by unfold HN;omega,fun h=>kZ h iP (by assumption),rfl⟩)⟩
 refine cB (o.do=16) (fun h12=>?_) fun h12=>?_
 ·refine O6 (o.do=16) h12 ?_
  refine cK [] (E6 0) ?_;rintro out A0 ⟨rfl,rfl⟩
  exact xW hX (A1 [.i .i64 0,.bl 0 []]) ⟨_,K9.serial,rfl,rfl,.inr (.inr ⟨rfl,by unfold HN;omega,fun h=>kZ h iP (by assumption),rfl⟩)⟩
 refine cB (o.do=17) (fun v8=>?_) fun v8=>?_
 ·refine cK [] (E6 0) ?_
  rintro out A0 ⟨rfl,rfl⟩
  exact xW hX (A1 [.i .i64 0,.bl 0 []]) ⟨_,K9.serial,rfl,rfl,.inr (.inr ⟨rfl,by unfold HN;omega,fun h=>kZ h iP (by assumption),rfl⟩)⟩
 refine cB (o.do=12) (fun bW=>?_) fun bW=>?_
 ·refine cB (o.tenant=[]) (fun aR=>?_) fun aR=>?_
  ·refine cK [] (E6 0) ?_
   rintro out A0 ⟨rfl,rfl⟩
   exact xW hX (A1 [.i .i64 0,.bl 0 []]) ⟨_,K9.serial,rfl,rfl,.inr (.inr ⟨rfl,by unfold HN;omega,fun h=>kZ h iP (by assumption),rfl⟩)⟩
  refine cK [] (E6 404) ?_
  rintro out A0 ⟨rfl,rfl⟩
  exact xW hX (A1 [.i .i64 404,.bl 0 []]) ⟨_,K9.serial,rfl,rfl,.inl ⟨by decide,rfl⟩⟩
 refine cK [] (E6 404) ?_
 rintro out A0 ⟨rfl,rfl⟩
 exact xW hX (A1 [.i .i64 404,.bl 0 []]) ⟨_,K9.serial,rfl,rfl,.inl ⟨by decide,rfl⟩⟩
theorem Xe(s:StaR)(o:OpT)(m:Int)(n:Nat)(tg:Nat->TenR)(hO:o.token.length<=50000)(hn:n<=1000)(h0:n<=yL n tg o.tenant)(hr:s.nr<=100000):SatHM Tryz.prog false 28 [.pr 2 0 []] [4,5,6] (gW s o m n tg) (fun out ho A0=>∃c m2,out=A1 [.i .i64 c,.bl 0 []]/\A0=[4,5,6]/\ho=gW s o m2 n tg/\(c=0->HN o/\(AscK TenR.name n tg->∀j,j<n->(tg j).name≠o.tenant))):=by
 refine fH false Tryz.func28 fun X0 w0 hX hm=>?_
 refine cB ((o.token.length:Int)=0) (fun h1=>?_) fun h1=>?_
 ·refine cK [] (E6 401) ?_
  rintro out A0 ⟨rfl,rfl⟩
  exact xW hX (A1 [.i .i64 401,.bl 0 []]) ⟨_,m,rfl,rfl,rfl,fun h=>absurd h (by decide)⟩
 refine cK [] (WV o.token bd) ?_
 rintro out A0 ⟨rfl,⟨K9,bY,rfl,htk0,htc0⟩⟩
 refine cB (bY≠0) (fun h2=>?_) fun h2=>?_
 ·refine cK [] (E6 401) ?_
  rintro out A0 ⟨rfl,rfl⟩
  exact xW hX (A1 [.i .i64 401,.bl 0 []]) ⟨_,m,rfl,rfl,rfl,fun h=>absurd h (by decide)⟩
 refine cK [] (WU s.root K9 o.now bd bd) ?_
 rintro out A0 ⟨rfl,⟨ck1,rfl⟩⟩
 refine cB (ck1≠0) (fun h3=>?_) fun h3=>?_
 ·refine cK [] (E6 401) ?_
  rintro out A0 ⟨rfl,rfl⟩
  exact xW hX (A1 [.i .i64 401,.bl 0 []]) ⟨_,m,rfl,rfl,rfl,fun h=>absurd h (by decide)⟩
 refine L5 (BS s.nr s.gr K9.serial bd) ?_
 rintro out A0 ⟨rfl,⟨bj2,bp2,rfl,hbj2,hbp2⟩⟩
 refine⟨rfl,?_⟩
 refine cb (bp2) (fun h4=>?_) fun h4=>?_
 ·refine cK [] (E6 401) ?_
  rintro out A0 ⟨rfl,rfl⟩
  exact xW hX (A1 [.i .i64 401,.bl 0 []]) ⟨_,m,rfl,rfl,rfl,fun h=>absurd h (by decide)⟩
 refine cK [] (WH o.do) ?_
 rintro out A0 ⟨rfl,⟨nd3,ne3,rfl⟩⟩
 refine cK [] (MZ K9 bd) ?_;rintro out A0 ⟨rfl,⟨er4,eu4,rfl⟩⟩
 refine cK [] (WI er4 nd3) ?_;rintro out A0 ⟨rfl,⟨cv5,rfl⟩⟩
 refine cn (cv5) (fun h5=>?_) fun h5=>?_
 ·refine cK [] (E6 403) ?_
  rintro out A0 ⟨rfl,rfl⟩
  exact xW hX (A1 [.i .i64 403,.bl 0 []]) ⟨_,K9.serial,rfl,rfl,rfl,fun h=>absurd h (by decide)⟩
 refine jb (!(decide (K9.tenant=[]))) 9744 (fun(q:Bool)=>[(0,.pr 2 0 []),(2,.pr 16 0 []),(111,.b q)]) (fun(q:Bool)=>[(2,wN .np o (K9.serial)),(3,sN 4 5 6 s),(4,rT n tg),(5,rR s),(6,rL s),(16,A1 [.i .i64 0,.bl 1 []])]) (fun(q:Bool)=>True) [4,5,6] (fun R hR=>⟨fun h6=>?_,fun h6=>?_⟩) ?_
 ·replace h6:=WR h6
  replace h6:=of_decide_eq_false h6
  refine cK [] (MV o.do) ?_;rintro out A0 ⟨rfl,⟨pr6,rfl⟩⟩
  refine cb (pr6) (fun h7=>?_) fun h7=>?_
  ·exact cA hX (hR true trivial) (hS:=⟨v0,v0,(vT (.bc true)),zT⟩)
  exact cA hX (hR (!(decide (K9.tenant=o.tenant))) zT)
 ·replace h6:=jM h6
  replace h6:=of_decide_eq_true h6
  exact cA hX (hR false trivial) (hS:=⟨v0,v0,(vT (.bc false)),zT⟩)
 rintro q hJ
 refine cb (q) (fun h8=>?_) fun h8=>?_
 ·refine cK [] (E6 403) ?_
  rintro out A0 ⟨rfl,rfl⟩
  exact xW hX (A1 [.i .i64 403,.bl 0 []]) ⟨_,K9.serial,rfl,rfl,rfl,fun h=>absurd h (by decide)⟩
 refine L5 (NL n tg o.tenant bd) ?_
 rintro out A0 ⟨rfl,⟨bp7,rfl,iP⟩⟩
 refine⟨rfl,?_⟩
 refine cb (bp7) (fun h9=>?_) fun h9=>?_
 ·exact absurd (iP.ok (by assumption)).1 zO
 refine cB (o.do=10) (fun J7=>?_) fun J7=>?_
 ·refine O6 (o.do=10) J7 ?_
  refine cK [] (E6 0) ?_;rintro out A0 ⟨rfl,rfl⟩
  exact xW hX (A1 [.i .i64 0,.bl 0 []]) ⟨_,K9.serial,rfl,rfl,rfl,fun _=>⟨by unfold HN;omega,fun h=>kZ h iP (by assumption)⟩⟩
 refine cB (o.do=13) (fun P5=>?_) fun P5=>?_
 ·refine O6 (o.do=13) P5 ?_
  refine cK [] (E6 0) ?_;rintro out A0 ⟨rfl,rfl⟩
  exact xW hX (A1 [.i .i64 0,.bl 0 []]) ⟨_,K9.serial,rfl,rfl,rfl,fun _=>⟨by unfold HN;omega,fun h=>kZ h iP (by assumption)⟩⟩
 refine cB (o.do=16) (fun h12=>?_) fun h12=>?_
 ·refine O6 (o.do=16) h12 ?_
  refine cK [] (E6 0) ?_;rintro out A0 ⟨rfl,rfl⟩
  exact xW hX (A1 [.i .i64 0,.bl 0 []]) ⟨_,K9.serial,rfl,rfl,rfl,fun _=>⟨by unfold HN;omega,fun h=>kZ h iP (by assumption)⟩⟩
 refine cB (o.do=17) (fun v8=>?_) fun v8=>?_
 ·refine cK [] (E6 0) ?_
  rintro out A0 ⟨rfl,rfl⟩
  exact xW hX (A1 [.i .i64 0,.bl 0 []]) ⟨_,K9.serial,rfl,rfl,rfl,fun _=>⟨by unfold HN;omega,fun h=>kZ h iP (by assumption)⟩⟩
 refine cB (o.do=12) (fun bW=>?_) fun bW=>?_
 ·refine cB (o.tenant=[]) (fun aR=>?_) fun aR=>?_
  ·refine cK [] (E6 0) ?_
   rintro out A0 ⟨rfl,rfl⟩
   exact xW hX (A1 [.i .i64 0,.bl 0 []]) ⟨_,K9.serial,rfl,rfl,rfl,fun _=>⟨by unfold HN;omega,fun h=>kZ h iP (by assumption)⟩⟩
  refine cK [] (E6 404) ?_
  rintro out A0 ⟨rfl,rfl⟩
  exact xW hX (A1 [.i .i64 404,.bl 0 []]) ⟨_,K9.serial,rfl,rfl,rfl,fun h=>absurd h (by decide)⟩
 refine cK [] (E6 404) ?_
 rintro out A0 ⟨rfl,rfl⟩
 exact xW hX (A1 [.i .i64 404,.bl 0 []]) ⟨_,K9.serial,rfl,rfl,rfl,fun h=>absurd h (by decide)⟩
structure SOk (s:StaR) (n:Nat) (tg:Nat->TenR):Prop where
 hn:n<=1000
 hr:s.nr<=100000
 hl:s.nl<=4096
 hb:∀i,i<n->TB (tg i)
 hg:∀i,i<s.nl->(s.gl i).tenant.length<=100
 asc:AscK TenR.name n tg
theorem SOk.stb{s:StaR}{n:Nat}{tg:Nat->TenR}(h:SOk s n tg):StB s n tg:=⟨h.hn,h.hr,L6 h.hl (by decide),fun i hi=>⟨(h.hb i hi).nb,(h.hb i hi).ns,(h.hb i hi).nd⟩,fun i hi=>(h.hb i hi).db⟩
structure StepP (o:OpT) (s s2:StaR) (n n2:Nat) (tg tg2:Nat->TenR) (c:Int) (b:By):Prop where
 ref:c=200\/c=201\/(s2.serial=s.serial/\s2.nr=s.nr/\s2.gr=s.gr/\n2=n/\(∀k,k<n->tg2 k=tg k)/\b=[])
 rd:kY o.do->s2.serial=s.serial/\s2.nr=s.nr/\s2.gr=s.gr/\n2=n/\∀k,k<n->tg2 k=tg k
 ok:SOk s n tg->SOk s2 n2 tg2
 eq:s2.root=s.root/\s2.delay=s.delay
 bl:b.length<=4000000000/\(o.do=12->b.length<=20000)
 kp:∃i,∀k,k<n->∃m,m<n2/\Kp (decide (k=i/\o.do=15/\c=200)) o.now (tg k) (tg2 m)
theorem StepP.no{o:OpT}{s:StaR}{n:Nat}{tg:Nat->TenR}{c:Int}:StepP o s s n n tg tg c []:=⟨.inr (.inr ⟨rfl,rfl,rfl,rfl,fun _ _=>rfl,rfl⟩),fun _=>⟨rfl,rfl,rfl,rfl,fun _ _=>rfl⟩,id,⟨rfl,rfl⟩,⟨by simp,fun _=>by simp⟩,Kp.all fun k h=>⟨k,h,rfl⟩⟩
theorem StepP.mk1{o:OpT}{s s2:StaR}{n n2:Nat}{tg tg2:Nat->TenR}{c:Int}{b h:By}{e:Ent}(hp:DoP o s s2 n n2 tg tg2 c b)(hl:s.nl<4096)(he:e.tenant.length<=100):StepP o s ⟨s2.root,s2.delay,s2.serial,s2.nr,s2.gr,s2.nl+1,J8 s2.nl s2.gl e,h⟩ n n2 tg tg2 c b:=
 ⟨hp.ref.imp id (.imp id fun⟨h1,h2,h3,h4⟩=>by subst h1;exact⟨rfl,rfl,rfl,h2,h3,h4⟩),fun h=>by obtain⟨h1,h2,h3⟩:=hp.rd h;subst h1;exact⟨rfl,rfl,rfl,h2,h3⟩,fun h=>by
  obtain⟨_,_,e1,e2,_⟩:=hp.eq
  refine⟨hp.nb h.hn,hp.nr h.hr,by dsimp only;omega,hp.tb h.hb,?_,hp.asc h.asc⟩
  dsimp only
  rw[e1,e2]
  exact fun j hj=>uK (p:=fun x:Ent=>x.tenant.length<=100) h.hg he j hj,⟨hp.eq.1,hp.eq.2.1⟩,hp.bl,hp.kp⟩
theorem DoP.no{o:OpT}{s:StaR}{n:Nat}{tg:Nat->TenR}{c:Int}:DoP o s s n n tg tg c []:=⟨.inr (.inr ⟨rfl,rfl,fun _ _=>rfl,rfl⟩),fun _=>⟨rfl,rfl,fun _ _=>rfl⟩,id,id,id,⟨rfl,rfl,rfl,rfl,rfl⟩,⟨by simp,fun _=>by simp⟩,Kp.all fun k h=>⟨k,h,rfl⟩,id⟩
theorem CC(s:StaR)(o:OpT)(n:Nat)(tg:Nat->TenR)(hS:SOk s n tg)(ho1:o.token.length<=50000)(ho2:o.tenant.length<=1000):SatM Tryz.prog true 15 [I9 (.sl 0 38 n fun i=>B2 (tg i)) s,J1 o] [] (fun out ho A0=>∃c b s2 n2 tg2,out=A2 [yT 16 s2,A1 [.i .i64 c,.bl 0 b]]/\ho=yU 16 (rT n2 tg2) s2/\A0=[]/\StepP o s s2 n n2 tg tg2 c b):=by
 refine fM true Tryz.func15 fun X0 w0 hX hm=>?_
 refine rS 0 fun hv=>?_
 have hk:∀i,i<n->(tg i).key.length=32:=fun i hi=>hv 3 (show 3<7 by decide) i hi 1 (show 1<7 by decide)
 have hh:s.head.length=32:=hv 6 (show 6<7 by decide)
 have hn:=hS.hn
 have hr:=hS.hr
 have hl:=hS.hl
 have hg:=hS.hg
 obtain⟨i0,h0⟩:∃i0,i0=yL n tg o.tenant:=⟨_,rfl⟩
 have htw:=Af s n tg i0 hS.stb
 refine kO [] (htw) ?_;rintro out ho A0 (⟨hi,rfl,rfl,rfl⟩|⟨hi,rfl,rfl,rfl⟩)
 ·refine cB (4096<=(s.nl:Int)) (fun h1=>?_) fun h1=>?_
  ·refine cK [] (E6 507) ?_
   rintro out A0 ⟨rfl,rfl⟩
   refine gZ 356 ?_;refine gZ 357 ?_;refine gZ 358 ?_;refine gR 352 (fN n tg i0 (A1 [.s ((tg i0).name),.bs 32 ((tg i0).key),.i .i64 ((tg i0).quota),.i .i64 ((tg i0).next),.sl 356 33 ((tg i0).nb) fun i=>C3 ((tg i0).gb i),.sl 357 36 ((tg i0).ns) fun i=>C8 ((tg i0).gs i),.sl 358 33 ((tg i0).nd) fun i=>D7 ((tg i0).gd i)])) (rT n tg) (fC rfl rfl rfl) ?_;exact xW hX (A2 [sN 16 17 18 s,A1 [.i .i64 507,.bl 0 []]]) ⟨_,_,s,n,tg,rfl,rfl,rfl,.no⟩
  refine cK [] (XZ o bd) ?_
  rintro out A0 ⟨rfl,⟨my0,rfl,hmy0⟩⟩
  refine cn (my0) (fun h2=>?_) fun h2=>?_
  ·refine cK [] (E6 400) ?_
   rintro out A0 ⟨rfl,rfl⟩
   refine gZ 356 ?_;refine gZ 357 ?_;refine gZ 358 ?_;refine gR 352 (fN n tg i0 (A1 [.s ((tg i0).name),.bs 32 ((tg i0).key),.i .i64 ((tg i0).quota),.i .i64 ((tg i0).next),.sl 356 33 ((tg i0).nb) fun i=>C3 ((tg i0).gb i),.sl 357 36 ((tg i0).ns) fun i=>C8 ((tg i0).gs i),.sl 358 33 ((tg i0).nd) fun i=>D7 ((tg i0).gd i)])) (rT n tg) (fC rfl rfl rfl) ?_;exact xW hX (A2 [sN 16 17 18 s,A1 [.i .i64 400,.bl 0 []]]) ⟨_,_,s,n,tg,rfl,rfl,rfl,.no⟩
  have hO:OB o:=⟨(hmy0 h2).1,ho1,(hmy0 h2).2.1⟩
  have hn16:=hO.hn
  refine kH [(1232,2),(400,3),(352,4),(353,5),(354,6),(356,7),(357,8),(358,9)] [1232,400,352,353,354,356,357,358] (Xd s o (tg i0) 0 n tg i0 bd hn hi h0 rfl hr) ?_;rintro out ho A0 (⟨c1,m1,rfl,rfl,(⟨hc,rfl⟩|⟨hc,rfl⟩|⟨hc,hd,U3,rfl⟩)⟩)
  ·refine E5 (c1=0) hc ?_
   refine cK [] (pX s.head ⟨(s.nl:Int),o.now,m1,o.tenant,o.do,c1,o.of⟩ bd) ?_;rintro out A0 ⟨rfl,⟨wG,le2,rfl⟩⟩
   refine gZ 356 ?_;refine gZ 357 ?_;refine gZ 358 ?_;refine gR 352 (fN n tg i0 (A1 [.s ((tg i0).name),.bs 32 ((tg i0).key),.i .i64 ((tg i0).quota),.i .i64 ((tg i0).next),.sl 356 33 ((tg i0).nb) fun i=>C3 ((tg i0).gb i),.sl 357 36 ((tg i0).ns) fun i=>C8 ((tg i0).gs i),.sl 358 33 ((tg i0).nd) fun i=>D7 ((tg i0).gd i)])) (rT n tg) (fC rfl rfl rfl) ?_;refine cC ((s.nl+1)*88<=140737488355328) ?_;refine jA 2 8464 (fun(u:Unit)=>[(4,.pr 144 0 []),(5,.pr 208 0 [])]) (fun(u:Unit)=>[(144,A1 [.bs 32 s.root,.i .i64 s.delay,.i .u64 s.serial,.os 352 38,.os 353 1,.os 3920 38,.bs 32 wG]),(352,rT n tg),(353,rR s),(3920,.ar 38 (s.nl+1) fun i=>bif blt i s.nl then H7 (s.gl i) else A1 [.i .i64 (s.nl:Int),.i .i64 o.now,.i .u64 m1,.s o.tenant,.i .i64 o.do,.i .i64 c1,.bs 32 o.of]),(208,A1 [.i .i64 c1,.bl 0 []])]) (fun(u:Unit)=>True) [352,353,3920] (fun R hR i hi=>?_) ?_
   ·match i,hi with
   |0,_|1,_=>
     exact cA hX (hR () zT)
   rintro u hJ
   exact xW hX (A2 [A1 [.bs 32 s.root,.i .i64 s.delay,.i .u64 s.serial,.os 16 38,.os 17 1,.os 18 38,.bs 32 wG],A1 [.i .i64 c1,.bl 0 []]]) ⟨_,_,⟨s.root,s.delay,s.serial,s.nr,s.gr,(s.nl+1),(J8 s.nl s.gl ⟨(s.nl:Int),o.now,m1,o.tenant,o.do,c1,o.of⟩),wG⟩,n,tg,rfl,rfl,rfl,.mk1 .no zO bd⟩ (hH:=⟨v0,v0,(vT (u:=.ar 38 (s.nl+1) fun i=>bif blt i s.nl then H7 (s.gl i) else A1 [.i .i64 (s.nl:Int),.i .i64 o.now,.i .u64 m1,.s o.tenant,.i .i64 o.do,.i .i64 c1,.bs 32 o.of]) ((jO (e:=H7)))),zT⟩)
  ·refine O6 (c1=0) hc ?_
   refine gO (fun _=>hm rfl) [(1232,2),(400,3),(352,4),(353,5),(354,6),(356,7),(357,8),(358,9)] [1232,400,352,353,354,356,357,358] (Xb s o (tg i0) m1 n tg i0 (hS.hb _ hi) hO rfl ⟨hk _ hi,hh⟩ hr hl hg) ?_;rintro out ho A0 ⟨d3,b3,z3,tz3,rfl,rfl,rfl,rU⟩
   have hz:=rU.eq.2.2.1
   refine cK [] (pX s.head ⟨(s.nl:Int),o.now,m1,o.tenant,o.do,d3,o.of⟩ bd) ?_;rintro out A0 ⟨rfl,⟨lm4,le4,rfl⟩⟩
   refine cC ((z3.nl+1)*88<=140737488355328) ?_;refine jA 2 8656 (fun(u:Unit)=>[(4,.pr 144 0 []),(5,.pr 208 0 [])]) (fun(u:Unit)=>[(144,A1 [.bs 32 z3.root,.i .i64 z3.delay,.i .u64 z3.serial,.os 352 38,.os 1888 1,.os 4112 38,.bs 32 lm4]),(352,.ar 38 n fun i=>B2 (tz3 i)),(1888,rR z3),(4112,.ar 38 (z3.nl+1) fun i=>bif blt i z3.nl then H7 (z3.gl i) else A1 [.i .i64 (s.nl:Int),.i .i64 o.now,.i .u64 m1,.s o.tenant,.i .i64 o.do,.i .i64 d3,.bs 32 o.of]),(208,A1 [.i .i64 d3,.bl 0 b3])]) (fun(u:Unit)=>True) [4112] (fun R hR i hi=>?_) ?_
   ·match i,hi with
   |0,_|1,_=>
     exact cA hX (hR () zT)
   rintro u hJ
   exact xW hX (A2 [A1 [.bs 32 z3.root,.i .i64 z3.delay,.i .u64 z3.serial,.os 16 38,.os 17 1,.os 18 38,.bs 32 lm4],A1 [.i .i64 d3,.bl 0 b3]]) ⟨_,_,⟨z3.root,z3.delay,z3.serial,z3.nr,z3.gr,(z3.nl+1),(J8 z3.nl z3.gl ⟨(s.nl:Int),o.now,m1,o.tenant,o.do,d3,o.of⟩),lm4⟩,n,tz3,rfl,rfl,rfl,.mk1 rU zO bd⟩ (hH:=⟨v0,v0,(vT (u:=.ar 38 (z3.nl+1) fun i=>bif blt i z3.nl then H7 (z3.gl i) else A1 [.i .i64 (s.nl:Int),.i .i64 o.now,.i .u64 m1,.s o.tenant,.i .i64 o.do,.i .i64 d3,.bs 32 o.of]) ((jO (e:=H7)))),zT⟩)
  refine gZ 356 ?_
  refine gZ 357 ?_;refine gZ 358 ?_;refine gR 352 (fN n tg i0 (A1 [.s ((tg i0).name),.bs 32 ((tg i0).key),.i .i64 ((tg i0).quota),.i .i64 ((tg i0).next),.sl 356 33 ((tg i0).nb) fun i=>C3 ((tg i0).gb i),.sl 357 36 ((tg i0).ns) fun i=>C8 ((tg i0).gs i),.sl 358 33 ((tg i0).nd) fun i=>D7 ((tg i0).gd i)])) (rT n tg) (fC rfl rfl rfl) ?_;refine gR 400 (sN 352 353 354 s) (sN 352 353 354 s) (xQ (.rfl _) rfl) ?_;refine gR 1232 (A1 [.pr 400 0 [],J1 o,.np,.i .u64 m1]) (A1 [.pr 400 0 [],J1 o,.np,.i .u64 m1]) (xQ (.rfl _) rfl) ?_;refine O6 (c1=0) hc ?_;refine gO (fun _=>hm rfl) [(1232,2),(400,3),(352,4),(353,5),(354,6)] [1232,400,352,353,354] (Ao s o m1 n tg hn hO hd U3 hh hr hl hg) ?_;rintro out ho A0 ⟨d5,b5,z5,nz5,tz5,rfl,rfl,rfl,rU⟩
  have hz:=rU.eq.2.2.1
  refine cK [] (pX s.head ⟨(s.nl:Int),o.now,m1,o.tenant,o.do,d5,o.of⟩ bd) ?_;rintro out A0 ⟨rfl,⟨lm6,le6,rfl⟩⟩
  refine cC ((z5.nl+1)*88<=140737488355328) ?_;refine jA 2 8656 (fun(u:Unit)=>[(4,.pr 144 0 []),(5,.pr 208 0 [])]) (fun(u:Unit)=>[(144,A1 [.bs 32 z5.root,.i .i64 z5.delay,.i .u64 z5.serial,.os 1889 38,.os 1888 1,.os 4112 38,.bs 32 lm6]),(1888,rR z5),(1889,.ar 38 nz5 fun i=>B2 (tz5 i)),(4112,.ar 38 (z5.nl+1) fun i=>bif blt i z5.nl then H7 (z5.gl i) else A1 [.i .i64 (s.nl:Int),.i .i64 o.now,.i .u64 m1,.s o.tenant,.i .i64 o.do,.i .i64 d5,.bs 32 o.of]),(208,A1 [.i .i64 d5,.bl 0 b5])]) (fun(u:Unit)=>True) [4112] (fun R hR i hi=>?_) ?_
  ·match i,hi with
  |0,_|1,_=>
    exact cA hX (hR () zT)
  rintro u hJ
  exact xW hX (A2 [A1 [.bs 32 z5.root,.i .i64 z5.delay,.i .u64 z5.serial,.os 16 38,.os 17 1,.os 18 38,.bs 32 lm6],A1 [.i .i64 d5,.bl 0 b5]]) ⟨_,_,⟨z5.root,z5.delay,z5.serial,z5.nr,z5.gr,(z5.nl+1),(J8 z5.nl z5.gl ⟨(s.nl:Int),o.now,m1,o.tenant,o.do,d5,o.of⟩),lm6⟩,nz5,tz5,rfl,rfl,rfl,.mk1 rU zO bd⟩ (hH:=⟨v0,v0,(vT (u:=.ar 38 (z5.nl+1) fun i=>bif blt i z5.nl then H7 (z5.gl i) else A1 [.i .i64 (s.nl:Int),.i .i64 o.now,.i .u64 m1,.s o.tenant,.i .i64 o.do,.i .i64 d5,.bs 32 o.of]) ((jO (e:=H7)))),zT⟩)
 refine cB (4096<=(s.nl:Int)) (fun h3=>?_) fun h3=>?_
 ·refine cK [] (E6 507) ?_
  rintro out A0 ⟨rfl,rfl⟩
  exact xW hX (A2 [sN 16 17 18 s,A1 [.i .i64 507,.bl 0 []]]) ⟨_,_,s,n,tg,rfl,rfl,rfl,.no⟩
 refine cK [] (XZ o bd) ?_
 rintro out A0 ⟨rfl,⟨my7,rfl,hmy7⟩⟩
 refine cn (my7) (fun h4=>?_) fun h4=>?_
 ·refine cK [] (E6 400) ?_
  rintro out A0 ⟨rfl,rfl⟩
  exact xW hX (A2 [sN 16 17 18 s,A1 [.i .i64 400,.bl 0 []]]) ⟨_,_,s,n,tg,rfl,rfl,rfl,.no⟩
 have hO:OB o:=⟨(hmy7 h4).1,ho1,(hmy7 h4).2.1⟩
 have hn16:=hO.hn
 refine kH [(1232,2),(400,3),(352,4),(353,5),(354,6)] [1232,400,352,353,354] (Xe s o 0 n tg bd hn (by rw[<-h0];exact hi) hr) ?_;rintro out ho A0 ⟨c8,m8,rfl,rfl,rfl,hd⟩
 refine cB (c8=0) (fun h5=>?_) fun h5=>?_
 ·refine gO (fun _=>hm rfl) [(1232,2),(400,3),(352,4),(353,5),(354,6)] [1232,400,352,353,354] (Ao s o m8 n tg hn hO (hd h5).1 (hd h5).2 hh hr hl hg) ?_
  rintro out ho A0 ⟨d9,b9,z9,nz9,tz9,rfl,rfl,rfl,rU⟩
  have hz:=rU.eq.2.2.1
  refine cK [] (pX s.head ⟨(s.nl:Int),o.now,m8,o.tenant,o.do,d9,o.of⟩ bd) ?_;rintro out A0 ⟨rfl,⟨lm10,le10,rfl⟩⟩
  refine cC ((z9.nl+1)*88<=140737488355328) ?_;refine jA 2 8656 (fun(u:Unit)=>[(4,.pr 144 0 []),(5,.pr 208 0 [])]) (fun(u:Unit)=>[(144,A1 [.bs 32 z9.root,.i .i64 z9.delay,.i .u64 z9.serial,.os 1889 38,.os 1888 1,.os 4112 38,.bs 32 lm10]),(1888,rR z9),(1889,.ar 38 nz9 fun i=>B2 (tz9 i)),(4112,.ar 38 (z9.nl+1) fun i=>bif blt i z9.nl then H7 (z9.gl i) else A1 [.i .i64 (s.nl:Int),.i .i64 o.now,.i .u64 m8,.s o.tenant,.i .i64 o.do,.i .i64 d9,.bs 32 o.of]),(208,A1 [.i .i64 d9,.bl 0 b9])]) (fun(u:Unit)=>True) [4112] (fun R hR i hi=>?_) ?_
  ·match i,hi with
  |0,_|1,_=>
    exact cA hX (hR () zT)
  rintro u hJ
  exact xW hX (A2 [A1 [.bs 32 z9.root,.i .i64 z9.delay,.i .u64 z9.serial,.os 16 38,.os 17 1,.os 18 38,.bs 32 lm10],A1 [.i .i64 d9,.bl 0 b9]]) ⟨_,_,⟨z9.root,z9.delay,z9.serial,z9.nr,z9.gr,(z9.nl+1),(J8 z9.nl z9.gl ⟨(s.nl:Int),o.now,m8,o.tenant,o.do,d9,o.of⟩),lm10⟩,nz9,tz9,rfl,rfl,rfl,.mk1 rU zO bd⟩ (hH:=⟨v0,v0,(vT (u:=.ar 38 (z9.nl+1) fun i=>bif blt i z9.nl then H7 (z9.gl i) else A1 [.i .i64 (s.nl:Int),.i .i64 o.now,.i .u64 m8,.s o.tenant,.i .i64 o.do,.i .i64 d9,.bs 32 o.of]) ((jO (e:=H7)))),zT⟩)
 refine cK [] (pX s.head ⟨(s.nl:Int),o.now,m8,o.tenant,o.do,c8,o.of⟩ bd) ?_
 rintro out A0 ⟨rfl,⟨lm11,le11,rfl⟩⟩
 refine cC ((s.nl+1)*88<=140737488355328) ?_;refine jA 2 8464 (fun(u:Unit)=>[(4,.pr 144 0 []),(5,.pr 208 0 [])]) (fun(u:Unit)=>[(144,A1 [.bs 32 s.root,.i .i64 s.delay,.i .u64 s.serial,.os 352 38,.os 353 1,.os 3920 38,.bs 32 lm11]),(352,rT n tg),(353,rR s),(3920,.ar 38 (s.nl+1) fun i=>bif blt i s.nl then H7 (s.gl i) else A1 [.i .i64 (s.nl:Int),.i .i64 o.now,.i .u64 m8,.s o.tenant,.i .i64 o.do,.i .i64 c8,.bs 32 o.of]),(208,A1 [.i .i64 c8,.bl 0 []])]) (fun(u:Unit)=>True) [352,353,3920] (fun R hR i hi=>?_) ?_
 ·match i,hi with
 |0,_|1,_=>
   exact cA hX (hR () zT)
 rintro u hJ
 exact xW hX (A2 [A1 [.bs 32 s.root,.i .i64 s.delay,.i .u64 s.serial,.os 16 38,.os 17 1,.os 18 38,.bs 32 lm11],A1 [.i .i64 c8,.bl 0 []]]) ⟨_,_,⟨s.root,s.delay,s.serial,s.nr,s.gr,(s.nl+1),(J8 s.nl s.gl ⟨(s.nl:Int),o.now,m8,o.tenant,o.do,c8,o.of⟩),lm11⟩,n,tg,rfl,rfl,rfl,.mk1 .no zO bd⟩ (hH:=⟨v0,v0,(vT (u:=.ar 38 (s.nl+1) fun i=>bif blt i s.nl then H7 (s.gl i) else A1 [.i .i64 (s.nl:Int),.i .i64 o.now,.i .u64 m8,.s o.tenant,.i .i64 o.do,.i .i64 c8,.bs 32 o.of]) ((jO (e:=H7)))),zT⟩)
def pB(v i:Int):UInt8:=UInt8.ofNat ((u8.wrap (v.fdiv (2 ^ (min ((u64.wrap (8*(u64.wrap i)))).toNat 64))))).toNat
def pZ(v:Int):Nat->By->By
|0,l=>l
|k+1,l=>pZ v k (l++[pB v (((k+1:Nat):Int)-1)])
theorem Xf{v:Int}{k:Nat}{l z:By}(hk:0<=(k:Int)-1)(h:pZ v k l=z):pZ v (k-1) (l++[pB v ((k:Int)-1)])=z:=by
 obtain⟨j,rfl⟩:∃j,k=j+1:=⟨k-1,zO⟩
 exact h
theorem Xg{v:Int}{k:Nat}{l z:By}(hk:¬ 0<=(k:Int)-1)(h:pZ v k l=z):l=z:=by
 obtain rfl:k=0:=by omega
 exact h
def yV:By:=[0,0,0,0,0,0,0,0,0,15,0,0,0,0,0,0,0,0,255,255,255,255,255,255,255,254]
def IA(p:By×Int):By×Int:=([UInt8.ofNat ((u8.wrap (p.2.tmod 256))).toNat]++p.1,u64.wrap (p.2.tdiv 256))
def S7(k:By):By:=jL k (o7 ((List.range 1).map fun _=>yV))
theorem Ap(k:By)(hk:k.length=32):Sat Tryz.prog 52 [.bl 0 ((k.drop 0).take 32),.sl 1 1 1 fun _=>.bl 0 yV] [] (fun out A0=>A0=[]/\out=.bs 32 (S7 k)):=by
 have e:(k.drop 0).take 32=k:=by rw[qC,W0 zO]
 rw[e]
 exact WE k 0 1 1 (fun _=>.bl 0 yV) (fun _=>yV) (fun _ _=>⟨_,rfl⟩) (by decide) (by decide)
theorem Aq{k:By}:(S7 k).length=32:=GN _ _
def uL{α:Type}(f:α->α):Nat->α->α
|0,a=>a
|k+1,a=>uL f k (f a)
theorem Xh{f:α->α}{n k:Nat}{a z:α}(hk:k<n)(h:uL f (n-k) a=z):uL f (n-(k+1)) (f a)=z:=by rw[show n-k=(n-(k+1))+1 by omega]at h;exact h
theorem Xi{f:α->α}{n k:Nat}{a z:α}(hk:¬ k<n)(h:uL f (n-k) a=z):a=z:=by rw[show n-k=0 by omega]at h;exact h
theorem OG(b:By)(v:Int)(r:By)(h:pZ v 8 b=r)(hb:b.length<1000000):Sat Tryz.prog 99 [.bl 0 b,.i .u64 v,.i .i64 8] [] (fun out A0=>out=A2 [.bl 2 r,.i .i64 0]/\A0=[2]):=by
 refine cF Tryz.func99 fun X0 w0 hX=>?_
 refine E5 ((8:Int)<1) (by decide) ?_;refine E5 (8<(8:Int)) (by decide) ?_;refine E5 ((8:Int)<8) (by decide) ?_;refine cK [] (tU b 8 bd zO) ?_;rintro out A0 ⟨rfl,rfl⟩
 refine cM hX (fun(p:By×Nat)=>[(1,.i .u64 v),(8,.bl 2 p.1),(9,.i .i64 ((p.2:Int)-1))]) (fun(p:By×Nat)=>[]) (fun(p:By×Nat)=>pZ v p.2 p.1=r/\p.1.length+p.2<=b.length+8/\p.2<=8) (fun(p:By×Nat)=>p.2) [2] 1744 (b,8) ⟨h,by simp,by simp⟩ ?_;rintro⟨l,k⟩ hI R hR
 dsimp only at hI
 refine cB (0<=(k:Int)-1) (fun h1=>?_) fun h1=>?_
 ·refine cC ((0:Int)<=(u64.wrap (8*(u64.wrap ((k:Int)-1))))) ?_ (hp:=(T6 _).1)
  refine cC ((l.length+[UInt8.ofNat ((u8.wrap (v.fdiv (2 ^ (min ((u64.wrap (8*(u64.wrap ((k:Int)-1))))).toNat 64))))).toNat].length)*1<=140737488355328) ?_ bw;exact cA hX (hR ((l++[UInt8.ofNat ((u8.wrap (v.fdiv (2 ^ (min ((u64.wrap (8*(u64.wrap ((k:Int)-1))))).toNat 64))))).toNat]),k-1) ⟨Xf h1 hI.1,by simp only[C9,x4];omega,by dsimp only;omega⟩ (by dsimp only;omega)) (hS:=⟨v0,v0,(vW (a:=((k:Int)-1-1)) zO),zT⟩)
 exact xW hX (A2 [.bl 2 l,.i .i64 0]) ⟨rfl,by rw[Xg h1 hI.1],rfl⟩
theorem Xj(b:By)(hb:b.length<1000000):Sat Tryz.prog 127 [.bl 0 b,.i .u64 0] [] (fun out A0=>out=.bl 2 (b++[0])/\A0=[2]):=by
 refine cF Tryz.func127 fun X0 w0 hX=>?_
 refine cK [] (tU b 10 bd zO) ?_;rintro out A0 ⟨rfl,rfl⟩
 refine cM hX (fun(u:Unit)=>[(1,.i .u64 0),(5,.bl 146 b)]) (fun(u:Unit)=>[]) (fun(u:Unit)=>True) (fun(u:Unit)=>0) [146] 272 () trivial ?_;rintro u hI R hR
 refine E5 (127<(0:Int)) (by decide) ?_;refine cC ((b.length+[0].length)*1<=140737488355328) ?_ bd;exact xW hX (.bl 2 (b++[0])) ⟨rfl,rfl,rfl⟩
theorem Xk(b:By)(hb:b.length<900000):Sat Tryz.prog 101 [.bl 0 b,.bl 0 []] [] (fun out A0=>out=A2 [.bl 2 (b++[0]),.i .i64 0]/\A0=[2]):=by
 refine cF Tryz.func101 fun X0 w0 hX=>?_
 refine E5 (65536<(0:Int)) (by decide) ?_;refine cK [] (Xj b bd) ?_;rintro out A0 ⟨rfl,rfl⟩
 refine cC (((b++[0]).length+([]:By).length)*1<=140737488355328) ?_ bd;exact xW hX (A2 [.bl 2 ((b++[0])++[]),.i .i64 0]) ⟨rfl,by rw[Z5],rfl⟩
theorem Xl  :Sat Tryz.prog 150 [.i .i64 0] [] (fun out A0=>A0=[]/\(out=.i .u64 0)):=by
 refine cF Tryz.func150 fun X0 w0 hX=>?_
 exact xW hX (.i .u64 0) ⟨rfl,rfl,rfl⟩
theorem Xm  :Sat Tryz.prog 150 [.i .i64 9223372036854775807] [] (fun out A0=>A0=[]/\(out=.i .u64 18446744073709551614)):=by
 refine cF Tryz.func150 fun X0 w0 hX=>?_
 exact xW hX (.i .u64 18446744073709551614) ⟨rfl,rfl,rfl⟩
theorem Xn  :Sat Tryz.prog 50 [.i .i64 0] [] (fun out A0=>A0=[]/\(out=.i .u64 0)):=by
 refine cF Tryz.func50 fun X0 w0 hX=>?_
 refine E5 ((0:Int)<0) (by decide) ?_;exact xW hX (.i .u64 0) ⟨rfl,rfl,rfl⟩
theorem Xo  :Sat Tryz.prog 50 [.i .i64 9223372036854775807] [] (fun out A0=>A0=[]/\(out=.i .u64 18446744073709551614)):=by
 refine cF Tryz.func50 fun X0 w0 hX=>?_
 refine E5 ((9223372036854775807:Int)<0) (by decide) ?_;exact xW hX (.i .u64 18446744073709551614) ⟨rfl,rfl,rfl⟩
theorem Xp  :Sat Tryz.prog 105 [.i .u64 0] [] (fun out A0=>A0=[]/\(out=.i .i64 0)):=by
 refine cF Tryz.func105 fun X0 w0 hX=>?_
 exact xW hX (.i .i64 0) ⟨rfl,rfl,rfl⟩
theorem Xq  :Sat Tryz.prog 105 [.i .u64 18446744073709551614] [] (fun out A0=>A0=[]/\(out=.i .i64 9223372036854775807)):=by
 refine cF Tryz.func105 fun X0 w0 hX=>?_
 exact xW hX (.i .i64 9223372036854775807) ⟨rfl,rfl,rfl⟩
theorem Xr  :Sat Tryz.prog 61 [.i .u8 15] [] (fun out A0=>A0=[]/\(out=.b true)):=by
 refine cF Tryz.func61 fun X0 w0 hX=>?_
 exact xW hX (.b true) ⟨rfl,rfl,rfl⟩ (hv:=vT (u:=.b (decide ((0:Int)=0))) v0)
theorem Xs(b r:By)(h:pZ 0 8 b=r)(hb:b.length<1000000):Sat Tryz.prog 102 [.bl 0 b,.i .i64 0] [] (fun out A0=>out=.bl 2 r/\A0=[2]):=by
 refine cF Tryz.func102 fun X0 w0 hX=>?_
 refine cK [] (Xl) ?_;rintro out A0 ⟨rfl,rfl⟩
 refine cK [] (OG b 0 r h hb) ?_;rintro out A0 ⟨rfl,rfl⟩
 exact xW hX (.bl 2 r) ⟨rfl,rfl,rfl⟩
theorem Xt(b r:By)(h:pZ 18446744073709551614 8 b=r)(hb:b.length<1000000):Sat Tryz.prog 102 [.bl 0 b,.i .i64 9223372036854775807] [] (fun out A0=>out=.bl 2 r/\A0=[2]):=by
 refine cF Tryz.func102 fun X0 w0 hX=>?_
 refine cK [] (Xm) ?_;rintro out A0 ⟨rfl,rfl⟩
 refine cK [] (OG b 18446744073709551614 r h hb) ?_;rintro out A0 ⟨rfl,rfl⟩
 exact xW hX (.bl 2 r) ⟨rfl,rfl,rfl⟩
theorem OH(g:By):Sat Tryz.prog 51 [A1 [.i .u64 0,.s [],.i .u8 15,.i .i64 0,.i .i64 9223372036854775807,.sl 0 2 0 fun _=>.un,.bs 32 g]] [] (fun out A0=>A0=[]/\(out=.b true)):=by
 refine cF Tryz.func51 fun X0 w0 hX=>?_
 refine FT (([]:By)=[]) (by decide) ?_;refine cK [] (Xr) ?_;rintro out A0 ⟨rfl,rfl⟩
 refine kS (true) rfl ?_;refine E5 (8<(0:Int)) (by decide) ?_;refine cM hX (fun(k:Nat)=>[(27,.sl 0 2 0 fun _=>.un),(28,.i .i64 0),(29,.i .i64 (k:Int))]) (fun(k:Nat)=>[]) (fun(k:Nat)=>True) (fun(k:Nat)=>0) [] 1744 0 trivial ?_;rintro k hI R hR
 refine cB ((k:Int)<0) (fun h1=>?_) fun h1=>?_
 ·exact absurd h1 zO
 exact xW hX (.b true) ⟨rfl,rfl,rfl⟩
theorem Ar(g:By):Sat Tryz.prog 53 [A1 [.i .u64 0,.s [],.i .u8 15,.i .i64 0,.i .i64 9223372036854775807,.sl 0 2 0 fun _=>.un,.bs 32 g]] [] (fun out A0=>out=.bl 2 yV/\A0=[2]):=by
 refine cF Tryz.func53 fun X0 w0 hX=>?_
 refine cK [] ((OG [] 0 [0,0,0,0,0,0,0,0] zK (by decide)).full (ins':=[.bl 1 [],.i .u64 0,.i .i64 8])) ?_;rintro out A0 ⟨rfl,rfl⟩
 refine cK [] (Xk [0,0,0,0,0,0,0,0] (by decide)) ?_;rintro out A0 ⟨rfl,rfl⟩
 refine cC (([0,0,0,0,0,0,0,0,0].length+[15].length)*1<=140737488355328) ?_ bd;refine cK [] (Xs [0,0,0,0,0,0,0,0,0,15] [0,0,0,0,0,0,0,0,0,15,0,0,0,0,0,0,0,0] zK (by decide)) ?_;rintro out A0 ⟨rfl,rfl⟩
 refine cK [] (Xt [0,0,0,0,0,0,0,0,0,15,0,0,0,0,0,0,0,0] [0,0,0,0,0,0,0,0,0,15,0,0,0,0,0,0,0,0,255,255,255,255,255,255,255,254] zK (by decide)) ?_;rintro out A0 ⟨rfl,rfl⟩
 exact xW hX (.bl 2 [0,0,0,0,0,0,0,0,0,15,0,0,0,0,0,0,0,0,255,255,255,255,255,255,255,254]) ⟨rfl,rfl,rfl⟩
theorem Xu(key:By)(hk:key.length=32):Sat Tryz.prog 24 [.bs 32 key,A1 [.i .u64 0,.s [],.i .u8 15,.i .i64 0,.i .i64 9223372036854775807,.sl 0 2 0 fun _=>.un,.bs 32 (replicate 32 0)]] [] (fun out A0=>A0=[]/\(out=A2 [A1 [.i .u64 0,.s [],.i .u8 15,.i .i64 0,.i .i64 9223372036854775807,.sl 0 2 0 fun _=>.un,.bs 32 (S7 key)],.i .i64 0])):=by
 refine cF Tryz.func24 fun X0 w0 hX=>?_
 refine mM fV true ?_;refine cK [] (OH (replicate 32 0)) ?_;rintro out A0 ⟨rfl,rfl⟩
 refine kS (true) rfl ?_;refine E5 (0<(0:Int)) (by decide) ?_;refine cK [] (Ar (replicate 32 0)) ?_;rintro out A0 ⟨rfl,rfl⟩
 refine L5 (Ap key (by assumption)) ?_;rintro out A0 ⟨rfl,rfl⟩
 refine⟨rfl,?_⟩
 exact xW hX (A2 [A1 [.i .u64 0,.s [],.i .u8 15,.i .i64 0,.i .i64 9223372036854775807,.sl 0 2 0 fun _=>.un,.bs 32 (S7 key)],.i .i64 0]) ⟨rfl,rfl,rfl⟩
theorem Xv(r:By)(hr:r.length=32):Sat Tryz.prog 14 [.bs 32 r] [] (fun out A0=>A0=[]/\(out=A1 [.i .u64 0,.s [],.i .u8 15,.i .i64 0,.i .i64 9223372036854775807,.sl 0 2 0 fun _=>.un,.bs 32 (S7 r)])):=by
 refine cF Tryz.func14 fun X0 w0 hX=>?_
 refine cK [] (pU (ins':=[.bs 32 r,A1 [.i .u64 0,.s [],.i .u8 15,.i .i64 0,.i .i64 9223372036854775807,.sl 1 2 0 fun _=>.un,.bs 32 (replicate 32 0)]]) (Xu r (by assumption)) ⟨.rfl _,C4 ⟨.rfl _,.rfl _,.rfl _,.rfl _,.rfl _,dU,.rfl _,zT⟩,zT⟩) ?_;rintro out A0 ⟨rfl,rfl⟩
 exact xW hX (A1 [.i .u64 0,.s [],.i .u8 15,.i .i64 0,.i .i64 9223372036854775807,.sl 0 2 0 fun _=>.un,.bs 32 (S7 r)]) ⟨rfl,rfl,rfl⟩
theorem Xw(v:Int)(r:By)(h:uL IA 8 ([],v)=(r,0))(hr:r.length=8):Sat Tryz.prog 97 [.bl 1 [],.i .u64 v,.i .i64 8] [] (fun out A0=>out=A2 [.bl 2 r,.i .i64 0]/\A0=[2]):=by
 refine cF Tryz.func97 fun X0 w0 hX=>?_
 refine E5 ((8:Int)<1) (by decide) ?_;refine E5 (8<(8:Int)) (by decide) ?_;refine cM hX (fun(p:Nat×By×Int)=>[(0,.bl 1 []),(1,.i .u64 p.2.2),(2,.i .i64 8),(8,.bl 2 p.2.1),(9,.i .i64 (p.1:Int))]) (fun(p:Nat×By×Int)=>[]) (fun(p:Nat×By×Int)=>uL IA (8-p.1) (p.2.1,p.2.2)=(r,0)/\p.1<=8/\p.2.1.length=p.1) (fun(p:Nat×By×Int)=>8-p.1) [2] 656 (0,[],v) ⟨h,by simp,by simp⟩ ?_;rintro⟨k,l,x⟩ hI R hR
 dsimp only at hI
 refine cB ((k:Int)<8) (fun h1=>?_) fun h1=>?_
 ·refine cC (([UInt8.ofNat ((u8.wrap (x.tmod 256))).toNat].length+l.length)*1<=140737488355328) ?_ bw
  exact cA hX (hR (k+1,([UInt8.ofNat ((u8.wrap (x.tmod 256))).toNat]++l),(u64.wrap (x.tdiv 256))) ⟨Xh (f:=IA) zO hI.1,by dsimp only;omega,by simp;omega⟩ (by dsimp only;omega)) (hS:=⟨v0,v0,v0,v0,(vS zO),zT⟩)
 have he:=Xi zO hI.1
 have hx:x=0:=congrArg Prod.snd he
 have hl:l=r:=congrArg Prod.fst he
 refine cB (0<x) (fun h2=>?_) fun h2=>?_
 ·exact absurd h2 zO
 refine cC ((([]:By).length+([]:By).length)*1<=140737488355328) ?_ bd
 refine cC ((([]:By).length+l.length)*1<=140737488355328) ?_ bd;exact xW hX (A2 [.bl 2 ([]++l),.i .i64 0]) ⟨rfl,by rw[hl];rfl,rfl⟩
theorem OI(v:Int)(r:By)(h:uL IA 8 ([],v)=(r,0))(hr:r.length=8):Sat Tryz.prog 48 [.i .u64 v] [] (fun out A0=>out=.bl 2 r/\A0=[2]):=by
 refine cF Tryz.func48 fun X0 w0 hX=>?_
 refine cK [] (Xw v r h hr) ?_;rintro out A0 ⟨rfl,rfl⟩
 exact xW hX (.bl 2 r) ⟨rfl,rfl,rfl⟩
theorem Xx(b:By)(hb:b.length<1000000):Sat Tryz.prog 98 [.bl 0 b,.i .u64 0] [] (fun out A0=>out=.bl 2 (b++[0])/\A0=[2]):=by
 refine cF Tryz.func98 fun X0 w0 hX=>?_
 refine cC ((([]:By).length+b.length)*1<=140737488355328) ?_ bd;refine cM hX (fun(u:Unit)=>[(1,.i .u64 0),(5,.bl 208 ([]++b))]) (fun(u:Unit)=>[]) (fun(u:Unit)=>True) (fun(u:Unit)=>0) [208] 336 () trivial ?_;rintro u hI R hR
 refine E5 (128<=(0:Int)) (by decide) ?_;refine cC ((([]++b).length+[0].length)*1<=140737488355328) ?_ bd;exact xW hX (.bl 2 (([]++b)++[0])) ⟨rfl,rfl,rfl⟩
theorem Xy(b:By)(hb:b.length<900000):Sat Tryz.prog 49 [.bl 0 b,.bl 0 []] [] (fun out A0=>out=A2 [.bl 2 (b++[0]),.i .i64 0]/\A0=[2]):=by
 refine cF Tryz.func49 fun X0 w0 hX=>?_
 refine E5 (65536<(0:Int)) (by decide) ?_;refine cK [] (Xx b bd) ?_;rintro out A0 ⟨rfl,rfl⟩
 refine cC (((b++[0]).length+([]:By).length)*1<=140737488355328) ?_ bd;exact xW hX (A2 [.bl 2 ((b++[0])++[]),.i .i64 0]) ⟨rfl,by rw[Z5],rfl⟩
theorem Xz(g:By):Sat Tryz.prog 21 [A1 [.i .u64 0,.s [],.i .u8 15,.i .i64 0,.i .i64 9223372036854775807,.sl 0 2 0 fun _=>.un,.bs 32 g]] [] (fun out A0=>A0=[]/\(out=.b true)):=by
 refine cF Tryz.func21 fun X0 w0 hX=>?_
 refine FT (([]:By)=[]) (by decide) ?_;refine E5 (15<(15:Int)) (by decide) ?_;refine E5 (8<(0:Int)) (by decide) ?_;refine cM hX (fun(k:Nat)=>[(1,.pr 16 0 []),(3,.i .i64 (k:Int))]) (fun(k:Nat)=>[(16,A1 [.i .u64 0,.s [],.i .u8 15,.i .i64 0,.i .i64 9223372036854775807,.sl 0 2 0 fun _=>.un,.bs 32 g])]) (fun(k:Nat)=>True) (fun(k:Nat)=>0) [] 1488 0 trivial ?_;rintro k hI R hR
 refine cB ((k:Int)<0) (fun h1=>?_) fun h1=>?_
 ·exact absurd h1 zO
 exact xW hX (.b true) ⟨rfl,rfl,rfl⟩
theorem OJ(g:By):Sat Tryz.prog 22 [A1 [.i .u64 0,.s [],.i .u8 15,.i .i64 0,.i .i64 9223372036854775807,.sl 0 2 0 fun _=>.un,.bs 32 g]] [] (fun out A0=>out=.bl 2 yV/\A0=[2]):=by
 refine cF Tryz.func22 fun X0 w0 hX=>?_
 refine cK [] (OI 0 [0,0,0,0,0,0,0,0] zK rfl) ?_;rintro out A0 ⟨rfl,rfl⟩
 refine cK [] (Xy [0,0,0,0,0,0,0,0] (by decide)) ?_;rintro out A0 ⟨rfl,rfl⟩
 refine cC (([0,0,0,0,0,0,0,0,0].length+[15].length)*1<=140737488355328) ?_ bd;refine cK [] (Xn) ?_;rintro out A0 ⟨rfl,rfl⟩
 refine cK [] (OI 0 [0,0,0,0,0,0,0,0] zK rfl) ?_;rintro out A0 ⟨rfl,rfl⟩
 refine cC (([0,0,0,0,0,0,0,0,0,15].length+[0,0,0,0,0,0,0,0].length)*1<=140737488355328) ?_ bd;refine cK [] (Xo) ?_;rintro out A0 ⟨rfl,rfl⟩
 refine cK [] (OI 18446744073709551614 [255,255,255,255,255,255,255,254] zK rfl) ?_;rintro out A0 ⟨rfl,rfl⟩
 refine cC (([0,0,0,0,0,0,0,0,0,15,0,0,0,0,0,0,0,0].length+[255,255,255,255,255,255,255,254].length)*1<=140737488355328) ?_ bd;exact xW hX (.bl 2 [0,0,0,0,0,0,0,0,0,15,0,0,0,0,0,0,0,0,255,255,255,255,255,255,255,254]) ⟨rfl,rfl,rfl⟩
def mZ(g:By):By:=([1]++([0,0,0,0,0,0,0,0]++(0::([15]++([0,0,0,0,0,0,0,0]++([255,255,255,255,255,255,255,254]++([0]++g)))))))
theorem Ya(g:By)(hg:g.length=32):Sat Tryz.prog 13 [A1 [.i .u64 0,.s [],.i .u8 15,.i .i64 0,.i .i64 9223372036854775807,.sl 0 2 0 fun _=>.un,.bs 32 g]] [] (fun out A0=>out=A2 [.bl 2 (mZ g),.i .i64 0]/\A0=[2]):=by
 refine cF Tryz.func13 fun X0 w0 hX=>?_
 refine cK [] (Xz g) ?_;rintro out A0 ⟨rfl,rfl⟩
 refine kS (true) rfl ?_;refine jA 3 5200 (fun(u:Unit)=>[(1,.pr 16 0 []),(4,.bl 976 [1,0,0,0,0,0,0,0,0,0,15,0,0,0,0,0,0,0,0,255,255,255,255,255,255,255,254,0])]) (fun(u:Unit)=>[(16,A1 [.i .u64 0,.s [],.i .u8 15,.i .i64 0,.i .i64 9223372036854775807,.sl 0 2 0 fun _=>.un,.bs 32 g])]) (fun(u:Unit)=>True) [976] (fun R hR i hi=>?_) ?_
 ·match i,hi with
 |0,_=>
   refine L4 2 zK fun i hi=>?_
   revert i hi;refine f2 ?_ ?_<;>repeat' (first|refine al 2 (f2 ?_ ?_)|(refine cK (e:=eE) [] (OJ g) ?_;rintro out A0 ⟨rfl,rfl⟩)|refine cC (e:=eE) (([1].length+[0,0,0,0,0,0,0,0,0,15,0,0,0,0,0,0,0,0,255,255,255,255,255,255,255,254].length)*1<=140737488355328) ?_ bd|refine cC (e:=eE) (([1,0,0,0,0,0,0,0,0,0,15,0,0,0,0,0,0,0,0,255,255,255,255,255,255,255,254].length+[0].length)*1<=140737488355328) ?_ bd|exact cA hX (hR () zT))
 |1,_=>
   refine cK [] (OJ g) ?_;rintro out A0 ⟨rfl,rfl⟩
   refine L4 2 zK fun i hi=>?_
   revert i hi;refine f2 ?_ ?_<;>repeat' (first|refine al 2 (f2 ?_ ?_)|refine cC (e:=eE) (([1].length+[0,0,0,0,0,0,0,0,0,15,0,0,0,0,0,0,0,0,255,255,255,255,255,255,255,254].length)*1<=140737488355328) ?_ bd|refine cC (e:=eE) (([1,0,0,0,0,0,0,0,0,0,15,0,0,0,0,0,0,0,0,255,255,255,255,255,255,255,254].length+[0].length)*1<=140737488355328) ?_ bd|exact cA hX (hR () zT))
 |2,_=>
   refine L4 2 zK fun i hi=>?_
   revert i hi;refine f2 ?_ ?_<;>repeat' (first|(refine cK (e:=eE) [] (OJ g) ?_;rintro out A0 ⟨rfl,rfl⟩)|refine cC (e:=eE) (([1].length+[0,0,0,0,0,0,0,0,0,15,0,0,0,0,0,0,0,0,255,255,255,255,255,255,255,254].length)*1<=140737488355328) ?_ bd|refine cC (e:=eE) (([1,0,0,0,0,0,0,0,0,0,15,0,0,0,0,0,0,0,0,255,255,255,255,255,255,255,254].length+[0].length)*1<=140737488355328) ?_ bd|exact cA hX (hR () zT))
 rintro u hJ
 refine cM hX (fun(k:Nat)=>[(1,.pr 16 0 []),(4,.bl 976 [1,0,0,0,0,0,0,0,0,0,15,0,0,0,0,0,0,0,0,255,255,255,255,255,255,255,254,0]),(5,.i .i64 (k:Int))]) (fun(k:Nat)=>[(16,A1 [.i .u64 0,.s [],.i .u8 15,.i .i64 0,.i .i64 9223372036854775807,.sl 0 2 0 fun _=>.un,.bs 32 g])]) (fun(k:Nat)=>True) (fun(k:Nat)=>0) [976] 5264 0 trivial ?_;rintro k hI R hR
 refine cB ((k:Int)<0) (fun h1=>?_) fun h1=>?_
 ·exact absurd h1 zO
 refine cC (([1,0,0,0,0,0,0,0,0,0,15,0,0,0,0,0,0,0,0,255,255,255,255,255,255,255,254,0].length+g.length)*1<=140737488355328) ?_ bd
 exact xW hX (A2 [.bl 2 ([1,0,0,0,0,0,0,0,0,0,15,0,0,0,0,0,0,0,0,255,255,255,255,255,255,255,254,0]++g),.i .i64 0]) ⟨rfl,by rfl,rfl⟩
def uM(x:Int)(c:UInt8):Int:=u64.wrap ((ofInt 64 (u64.wrap (x*2 ^ (min (8:Int).toNat 64)))|||ofInt 64 (u64.wrap ((c.toNat:Int)))).toNat:Int)
theorem Yb{l:By}{k:Nat}{x z:Int}(hk:k<l.length)(h:(l.drop k).foldl uM x=z):(l.drop (k+1)).foldl uM (uM x (l.getD k 0))=z:=by
 rw[IL hk,List.foldl_cons]at h
 rw[j9,B6 hk];exact h
theorem Yc{l:By}{k:Nat}{x z:Int}(hk:¬ k<l.length)(h:(l.drop k).foldl uM x=z):x=z:=by
 rw[eA zO]at h;exact h
theorem As{l m:By}{n:Nat}(hn:l.length=n)(h8:n<=8):((l++m).drop 0).take (((i64.wrap (0+(n:Int)))).toNat-0)=l:=by
 rw[N4 ⟨zO,zO⟩,qC,show(0+(n:Int)).toNat-0=l.length by omega,List.take_left']
 rfl
theorem Yd{l m:By}{n:Nat}(hn:l.length=n):((l++m).drop n).take ((l++m).length-((n:Int)).toNat)=m:=by
 rw[<-hn,List.drop_left,W0 (by simp)]
theorem Ye(l m:By)(n:Nat)(v:Int)(hn:l.length=n)(h1n:1<=n/\n<=8)(hv:l.foldl uM 0=v)(hb:(l++m).length<1000000):Sat Tryz.prog 151 [.bl 0 (l++m),.i .i64 0,.i .i64 (n:Int)] [] (fun out A0=>A0=[]/\(out=A2 [.i .u64 v,.i .i64 0])):=by
 refine cF Tryz.func151 fun X0 w0 hX=>?_
 refine cB ((n:Int)<1) (fun h1=>?_) fun h1=>?_
 ·exact absurd h1 zO
 refine cB (8<(n:Int)) (fun h2=>?_) fun h2=>?_
 ·exact absurd h2 zO
 refine E5 ((0:Int)<0) (by decide) ?_
 refine cB ((i64.wrap (((l++m).length:Int)-(n:Int)))<0) (fun h3=>?_) fun h3=>?_
 ·exact absurd h3 (by rw[N4 ⟨zO,zO⟩];simp only[C9];omega)
 refine cC ((0:Int)<=0/\(0:Int)<=(i64.wrap (0+(n:Int)))/\(i64.wrap (0+(n:Int)))<=((l++m).length:Int)) ?_ bw
 refine cM hX (fun(p:Nat×Int)=>[(8,.i .u64 p.2),(34,.bl 0 l),(35,.i .i64 (l.length:Int)),(36,.i .i64 (p.1:Int))]) (fun(p:Nat×Int)=>[]) (fun(p:Nat×Int)=>p.1<=l.length/\(l.drop p.1).foldl uM p.2=v) (fun(p:Nat×Int)=>l.length-p.1) [] 1872 (0,0) ⟨L8 _,hv⟩ ?_ (hS:=⟨v0,(vT (u:=.bl 0 (((l++m).drop 0).take (((i64.wrap (0+(n:Int)))).toNat-0))) (.of_eq (by rw[As hn h1n.2]))),(vT (u:=.i .i64 ((((l++m).drop 0).take (((i64.wrap (0+(n:Int)))).toNat-0)).length:Int)) (.of_eq (by rw[As hn h1n.2]))),v0,zT⟩);rintro⟨k,x⟩ hI R hR
 dsimp only at hI
 refine cB ((k:Int)<(l.length:Int)) (fun h4=>?_) fun h4=>?_
 ·refine cC ((0:Int)<=(k:Int)/\(k:Int)<(l.length:Int)) ?_
  exact cA hX (hR (k+1,(u64.wrap ((ofInt 64 (u64.wrap (x*2 ^ (min (8:Int).toNat 64)))|||ofInt 64 (u64.wrap ((l.getD k 0).toNat:Int))).toNat:Int))) ⟨by dsimp only;omega,Yb zO hI.2⟩ (by dsimp only;omega)) (hS:=⟨v0,v0,v0,vS,zT⟩)
 have hx:=Yc zO hI.2
 exact xW hX (A2 [.i .u64 v,.i .i64 0]) ⟨rfl,rfl,rfl⟩ (hv:=vT (u:=A2 [.i .u64 x,.i .i64 0]) (F3 ⟨(.of_eq (by rw[hx])),v0,zT⟩))
theorem Yf{m:By}:((0::m).drop 1).take ((0::m).length-1)=m:=by simp
theorem yW(l m:By)(p:Bool)(n:Nat)(v:Int)(hn:l.length=n)(h1n:1<=n/\n<=8)(hv:l.foldl uM 0=v)(hb:(l++m).length<1000000):SatHM Tryz.prog false 103 [.pr 2 0 [],.i .i64 (n:Int)] [] [(2,A1 [.bl 0 (l++m),.b p])] (fun out ho A0=>out=.i .u64 v/\ho=[(2,GP m p)]/\A0=[]):=by
 refine fH false Tryz.func103 fun X0 w0 hX hm=>?_
 refine cK [] (Ye l m n v hn h1n hv hb) ?_;rintro out A0 ⟨rfl,rfl⟩
 refine E5 ((0:Int)≠0) (by decide) ?_;refine cC ((0:Int)<=(n:Int)/\(n:Int)<=((l++m).length:Int)) ?_ bd;exact xW hX (.i .u64 v) ⟨rfl,rfl,rfl⟩ (hH:=⟨(vT (u:=A1 [.bl 0 (((l++m).drop n).take ((l++m).length-((n:Int)).toNat)),.b p]) ((C4 ⟨(.of_eq (by rw[Yd hn])),v0,zT⟩))),zT⟩)
theorem Yg(m:By)(hb:(0::m:By).length<1000000):Sat Tryz.prog 182 [.bl 0 (0::m)] [] (fun out A0=>A0=[]/\(out=A2 [.i .u64 0,.i .i64 1,.i .i64 0])):=by
 refine cF Tryz.func182 fun X0 w0 hX=>?_
 refine cM hX (fun(u:Unit)=>[(5,.i .u64 0),(8,.bl 0 (0::m)),(9,.i .i64 ((0::m).length:Int)),(10,.i .i64 0)]) (fun(u:Unit)=>[]) (fun(u:Unit)=>True) (fun(u:Unit)=>0) [] 464 () trivial ?_;rintro u hI R hR
 refine cB (0<((0::m).length:Int)) (fun h1=>?_) fun h1=>?_
 ·refine cC ((0:Int)<=0/\0<((0::m).length:Int)) ?_ (hp:=by simp only[I4];omega)
  refine E5 ((0:Int)=9) (by decide) ?_;refine O6 ((0:Int)=0) (by decide) ?_;refine E5 (0<(0:Int)) (by decide) ?_;refine cC ((0:Int)<=0) ?_;refine O6 ((0:Int)<128) (by decide) ?_;exact xW hX (A2 [.i .u64 0,.i .i64 1,.i .i64 0]) ⟨rfl,rfl,rfl⟩
 exact absurd (show(0:Int)<((0::m:By).length:Int) by simp only[I4];omega) h1
theorem Yh(m:By)(hb:(0::m:By).length<1000000):Sat Tryz.prog 152 [.bl 0 (0::m)] [] (fun out A0=>out=A2 [.bl 2 [],.i .i64 1,.i .i64 0]/\A0=[2]):=by
 refine cF Tryz.func152 fun X0 w0 hX=>?_
 refine cK [] (Yg m hb) ?_;rintro out A0 ⟨rfl,rfl⟩
 refine E5 ((0:Int)≠0) (by decide) ?_;refine E5 (65536<(0:Int)) (by decide) ?_;refine cB ((u64.wrap (i64.wrap (((0::m).length:Int)-1)))<0) (fun h1=>?_) fun h1=>?_
 ·exact absurd h1 (by have:=(T6 (i64.wrap (((0::m:By).length:Int)-1))).1;omega)
 refine cC ((0:Int)<=1/\(1:Int)<=1/\1<=((0::m).length:Int)) ?_ (hp:=by simp only[I4];omega)
 refine cK [] (tU (((0::m).drop 1).take (1-1)) 0 bd zO) ?_;rintro out A0 ⟨rfl,rfl⟩
 exact xW hX (A2 [.bl 2 [],.i .i64 1,.i .i64 0]) ⟨rfl,rfl,rfl⟩ (hv:=vT (u:=A2 [.bl 2 (((0::m).drop 1).take (1-1)),.i .i64 1,.i .i64 0]) (F3 ⟨v0,v0,v0,zT⟩))
theorem Yi(m:By)(p:Bool)(hb:(0::m:By).length<1000000):SatHM Tryz.prog false 104 [.pr 2 0 []] [] [(2,A1 [.bl 0 (0::m),.b p])] (fun out ho A0=>out=.s []/\ho=[(2,GP m p)]/\A0=[]):=by
 refine fH false Tryz.func104 fun X0 w0 hX hm=>?_
 refine cK [] (Yh m hb) ?_;rintro out A0 ⟨rfl,rfl⟩
 refine E5 ((0:Int)≠0) (by decide) ?_;refine cC ((0:Int)<=1/\1<=((0::m).length:Int)) ?_ (hp:=by simp only[I4];omega);exact xW hX (.s []) ⟨rfl,rfl,rfl⟩ (hH:=⟨(vT (u:=A1 [.bl 0 (((0::m).drop 1).take ((0::m).length-1)),.b p]) ((C4 ⟨(.of_eq (by rw[Yf])),v0,zT⟩))),zT⟩)
theorem Yj(g:By)(hg:g.length=32):Sat Tryz.prog 63 [.bl 0 ([1]++([0,0,0,0,0,0,0,0]++(0::([15]++([0,0,0,0,0,0,0,0]++([255,255,255,255,255,255,255,254]++([0]++g)))))))] [] (fun out A0=>A0=[]/\(out=A2 [A1 [.i .u64 0,.s [],.i .u8 15,.i .i64 0,.i .i64 9223372036854775807,.sl 0 2 0 fun _=>.un,.bs 32 g],.i .i64 0])):=by
 refine cF Tryz.func63 fun X0 w0 hX=>?_
 refine kH [(272,2)] [272] (yW [1] ([0,0,0,0,0,0,0,0]++(0::([15]++([0,0,0,0,0,0,0,0]++([255,255,255,255,255,255,255,254]++([0]++g)))))) false 1 1 rfl (by decide) zK (by simp only[C9,I4,S1];omega)) ?_;rintro out ho A0 ⟨rfl,rfl,rfl⟩
 refine kH [(272,2)] [272] (yW [0,0,0,0,0,0,0,0] (0::([15]++([0,0,0,0,0,0,0,0]++([255,255,255,255,255,255,255,254]++([0]++g))))) false 8 0 rfl (by decide) zK (by simp only[C9,I4,S1];omega)) ?_;rintro out ho A0 ⟨rfl,rfl,rfl⟩
 refine kH [(272,2)] [272] (Yi ([15]++([0,0,0,0,0,0,0,0]++([255,255,255,255,255,255,255,254]++([0]++g)))) false (by simp only[C9,I4,S1];omega)) ?_;rintro out ho A0 ⟨rfl,rfl,rfl⟩
 refine kH [(272,2)] [272] (yW [15] ([0,0,0,0,0,0,0,0]++([255,255,255,255,255,255,255,254]++([0]++g))) false 1 15 rfl (by decide) zK (by simp only[C9,I4,S1];omega)) ?_;rintro out ho A0 ⟨rfl,rfl,rfl⟩
 refine kH [(272,2)] [272] (yW [0,0,0,0,0,0,0,0] ([255,255,255,255,255,255,255,254]++([0]++g)) false 8 0 rfl (by decide) zK (by simp only[C9,I4,S1];omega)) ?_;rintro out ho A0 ⟨rfl,rfl,rfl⟩
 refine cK [] (Xp) ?_;rintro out A0 ⟨rfl,rfl⟩
 refine kH [(272,2)] [272] (yW [255,255,255,255,255,255,255,254] ([0]++g) false 8 18446744073709551614 rfl (by decide) zK (by simp only[C9,I4,S1];omega)) ?_;rintro out ho A0 ⟨rfl,rfl,rfl⟩
 refine cK [] (Xq) ?_;rintro out A0 ⟨rfl,rfl⟩
 refine kH [(272,2)] [272] (yW [0] g false 1 0 rfl (by decide) zK (by simp only[C9,I4,S1];omega)) ?_;rintro out ho A0 ⟨rfl,rfl,rfl⟩
 refine FU (false) rfl ?_;refine E5 ((1:Int)≠1) (by decide) ?_;refine E5 (8<(0:Int)) (by decide) ?_;refine cM hX (fun(k:Nat)=>[(2,.pr 16 0 []),(4,.pr 272 0 []),(6,.pr 1104 0 []),(45,.i .u64 0),(46,.i .u64 (k:Int))]) (fun(k:Nat)=>[(16,A1 [.i .u64 0,.s [],.i .u8 0,.i .i64 0,.i .i64 0,.sl 1 2 0 fun _=>.un,.bs 32 (replicate 32 0)]),(272,A1 [.bl 0 g,.b false]),(1104,A1 [.i .u64 0,.s [],.i .u8 15,.i .i64 0,.i .i64 9223372036854775807,.sl 1 2 0 fun _=>.un,.bs 32 (replicate 32 0)])]) (fun(k:Nat)=>True) (fun(k:Nat)=>0) [] 2960 0 trivial ?_;rintro k hI R hR
 refine cB ((k:Int)<0) (fun h1=>?_) fun h1=>?_
 ·exact absurd h1 zO
 refine FU (false) rfl ?_
 refine cB ((g.length:Int)≠32) (fun h2=>?_) fun h2=>?_
 ·exact absurd h2 zO
 refine cK [] (pU (ins':=[A1 [.i .u64 0,.s [],.i .u8 15,.i .i64 0,.i .i64 9223372036854775807,.sl 1 2 0 fun _=>.un,.bs 32 (replicate 32 0)]]) (OH (replicate 32 0)) ⟨C4 ⟨.rfl _,.rfl _,.rfl _,.rfl _,.rfl _,dU,.rfl _,zT⟩,zT⟩) ?_
 rintro out A0 ⟨rfl,rfl⟩
 refine kS (true) rfl ?_;refine cC (32<=g.length) ?_;exact xW hX (A2 [A1 [.i .u64 0,.s [],.i .u8 15,.i .i64 0,.i .i64 9223372036854775807,.sl 0 2 0 fun _=>.un,.bs 32 g],.i .i64 0]) ⟨rfl,rfl,rfl⟩ (hv:=vT (u:=A2 [A1 [.i .u64 0,.s [],.i .u8 15,.i .i64 0,.i .i64 9223372036854775807,.sl 0 2 0 fun _=>.un,.bs 32 (g.take 32)],.i .i64 0]) (F3 ⟨(C4 ⟨v0,.rfl _,v0,v0,v0,vN,(.of_eq (by rw[W0 zO])),zT⟩),v0,zT⟩))
theorem Yk(h:By):Sat Tryz.prog 106 [.bs 32 h,.sl 0 2 0 fun _=>.un] [] (fun out A0=>A0=[]/\(out=.bs 32 h)):=by
 refine cF Tryz.func106 fun X0 w0 hX=>?_
 refine mM fV true ?_;refine cM hX (fun(k:Nat)=>[(2,.pr 16 0 []),(4,.pr 80 0 []),(7,.sl 0 2 0 fun _=>.un),(8,.i .i64 0),(9,.i .i64 (k:Int)),(1000004,A2 [])]) (fun(k:Nat)=>[(16,.bs 32 h),(80,.bs 32 (replicate 32 0))]) (fun(k:Nat)=>True) (fun(k:Nat)=>0) [] 336 0 trivial ?_;rintro k hI R hR
 refine cB ((k:Int)<0) (fun h1=>?_) fun h1=>?_
 ·exact absurd h1 zO
 exact xW hX (.bs 32 h) ⟨rfl,rfl,rfl⟩
theorem Au(g:By):Sat Tryz.prog 67 [A1 [.i .u64 0,.s [],.i .u8 15,.i .i64 0,.i .i64 9223372036854775807,.sl 0 2 0 fun _=>.un,.bs 32 g]] [] (fun out A0=>A0=[]/\(out=A2 [.i .u8 15,.i .i64 9223372036854775807])):=by
 refine cF Tryz.func67 fun X0 w0 hX=>?_
 refine cM hX (fun(k:Nat)=>[(4,.i .u8 15),(5,.i .i64 9223372036854775807),(13,.sl 0 2 0 fun _=>.un),(14,.i .i64 0),(15,.i .i64 (k:Int))]) (fun(k:Nat)=>[]) (fun(k:Nat)=>True) (fun(k:Nat)=>0) [] 848 0 trivial ?_;rintro k hI R hR
 refine cB ((k:Int)<0) (fun h1=>?_) fun h1=>?_
 ·exact absurd h1 zO
 exact xW hX (A2 [.i .u8 15,.i .i64 9223372036854775807]) ⟨rfl,rfl,rfl⟩
theorem Yl(key:By)(hk:key.length=32):Sat Tryz.prog 64 [.bs 32 key,A1 [.i .u64 0,.s [],.i .u8 15,.i .i64 0,.i .i64 9223372036854775807,.sl 0 2 0 fun _=>.un,.bs 32 (S7 key)],.i .i64 0] [] (fun out A0=>A0=[]/\(out=.i .i64 0)):=by
 refine cF Tryz.func64 fun X0 w0 hX=>?_
 refine mM fV true ?_;refine cK [] (OH (S7 key)) ?_;rintro out A0 ⟨rfl,rfl⟩
 refine kS (true) rfl ?_;refine jA 2 5136 (fun(u:Unit)=>[(2,.i .i64 0),(4,.pr 80 0 []),(7,.pr 912 0 []),(1000004,A2 [])]) (fun(u:Unit)=>[(80,A1 [.i .u64 0,.s [],.i .u8 15,.i .i64 0,.i .i64 9223372036854775807,.sl 0 2 0 fun _=>.un,.bs 32 (S7 key)]),(912,.bs 32 (S7 key))]) (fun(u:Unit)=>True) [] (fun R hR i hi=>?_) ?_
 ·revert i hi;refine f2 ?_ ?_<;>repeat' (first|refine al 2 (f2 ?_ ?_)|(refine cK (e:=eE) [] (Ar (S7 key)) ?_;rintro out A0 ⟨rfl,rfl⟩)|(refine L5 (e:=eE) (Ap key (by assumption)) ?_;rintro out A0 ⟨rfl,rfl⟩;refine⟨rfl,?_⟩)|(refine cK (e:=eE) [] (Yk (S7 key)) ?_;rintro out A0 ⟨rfl,rfl⟩)|exact cA hX (hR () zT))
 rintro u hJ
 refine L5 (WF 0 0 (((S7 key).drop 0).take 32) (((S7 key).drop 0).take 32)) ?_;rintro out A0 ⟨rfl,rfl⟩
 refine⟨rfl,?_⟩
 refine FT ((((S7 key).drop 0).take 32)=(((S7 key).drop 0).take 32)) rfl ?_;refine cK [] (Au (S7 key)) ?_;rintro out A0 ⟨rfl,rfl⟩
 refine E5 ((0:Int)<0) (by decide) ?_;refine E5 (9223372036854775807<=(0:Int)) (by decide) ?_;exact xW hX (.i .i64 0) ⟨rfl,rfl,rfl⟩
theorem Ym  :Sat Tryz.prog 69 [.i .i64 17] [] (fun out A0=>A0=[]/\(out=.b true)):=by
 refine cF Tryz.func69 fun X0 w0 hX=>?_
 refine O6 (10<=(17:Int)) (by decide) ?_;exact xW hX (.b true) ⟨rfl,rfl,rfl⟩ (hv:=vT (u:=.b (decide ((17:Int)<=17))) v0)
theorem Yn  :Sat Tryz.prog 66 [.i .i64 17] [] (fun out A0=>A0=[]/\(out=A2 [.i .u8 8,.i .i64 0])):=by
 refine cF Tryz.func66 fun X0 w0 hX=>?_
 refine E5 ((17:Int)=2) (by decide) ?_;refine E5 ((17:Int)=4) (by decide) ?_;refine E5 ((17:Int)=5) (by decide) ?_;refine E5 ((17:Int)=6) (by decide) ?_;refine E5 ((17:Int)=9) (by decide) ?_;refine E5 ((17:Int)=1) (by decide) ?_;refine E5 ((17:Int)=3) (by decide) ?_;refine E5 ((17:Int)=7) (by decide) ?_;refine E5 ((17:Int)=8) (by decide) ?_;refine cK [] (Ym) ?_;rintro out A0 ⟨rfl,rfl⟩
 refine LO (true) rfl ?_;exact xW hX (A2 [.i .u8 8,.i .i64 0]) ⟨rfl,rfl,rfl⟩
theorem Yo  :Sat Tryz.prog 68 [.i .u8 15,.i .u8 8] [] (fun out A0=>A0=[]/\(out=.b true)):=by
 refine cF Tryz.func68 fun X0 w0 hX=>?_
 exact xW hX (.b true) ⟨rfl,rfl,rfl⟩ (hv:=vT (u:=.b (decide ((0:Int)=0))) v0)
theorem Yp  :Sat Tryz.prog 61 [.i .u8 0] [] (fun out A0=>A0=[]/\(out=.b true)):=by
 refine cF Tryz.func61 fun X0 w0 hX=>?_
 exact xW hX (.b true) ⟨rfl,rfl,rfl⟩ (hv:=vT (u:=.b (decide ((0:Int)=0))) v0)
theorem OK{z n:Nat}{e:α->V}{g:Nat->α}{v:V}{x:α}(h:VEn v (e x):=by exact .rfl _):VEq (.ar z n (fun k=>bif beq k j then v else e (g k))) (.ar z n fun k=>e (F7 g j x k)):=.an _ _ _ _ fun k _=>by
 show VEn (bif beq k j then v else e (g k)) (e (bif beq k j then x else g k))
 cases beq k j
 ·exact .rfl _
 exact h
theorem Yq{v:V}{a:Nat}(ha:a<1000000000)(h:v=.i .i64 (i64.wrap (((64*a:Nat):Int)+64)):=by kernel_rfl):VEq v (.i .i64 ((64*(a+1):Nat):Int)):=.of_eq (h.trans (by rw[show i64.wrap (((64*a:Nat):Int)+64)=((64*(a+1):Nat):Int) from bw]))
def OL(x:Int):V:=.i .u64 x
theorem lA(x n:Int)(hn:0<=n/\n<1000):Sat Tryz.prog 218 [.i .u64 x,.i .i64 n] [] (fun out A0=>A0=[]/\(∃y,out=.i .u64 y)):=by
 refine cF Tryz.func218 fun X0 w0 hX=>?_
 refine cM hX (fun(p:Nat×Int)=>[(0,.i .u64 p.2),(1,.i .i64 n),(5,.i .i64 (p.1:Int))]) (fun(p:Nat×Int)=>[]) (fun(p:Nat×Int)=>(p.1:Int)<=n) (fun(p:Nat×Int)=>n.toNat-p.1) [] 144 (0,x) (by dsimp only;omega) ?_;rintro⟨k,y⟩ hI R hR
 dsimp only at hI
 refine cB ((k:Int)<n) (fun h1=>?_) fun h1=>?_
 ·exact cA hX (hR (k+1,(u64.wrap ((u64.wrap (y.tdiv 2))+(u64.wrap ((y.tmod 2)*2147483648))))) (by dsimp only;omega) (by dsimp only;omega)) (hS:=⟨v0,v0,(vS bd),zT⟩)
 exact xW hX (.i .u64 y) ⟨rfl,rfl,⟨_,rfl⟩⟩
theorem Av(x n:Int)(hn:0<=n/\n<1000):Sat Tryz.prog 219 [.i .u64 x,.i .i64 n] [] (fun out A0=>A0=[]/\(∃y,out=.i .u64 y)):=by
 refine cF Tryz.func219 fun X0 w0 hX=>?_
 refine cM hX (fun(p:Nat×Int)=>[(0,.i .u64 p.2),(1,.i .i64 n),(5,.i .i64 (p.1:Int))]) (fun(p:Nat×Int)=>[]) (fun(p:Nat×Int)=>(p.1:Int)<=n) (fun(p:Nat×Int)=>n.toNat-p.1) [] 144 (0,x) (by dsimp only;omega) ?_;rintro⟨k,y⟩ hI R hR
 dsimp only at hI
 refine cB ((k:Int)<n) (fun h1=>?_) fun h1=>?_
 ·exact cA hX (hR (k+1,(u64.wrap (y.tdiv 2))) (by dsimp only;omega) (by dsimp only;omega)) (hS:=⟨v0,v0,(vS bd),zT⟩)
 exact xW hX (.i .u64 y) ⟨rfl,rfl,⟨_,rfl⟩⟩
theorem Yr  :Sat Tryz.prog 201 [] [] (fun out A0=>A0=[]/\(∃g:Nat->Int,out=.ar 1 64 fun i=>.i .u64 (g i))):=by
 refine cF Tryz.func201 fun X0 w0 hX=>?_
 refine MH (t:=271) (d:=1) .u64 [1116352408,1899447441,3049323471,3921009573,961987163,1508970993,2453635748,2870763221,3624381080,310598401,607225278,1426881987,1925078388,2162078206,2614888103,3248222580,3835390401,4022224774,264347078,604807628,770255983,1249150122,1555081692,1996064986,2554220882,2821834349,2952996808,3210313671,3336571891,3584528711,113926993,338241895,666307205,773529912,1294757372,1396182291,1695183700,1986661051,2177026350,2456956037,2730485921,2820302411,3259730800,3345764771,3516065817,3600352804,4094571909,275423344,430227734,506948616,659060556,883997877,958139571,1322822218,1537002063,1747873779,1955562222,2024104815,2227730452,2361852424,2428436474,2756734187,3204031479,3329325298] ?_
 exact xW hX (.ar 1 64 fun i=>.i .u64 ([1116352408,1899447441,3049323471,3921009573,961987163,1508970993,2453635748,2870763221,3624381080,310598401,607225278,1426881987,1925078388,2162078206,2614888103,3248222580,3835390401,4022224774,264347078,604807628,770255983,1249150122,1555081692,1996064986,2554220882,2821834349,2952996808,3210313671,3336571891,3584528711,113926993,338241895,666307205,773529912,1294757372,1396182291,1695183700,1986661051,2177026350,2456956037,2730485921,2820302411,3259730800,3345764771,3516065817,3600352804,4094571909,275423344,430227734,506948616,659060556,883997877,958139571,1322822218,1537002063,1747873779,1955562222,2024104815,2227730452,2361852424,2428436474,2756734187,3204031479,3329325298].getD i 0)) ⟨rfl,rfl,⟨_,rfl⟩⟩
theorem Ys(h w kk:Nat->Int):Sat Tryz.prog 202 [.ar 1 8 fun i=>.i .u64 (h i),.ar 1 64 fun i=>.i .u64 (w i),.ar 1 64 fun i=>.i .u64 (kk i)] [] (fun out A0=>A0=[]/\(∃g:Nat->Int,out=.ar 1 8 fun i=>.i .u64 (g i))):=by
 refine cF Tryz.func202 fun X0 w0 hX=>?_
 refine cM hX (fun(p:Nat×(Nat->Int))=>[(3,.pr 16 0 []),(4,.pr 80 0 []),(5,.pr 144 0 []),(6,.pr 208 0 []),(7,.i .i64 (p.1:Int))]) (fun(p:Nat×(Nat->Int))=>[(16,.ar 1 8 fun i=>.i .u64 (h i)),(80,.ar 1 64 fun i=>.i .u64 (p.2 i)),(144,.ar 1 64 fun i=>.i .u64 (kk i)),(208,.ar 1 8 fun i=>.i .u64 0)]) (fun(p:Nat×(Nat->Int))=>16<=p.1/\p.1<=64) (fun(p:Nat×(Nat->Int))=>64-p.1) [] 336 (16,w) ⟨by simp,by simp⟩ ?_;rintro⟨k,g⟩ hI R hR
 dsimp only at hI
 refine cB ((k:Int)<64) (fun h1=>?_) fun h1=>?_
 ·refine cC ((0:Int)<=(i64.wrap ((k:Int)-15))/\(i64.wrap ((k:Int)-15))<64) ?_ bw
  refine cC ((0:Int)<=(i64.wrap ((k:Int)-2))/\(i64.wrap ((k:Int)-2))<64) ?_ bw;refine cK [] (lA (g (((i64.wrap ((k:Int)-15))).toNat)) 7 bd) ?_;rintro out A0 ⟨rfl,⟨ty0,rfl⟩⟩
  refine cK [] (lA (g (((i64.wrap ((k:Int)-15))).toNat)) 18 bd) ?_;rintro out A0 ⟨rfl,⟨ty1,rfl⟩⟩
  refine cK [] (Av (g (((i64.wrap ((k:Int)-15))).toNat)) 3 bd) ?_;rintro out A0 ⟨rfl,⟨ty2,rfl⟩⟩
  refine cK [] (lA (g (((i64.wrap ((k:Int)-2))).toNat)) 17 bd) ?_;rintro out A0 ⟨rfl,⟨ty3,rfl⟩⟩
  refine cK [] (lA (g (((i64.wrap ((k:Int)-2))).toNat)) 19 bd) ?_;rintro out A0 ⟨rfl,⟨ty4,rfl⟩⟩
  refine cK [] (Av (g (((i64.wrap ((k:Int)-2))).toNat)) 10 bd) ?_;rintro out A0 ⟨rfl,⟨ty5,rfl⟩⟩
  refine cC ((0:Int)<=(i64.wrap ((k:Int)-16))/\(i64.wrap ((k:Int)-16))<64) ?_ bw;refine cC ((0:Int)<=(i64.wrap ((k:Int)-7))/\(i64.wrap ((k:Int)-7))<64) ?_ bw;refine cC ((0:Int)<=(k:Int)/\(k:Int)<64) ?_;exact cA hX (hR (k+1,(F7 g k (u64.wrap ((ofInt 64 (u64.wrap ((u64.wrap ((u64.wrap ((g (((i64.wrap ((k:Int)-16))).toNat))+(u64.wrap ((ofInt 64 (u64.wrap ((ofInt 64 ty0^^^ofInt 64 ty1).toNat:Int))^^^ofInt 64 ty2).toNat:Int))))+(g (((i64.wrap ((k:Int)-7))).toNat))))+(u64.wrap ((ofInt 64 (u64.wrap ((ofInt 64 ty3^^^ofInt 64 ty4).toNat:Int))^^^ofInt 64 ty5).toNat:Int))))&&&ofInt 64 4294967295).toNat:Int)))) ⟨by dsimp only;omega,by dsimp only;omega⟩ (by dsimp only;omega)) (hS:=⟨v0,v0,v0,v0,(vS bd),zT⟩) (hH:=⟨v0,(vT (OK (e:=OL))),v0,v0,zT⟩)
 refine cM hX (fun(p:Nat×(Nat->Int))=>[(3,.pr 16 0 []),(4,.pr 80 0 []),(5,.pr 144 0 []),(6,.pr 208 0 []),(12,.pr 528 0 []),(13,.i .i64 (p.1:Int))]) (fun(p:Nat×(Nat->Int))=>[(16,.ar 1 8 fun i=>.i .u64 (h i)),(80,.ar 1 64 fun i=>.i .u64 (g i)),(144,.ar 1 64 fun i=>.i .u64 (kk i)),(208,.ar 1 8 fun i=>.i .u64 0),(528,.ar 1 8 fun i=>.i .u64 (p.2 i))]) (fun(p:Nat×(Nat->Int))=>0<=p.1/\p.1<=64) (fun(p:Nat×(Nat->Int))=>64-p.1) [] 720 (0,h) ⟨by simp,by simp⟩ ?_
 rintro⟨k,gv⟩ hI R hR
 dsimp only at hI
 refine cB ((k:Int)<64) (fun h2=>?_) fun h2=>?_
 ·refine cK [] (lA (gv 4) 6 bd) ?_
  rintro out A0 ⟨rfl,⟨ty6,rfl⟩⟩
  refine cK [] (lA (gv 4) 11 bd) ?_;rintro out A0 ⟨rfl,⟨ty7,rfl⟩⟩
  refine cK [] (lA (gv 4) 25 bd) ?_;rintro out A0 ⟨rfl,⟨ty8,rfl⟩⟩
  refine cC ((0:Int)<=(k:Int)/\(k:Int)<64) ?_;refine cC ((0:Int)<=(k:Int)/\(k:Int)<64) ?_;refine cK [] (lA (gv 0) 2 bd) ?_;rintro out A0 ⟨rfl,⟨ty9,rfl⟩⟩
  refine cK [] (lA (gv 0) 13 bd) ?_;rintro out A0 ⟨rfl,⟨ty10,rfl⟩⟩
  refine cK [] (lA (gv 0) 22 bd) ?_;rintro out A0 ⟨rfl,⟨ty11,rfl⟩⟩
  refine MH (t:=273) (d:=153) .u64 [(u64.wrap ((ofInt 64 (u64.wrap ((u64.wrap ((u64.wrap ((u64.wrap ((u64.wrap ((u64.wrap ((gv 7)+(u64.wrap ((ofInt 64 (u64.wrap ((ofInt 64 ty6^^^ofInt 64 ty7).toNat:Int))^^^ofInt 64 ty8).toNat:Int))))+(u64.wrap ((ofInt 64 (u64.wrap ((ofInt 64 (gv 4)&&&ofInt 64 (gv 5)).toNat:Int))^^^ofInt 64 (u64.wrap ((ofInt 64 (u64.wrap (4294967295-(gv 4)))&&&ofInt 64 (gv 6)).toNat:Int))).toNat:Int))))+(kk k)))+(g k)))+(u64.wrap ((ofInt 64 (u64.wrap ((ofInt 64 ty9^^^ofInt 64 ty10).toNat:Int))^^^ofInt 64 ty11).toNat:Int))))+(u64.wrap ((ofInt 64 (u64.wrap ((ofInt 64 (u64.wrap ((ofInt 64 (gv 0)&&&ofInt 64 (gv 1)).toNat:Int))^^^ofInt 64 (u64.wrap ((ofInt 64 (gv 0)&&&ofInt 64 (gv 2)).toNat:Int))).toNat:Int))^^^ofInt 64 (u64.wrap ((ofInt 64 (gv 1)&&&ofInt 64 (gv 2)).toNat:Int))).toNat:Int))))&&&ofInt 64 4294967295).toNat:Int)),(gv 0),(gv 1),(gv 2),(u64.wrap ((ofInt 64 (u64.wrap ((gv 3)+(u64.wrap ((u64.wrap ((u64.wrap ((u64.wrap ((gv 7)+(u64.wrap ((ofInt 64 (u64.wrap ((ofInt 64 ty6^^^ofInt 64 ty7).toNat:Int))^^^ofInt 64 ty8).toNat:Int))))+(u64.wrap ((ofInt 64 (u64.wrap ((ofInt 64 (gv 4)&&&ofInt 64 (gv 5)).toNat:Int))^^^ofInt 64 (u64.wrap ((ofInt 64 (u64.wrap (4294967295-(gv 4)))&&&ofInt 64 (gv 6)).toNat:Int))).toNat:Int))))+(kk k)))+(g k)))))&&&ofInt 64 4294967295).toNat:Int)),(gv 4),(gv 5),(gv 6)] ?_
  exact cA hX (hR (k+1,(fun i=>[(u64.wrap ((ofInt 64 (u64.wrap ((u64.wrap ((u64.wrap ((u64.wrap ((u64.wrap ((u64.wrap ((gv 7)+(u64.wrap ((ofInt 64 (u64.wrap ((ofInt 64 ty6^^^ofInt 64 ty7).toNat:Int))^^^ofInt 64 ty8).toNat:Int))))+(u64.wrap ((ofInt 64 (u64.wrap ((ofInt 64 (gv 4)&&&ofInt 64 (gv 5)).toNat:Int))^^^ofInt 64 (u64.wrap ((ofInt 64 (u64.wrap (4294967295-(gv 4)))&&&ofInt 64 (gv 6)).toNat:Int))).toNat:Int))))+(kk k)))+(g k)))+(u64.wrap ((ofInt 64 (u64.wrap ((ofInt 64 ty9^^^ofInt 64 ty10).toNat:Int))^^^ofInt 64 ty11).toNat:Int))))+(u64.wrap ((ofInt 64 (u64.wrap ((ofInt 64 (u64.wrap ((ofInt 64 (gv 0)&&&ofInt 64 (gv 1)).toNat:Int))^^^ofInt 64 (u64.wrap ((ofInt 64 (gv 0)&&&ofInt 64 (gv 2)).toNat:Int))).toNat:Int))^^^ofInt 64 (u64.wrap ((ofInt 64 (gv 1)&&&ofInt 64 (gv 2)).toNat:Int))).toNat:Int))))&&&ofInt 64 4294967295).toNat:Int)),(gv 0),(gv 1),(gv 2),(u64.wrap ((ofInt 64 (u64.wrap ((gv 3)+(u64.wrap ((u64.wrap ((u64.wrap ((u64.wrap ((gv 7)+(u64.wrap ((ofInt 64 (u64.wrap ((ofInt 64 ty6^^^ofInt 64 ty7).toNat:Int))^^^ofInt 64 ty8).toNat:Int))))+(u64.wrap ((ofInt 64 (u64.wrap ((ofInt 64 (gv 4)&&&ofInt 64 (gv 5)).toNat:Int))^^^ofInt 64 (u64.wrap ((ofInt 64 (u64.wrap (4294967295-(gv 4)))&&&ofInt 64 (gv 6)).toNat:Int))).toNat:Int))))+(kk k)))+(g k)))))&&&ofInt 64 4294967295).toNat:Int)),(gv 4),(gv 5),(gv 6)].getD i 0)) ⟨by dsimp only;omega,by dsimp only;omega⟩ (by dsimp only;omega)) (hS:=⟨v0,v0,v0,v0,v0,(vS bd),zT⟩)
 refine cM hX (fun(p:Nat×(Nat->Int))=>[(3,.pr 16 0 []),(6,.pr 208 0 []),(12,.pr 528 0 []),(21,.i .i64 (p.1:Int))]) (fun(p:Nat×(Nat->Int))=>[(16,.ar 1 8 fun i=>.i .u64 (p.2 i)),(208,.ar 1 8 fun i=>.i .u64 0),(528,.ar 1 8 fun i=>.i .u64 (gv i))]) (fun(p:Nat×(Nat->Int))=>0<=p.1/\p.1<=8) (fun(p:Nat×(Nat->Int))=>8-p.1) [] 912 (0,h) ⟨by simp,by simp⟩ ?_
 rintro⟨k,gh⟩ hI R hR
 dsimp only at hI
 refine cB ((k:Int)<8) (fun h3=>?_) fun h3=>?_
 ·refine cC ((0:Int)<=(k:Int)/\(k:Int)<8) ?_
  refine cC ((0:Int)<=(k:Int)/\(k:Int)<8) ?_;refine cC ((0:Int)<=(k:Int)/\(k:Int)<8) ?_;exact cA hX (hR (k+1,(F7 gh k (u64.wrap ((ofInt 64 (u64.wrap ((gh k)+(gv k)))&&&ofInt 64 4294967295).toNat:Int)))) ⟨by dsimp only;omega,by dsimp only;omega⟩ (by dsimp only;omega)) (hS:=⟨v0,v0,v0,(vS bd),zT⟩) (hH:=⟨(vT (OK (e:=OL))),v0,v0,zT⟩)
 exact xW hX (.ar 1 8 fun i=>.i .u64 (gh i)) ⟨rfl,rfl,⟨_,rfl⟩⟩
theorem CD(b:By)(hb:b.length<=100000000):Sat Tryz.prog 180 [.bl 0 b] [] (fun out A0=>A0=[]/\(∃m,out=.bs 32 m/\m.length=32)):=by
 refine cF Tryz.func180 fun X0 w0 hX=>?_
 refine cK [] (Yr) ?_;rintro out A0 ⟨rfl,⟨kg0,rfl⟩⟩
 refine cC ((([]:By).length+b.length)*1<=140737488355328) ?_ bd;refine cC ((([]++b).length+[128].length)*1<=140737488355328) ?_ bd;refine cM hX (fun(u:By)=>[(0,.bl 0 b),(2,.pr 16 0 []),(3,.pr 144 0 []),(4,.bl 528 u)]) (fun(u:By)=>[(16,.bs 32 (replicate 32 0)),(144,.ar 1 64 fun i=>.i .u64 (kg0 i))]) (fun(u:By)=>u.length+(120-u.length % 64) % 64<=b.length+64) (fun(u:By)=>(120-u.length % 64) % 64) [528] 656 (([]++b)++[128]) bd ?_;rintro u hI R hR
 refine cB (((u.length:Int).tmod 64)≠56) (fun h1=>?_) fun h1=>?_
 ·have h1n:u.length % 64≠56:=fun h=>h1 (by show((u.length % 64:Nat):Int)=56;omega)
  refine cC ((u.length+[0].length)*1<=140737488355328) ?_ bd;exact cA hX (hR (u++[0]) bd bd)
 have h1n:u.length % 64=56:=by have h2:((u.length % 64:Nat):Int)=56:=Classical.not_not.1 h1;omega
 refine cM hX (fun(p:Nat×By)=>[(2,.pr 16 0 []),(3,.pr 144 0 []),(4,.bl 1296 p.2),(5,.i .u64 (u64.wrap ((u64.wrap (b.length:Int))*8))),(6,.i .i64 (p.1:Int))]) (fun(p:Nat×By)=>[(16,.bs 32 (replicate 32 0)),(144,.ar 1 64 fun i=>.i .u64 (kg0 i))]) (fun(p:Nat×By)=>p.1<=8/\p.2.length=u.length+p.1) (fun(p:Nat×By)=>8-p.1) [1296] 1297 (0,u) ⟨bd,bd⟩ ?_;rintro⟨j,q⟩ hJ R hR
 refine cB ((j:Int)<8) (fun h2=>?_) fun h2=>?_
 ·refine cC ((0:Int)<=(i64.wrap (56-(i64.wrap (8*(j:Int)))))) ?_ bw
  refine cC ((q.length+[UInt8.ofNat ((u8.wrap ((u64.wrap ((u64.wrap (b.length:Int))*8)).fdiv (2 ^ (min ((i64.wrap (56-(i64.wrap (8*(j:Int)))))).toNat 64))))).toNat].length)*1<=140737488355328) ?_ bw;exact cA hX (hR (j+1,(q++[UInt8.ofNat ((u8.wrap ((u64.wrap ((u64.wrap (b.length:Int))*8)).fdiv (2 ^ (min ((i64.wrap (56-(i64.wrap (8*(j:Int)))))).toNat 64))))).toNat])) ⟨by dsimp only;omega,bd⟩ (by dsimp only;omega)) (hS:=⟨v0,v0,v0,v0,(vS bd),zT⟩)
 refine MH (t:=273) (d:=43) .u64 [1779033703,3144134277,1013904242,2773480762,1359893119,2600822924,528734635,1541459225] ?_
 refine cM hX (fun(p:Nat×(Nat->Int))=>[(2,.pr 16 0 []),(3,.pr 144 0 []),(4,.bl 1296 q),(7,.pr 1489 0 []),(8,.i .i64 ((64*p.1:Nat):Int))]) (fun(p:Nat×(Nat->Int))=>[(16,.bs 32 (replicate 32 0)),(144,.ar 1 64 fun i=>.i .u64 (kg0 i)),(1489,.ar 1 8 fun i=>.i .u64 (p.2 i))]) (fun(p:Nat×(Nat->Int))=>64*p.1<=q.length) (fun(p:Nat×(Nat->Int))=>q.length-64*p.1) [1296] 1681 (0,fun i=>[1779033703,3144134277,1013904242,2773480762,1359893119,2600822924,528734635,1541459225].getD i 0) bd ?_;rintro⟨a,gh⟩ hK R hR
 refine cB (((64*a:Nat):Int)<(q.length:Int)) (fun h3=>?_) fun h3=>?_
 ·refine cM hX (fun(p:Nat×(Nat->Int))=>[(2,.pr 16 0 []),(3,.pr 144 0 []),(4,.bl 1296 q),(7,.pr 1489 0 []),(8,.i .i64 ((64*a:Nat):Int)),(9,.pr 1937 0 []),(10,.i .i64 (p.1:Int))]) (fun(p:Nat×(Nat->Int))=>[(16,.bs 32 (replicate 32 0)),(144,.ar 1 64 fun i=>.i .u64 (kg0 i)),(1489,.ar 1 8 fun i=>.i .u64 (gh i)),(1937,.ar 1 64 fun i=>.i .u64 (p.2 i))]) (fun(p:Nat×(Nat->Int))=>0<=p.1/\p.1<=64) (fun(p:Nat×(Nat->Int))=>64-p.1) [1296] 2065 (0,(fun _=>0)) ⟨by simp,by simp⟩ ?_
  rintro⟨k,gw⟩ hI R1 iN
  dsimp only at hI
  refine cB ((k:Int)<64) (fun h4=>?_) fun h4=>?_
  ·refine cC ((0:Int)<=(i64.wrap ((k:Int).tdiv 4))/\(i64.wrap ((k:Int).tdiv 4))<64) ?_ bw
   refine cC ((0:Int)<=(i64.wrap (((64*a:Nat):Int)+(k:Int)))/\(i64.wrap (((64*a:Nat):Int)+(k:Int)))<(q.length:Int)) ?_ bw;refine cC ((0:Int)<=(i64.wrap ((k:Int).tdiv 4))/\(i64.wrap ((k:Int).tdiv 4))<64) ?_ bw;exact cA hX (iN (k+1,(F7 gw (((i64.wrap ((k:Int).tdiv 4))).toNat) (u64.wrap ((u64.wrap ((gw (((i64.wrap ((k:Int).tdiv 4))).toNat))*256))+(u64.wrap ((q.getD (((i64.wrap (((64*a:Nat):Int)+(k:Int)))).toNat) 0).toNat:Int)))))) ⟨by dsimp only;omega,by dsimp only;omega⟩ (by dsimp only;omega)) (hS:=⟨v0,v0,v0,v0,v0,v0,(vS bd),zT⟩) (hH:=⟨v0,v0,v0,(vT (OK (e:=OL))),zT⟩)
  refine cK [] (Ys gh gw kg0) ?_
  rintro out A0 ⟨rfl,⟨bg1,rfl⟩⟩
  exact cA hX (hR (a+1,bg1) bd (by dsimp only;omega)) (hS:=⟨v0,v0,v0,v0,(Yq bd),zT⟩)
 refine cM hX (fun(p:Nat×By)=>[(2,.pr 16 0 []),(7,.pr 1489 0 []),(11,.pr 1937 0 []),(12,.i .i64 (p.1:Int))]) (fun(p:Nat×By)=>[(16,.bs 32 (replicate 32 0)),(1489,.ar 1 8 fun i=>.i .u64 (gh i)),(1937,.bs 32 p.2)]) (fun(p:Nat×By)=>p.1<=32/\p.2.length=32) (fun(p:Nat×By)=>32-p.1) [] 2065 (0,replicate 32 0) (by simp) ?_
 rintro⟨k,m⟩ hM R hR
 refine cB ((k:Int)<32) (fun h5=>?_) fun h5=>?_
 ·have hk4:(k:Int).tmod 4=((k % 4:Nat):Int):=rfl
  refine cC ((0:Int)<=(i64.wrap ((k:Int).tdiv 4))/\(i64.wrap ((k:Int).tdiv 4))<8) ?_ bw;refine cC ((0:Int)<=(i64.wrap (24-(i64.wrap (8*((k:Int).tmod 4)))))) ?_ bw;refine cC ((0:Int)<=(k:Int)/\(k:Int)<32) ?_;exact cA hX (hR (k+1,(m.set k (UInt8.ofNat ((u8.wrap ((gh (((i64.wrap ((k:Int).tdiv 4))).toNat)).fdiv (2 ^ (min ((i64.wrap (24-(i64.wrap (8*((k:Int).tmod 4)))))).toNat 64))))).toNat))) ⟨by dsimp only;omega,by dsimp only;rw[List.length_set];exact hM.2⟩ (by dsimp only;omega)) (hS:=⟨v0,v0,v0,(vS bd),zT⟩)
 exact xW hX (.bs 32 m) ⟨rfl,rfl,⟨_,rfl,hM.2⟩⟩
theorem Yt(k b:By)(hk:k.length<=1000)(hb:b.length<=50000000):Sat Tryz.prog 144 [.bl 0 k,.bl 0 b] [] (fun out A0=>A0=[]/\(∃m,out=.bs 32 m/\m.length=32)):=by
 refine cF Tryz.func144 fun X0 w0 hX=>?_
 refine cC ((([]:By).length+k.length)*1<=140737488355328) ?_ bd;refine cB (64<(([]++k).length:Int)) (fun h1=>?_) fun h1=>?_
 ·refine cK [] (CD ([]++k) bd) ?_
  rintro out A0 ⟨rfl,⟨wH,rfl,hsu0⟩⟩
  refine cM hX (fun(p:Nat×By×By)=>[(1,.bl 0 b),(4,.pr 16 0 []),(5,.bl 1 wH),(7,.bl 300 p.2.1),(8,.bl 301 p.2.2),(9,.i .i64 (p.1:Int))]) (fun(p:Nat×By×By)=>[(16,.bs 32 (replicate 32 0))]) (fun(p:Nat×By×By)=>p.1<=64/\p.2.1.length=p.1/\p.2.2.length=p.1) (fun(p:Nat×By×By)=>64-p.1) [300,301] 1104 (0,[],[]) (by simp) ?_;rintro⟨i,x,y⟩ hI R hR
  dsimp only at hI
  refine cB ((i:Int)<64) (fun h2=>?_) fun h2=>?_
  ·refine cB ((i:Int)<(wH.length:Int)) (fun h3=>?_) fun h3=>?_
   ·refine cC ((0:Int)<=(i:Int)/\(i:Int)<(wH.length:Int)) ?_
    refine cC ((x.length+[UInt8.ofNat ((u8.wrap ((ofInt 8 ((wH.getD i 0).toNat:Int)^^^ofInt 8 54).toNat:Int))).toNat].length)*1<=140737488355328) ?_ bw;refine cC ((y.length+[UInt8.ofNat ((u8.wrap ((ofInt 8 ((wH.getD i 0).toNat:Int)^^^ofInt 8 92).toNat:Int))).toNat].length)*1<=140737488355328) ?_ bw;exact cA hX (hR (i+1,(x++[UInt8.ofNat ((u8.wrap ((ofInt 8 ((wH.getD i 0).toNat:Int)^^^ofInt 8 54).toNat:Int))).toNat]),(y++[UInt8.ofNat ((u8.wrap ((ofInt 8 ((wH.getD i 0).toNat:Int)^^^ofInt 8 92).toNat:Int))).toNat])) ⟨by dsimp only;omega,bd,bd⟩ (by dsimp only;omega)) (hS:=⟨v0,v0,v0,v0,v0,(vS bd),zT⟩)
   refine cC ((x.length+[UInt8.ofNat ((u8.wrap ((ofInt 8 0^^^ofInt 8 54).toNat:Int))).toNat].length)*1<=140737488355328) ?_ bw
   refine cC ((y.length+[UInt8.ofNat ((u8.wrap ((ofInt 8 0^^^ofInt 8 92).toNat:Int))).toNat].length)*1<=140737488355328) ?_ bw;exact cA hX (hR (i+1,(x++[UInt8.ofNat ((u8.wrap ((ofInt 8 0^^^ofInt 8 54).toNat:Int))).toNat]),(y++[UInt8.ofNat ((u8.wrap ((ofInt 8 0^^^ofInt 8 92).toNat:Int))).toNat])) ⟨by dsimp only;omega,bd,bd⟩ (by dsimp only;omega)) (hS:=⟨v0,v0,v0,v0,v0,(vS bd),zT⟩)
  refine cC ((x.length+b.length)*1<=140737488355328) ?_
  refine cK [] (CD (x++b) bd) ?_;rintro out A0 ⟨rfl,⟨su1,rfl,hsu1⟩⟩
  refine cC ((y.length+su1.length)*1<=140737488355328) ?_;refine cK [] (CD (y++su1) bd) ?_;rintro out A0 ⟨rfl,⟨su2,rfl,hsu2⟩⟩
  exact xW hX (.bs 32 su2) ⟨rfl,rfl,⟨_,rfl,by assumption⟩⟩
 refine cM hX (fun(p:Nat×By×By)=>[(1,.bl 0 b),(4,.pr 16 0 []),(5,.bl 208 ([]++k)),(7,.bl 300 p.2.1),(8,.bl 301 p.2.2),(9,.i .i64 (p.1:Int))]) (fun(p:Nat×By×By)=>[(16,.bs 32 (replicate 32 0))]) (fun(p:Nat×By×By)=>p.1<=64/\p.2.1.length=p.1/\p.2.2.length=p.1) (fun(p:Nat×By×By)=>64-p.1) [208,300,301] 720 (0,[],[]) (by simp) ?_
 rintro⟨i,x,y⟩ hI R hR
 dsimp only at hI
 refine cB ((i:Int)<64) (fun h4=>?_) fun h4=>?_
 ·refine cB ((i:Int)<(([]++k).length:Int)) (fun h5=>?_) fun h5=>?_
  ·refine cC ((0:Int)<=(i:Int)/\(i:Int)<(([]++k).length:Int)) ?_ bd
   refine cC ((x.length+[UInt8.ofNat ((u8.wrap ((ofInt 8 ((([]++k).getD i 0).toNat:Int)^^^ofInt 8 54).toNat:Int))).toNat].length)*1<=140737488355328) ?_ bw;refine cC ((y.length+[UInt8.ofNat ((u8.wrap ((ofInt 8 ((([]++k).getD i 0).toNat:Int)^^^ofInt 8 92).toNat:Int))).toNat].length)*1<=140737488355328) ?_ bw;exact cA hX (hR (i+1,(x++[UInt8.ofNat ((u8.wrap ((ofInt 8 ((([]++k).getD i 0).toNat:Int)^^^ofInt 8 54).toNat:Int))).toNat]),(y++[UInt8.ofNat ((u8.wrap ((ofInt 8 ((([]++k).getD i 0).toNat:Int)^^^ofInt 8 92).toNat:Int))).toNat])) ⟨by dsimp only;omega,bd,bd⟩ (by dsimp only;omega)) (hS:=⟨v0,v0,v0,v0,v0,(vS bd),zT⟩)
  refine cC ((x.length+[UInt8.ofNat ((u8.wrap ((ofInt 8 0^^^ofInt 8 54).toNat:Int))).toNat].length)*1<=140737488355328) ?_ bw
  refine cC ((y.length+[UInt8.ofNat ((u8.wrap ((ofInt 8 0^^^ofInt 8 92).toNat:Int))).toNat].length)*1<=140737488355328) ?_ bw;exact cA hX (hR (i+1,(x++[UInt8.ofNat ((u8.wrap ((ofInt 8 0^^^ofInt 8 54).toNat:Int))).toNat]),(y++[UInt8.ofNat ((u8.wrap ((ofInt 8 0^^^ofInt 8 92).toNat:Int))).toNat])) ⟨by dsimp only;omega,bd,bd⟩ (by dsimp only;omega)) (hS:=⟨v0,v0,v0,v0,v0,(vS bd),zT⟩)
 refine cC ((x.length+b.length)*1<=140737488355328) ?_
 refine cK [] (CD (x++b) bd) ?_;rintro out A0 ⟨rfl,⟨su3,rfl,hsu3⟩⟩
 refine cC ((y.length+su3.length)*1<=140737488355328) ?_;refine cK [] (CD (y++su3) bd) ?_;rintro out A0 ⟨rfl,⟨su4,rfl,hsu4⟩⟩
 exact xW hX (.bs 32 su4) ⟨rfl,rfl,⟨_,rfl,by assumption⟩⟩
theorem IB(k l:By)(hk:k.length<=1000)(hl:l.length<=1000000):Sat Tryz.prog 92 [.bl 0 k,.sl 0 1 1 fun _=>.bl 0 l] [] (fun out A0=>A0=[]/\(∃m,out=.bs 32 m/\m.length=32)):=by
 refine cF Tryz.func92 fun X0 w0 hX=>?_
 refine cM hX (fun(p:Nat×By)=>[(0,.bl 0 k),(1,.sl 0 1 1 fun _=>.bl 0 l),(4,.pr 16 0 []),(5,.bl 24 p.2),(6,.i .i64 (p.1:Int))]) (fun(p:Nat×By)=>[(16,.bs 32 (replicate 32 0))]) (fun(p:Nat×By)=>p.1<=1/\p.2.length<=1000008*p.1) (fun(p:Nat×By)=>1-p.1) [24] 208 (0,[]) (by simp) ?_;rintro⟨i,x⟩ hI R hR
 dsimp only at hI
 refine cB ((i:Int)<1) (fun h1=>?_) fun h1=>?_
 ·refine cC ((0:Int)<=(i:Int)/\(i:Int)<1) ?_
  refine cC ((0:Int)<=(i:Int)/\(i:Int)<1) ?_;refine cK [] (yE (u64.wrap (l.length:Int))) ?_;rintro out A0 ⟨ei0,rfl,rfl,hei0⟩
  refine cC ((x.length+ei0.length)*1<=140737488355328) ?_;refine cC (((x++ei0).length+l.length)*1<=140737488355328) ?_ bd;exact cA hX (hR (i+1,((x++ei0)++l)) ⟨by dsimp only;omega,bd⟩ (by dsimp only;omega)) (hS:=⟨v0,v0,v0,v0,(vS bd),zT⟩)
 refine cK [] (Yt k x bd bd) ?_
 rintro out A0 ⟨rfl,⟨sr1,rfl,hsr1⟩⟩
 exact xW hX (.bs 32 sr1) ⟨rfl,rfl,⟨_,rfl,by assumption⟩⟩
theorem Yu(l:By)(hl:l.length<1000000):Sat Tryz.prog 47 [.s l] [] (fun out A0=>A0=[]/\(∃p,out=.b p/\(p=true->l.length<=16))):=by
 refine cF Tryz.func47 fun X0 w0 hX=>?_
 refine cB ((l.length:Int)<1) (fun h1=>?_) fun h1=>?_
 ·exact xW hX (.b false) ⟨rfl,rfl,⟨_,rfl,by first|(intro h;cases h;done)|(intro _;omega)⟩⟩
 refine cB (16<(l.length:Int)) (fun h2=>?_) fun h2=>?_
 ·exact xW hX (.b false) ⟨rfl,rfl,⟨_,rfl,by first|(intro h;cases h;done)|(intro _;omega)⟩⟩
 refine cC ((0:Int)<=0/\0<(l.length:Int)) ?_
 refine cB (((l.getD 0 0).toNat:Int)<97) (fun h3=>?_) fun h3=>?_
 ·exact xW hX (.b false) ⟨rfl,rfl,⟨_,rfl,by first|(intro h;cases h;done)|(intro _;omega)⟩⟩
 refine cC ((0:Int)<=0/\0<(l.length:Int)) ?_
 refine cB (122<((l.getD 0 0).toNat:Int)) (fun h4=>?_) fun h4=>?_
 ·exact xW hX (.b false) ⟨rfl,rfl,⟨_,rfl,by first|(intro h;cases h;done)|(intro _;omega)⟩⟩
 refine cM hX (fun(k:Nat)=>[(0,.s l),(3,.i .i64 (k:Int))]) (fun(k:Nat)=>[]) (fun(k:Nat)=>k<=l.length) (fun(k:Nat)=>l.length-k) [] 1296 0 (by simp) ?_
 rintro k hI R hR
 refine cB ((k:Int)<(l.length:Int)) (fun h5=>?_) fun h5=>?_
 ·refine cC ((0:Int)<=(k:Int)/\(k:Int)<(l.length:Int)) ?_
  refine cB (97<=((l.getD k 0).toNat:Int)) (fun h6=>?_) fun h6=>?_
  ·refine cB (((l.getD k 0).toNat:Int)<=122) (fun h7=>?_) fun h7=>?_
   ·exact cA hX (hR (k+1) zO zO) (hS:=⟨v0,(vS bd),zT⟩)
   refine cB (48<=((l.getD k 0).toNat:Int)) (fun h8=>?_) fun h8=>?_
   ·refine cB (((l.getD k 0).toNat:Int)<=57) (fun h9=>?_) fun h9=>?_
    ·exact cA hX (hR (k+1) zO zO) (hS:=⟨v0,(vS bd),zT⟩)
    refine cN (((l.getD k 0).toNat:Int)=45) (fun J7=>?_) fun J7=>?_
    ·exact xW hX (.b false) ⟨rfl,rfl,⟨_,rfl,by first|(intro h;cases h;done)|(intro _;omega)⟩⟩
    exact cA hX (hR (k+1) zO zO) (hS:=⟨v0,(vS bd),zT⟩)
   refine cN (((l.getD k 0).toNat:Int)=45) (fun P5=>?_) fun P5=>?_
   ·exact xW hX (.b false) ⟨rfl,rfl,⟨_,rfl,by first|(intro h;cases h;done)|(intro _;omega)⟩⟩
   exact cA hX (hR (k+1) zO zO) (hS:=⟨v0,(vS bd),zT⟩)
  refine cB (48<=((l.getD k 0).toNat:Int)) (fun h12=>?_) fun h12=>?_
  ·refine cB (((l.getD k 0).toNat:Int)<=57) (fun v8=>?_) fun v8=>?_
   ·exact cA hX (hR (k+1) zO zO) (hS:=⟨v0,(vS bd),zT⟩)
   refine cN (((l.getD k 0).toNat:Int)=45) (fun bW=>?_) fun bW=>?_
   ·exact xW hX (.b false) ⟨rfl,rfl,⟨_,rfl,by first|(intro h;cases h;done)|(intro _;omega)⟩⟩
   exact cA hX (hR (k+1) zO zO) (hS:=⟨v0,(vS bd),zT⟩)
  refine cN (((l.getD k 0).toNat:Int)=45) (fun aR=>?_) fun aR=>?_
  ·exact xW hX (.b false) ⟨rfl,rfl,⟨_,rfl,by first|(intro h;cases h;done)|(intro _;omega)⟩⟩
  exact cA hX (hR (k+1) zO zO) (hS:=⟨v0,(vS bd),zT⟩)
 exact xW hX (.b true) ⟨rfl,rfl,⟨_,rfl,by first|(intro h;cases h;done)|(intro _;omega)⟩⟩
theorem OM(t:Tok)(ht:t.tenant.length<1000000)(hc:t.cavs.length<1000000):Sat Tryz.prog 21 [G1 t] [] (fun out A0=>A0=[]/\(∃p,out=.b p/\(p=true->t.tenant.length<=16/\t.cavs.length<=8))):=by
 refine cF Tryz.func21 fun X0 w0 hX=>?_
 refine cN (t.tenant=[]) (fun h1=>?_) fun h1=>?_
 ·refine cK [] (Yu t.tenant bd) ?_
  rintro out A0 ⟨rfl,⟨pn0,rfl,l6⟩⟩
  refine cn (pn0) (fun h2=>?_) fun h2=>?_
  ·exact xW hX (.b false) ⟨rfl,rfl,⟨_,rfl,by first|(intro h;cases h;done)|exact fun _=>⟨l6 (jM h2),zO⟩|exact fun _=>⟨l6 h2,zO⟩|exact fun _=>⟨by rw[h1];simp,zO⟩⟩⟩
  refine cB (15<t.rights) (fun h3=>?_) fun h3=>?_
  ·exact xW hX (.b false) ⟨rfl,rfl,⟨_,rfl,by first|(intro h;cases h;done)|exact fun _=>⟨l6 (jM h2),zO⟩|exact fun _=>⟨l6 h2,zO⟩|exact fun _=>⟨by rw[h1];simp,zO⟩⟩⟩
  refine cB (8<(t.cavs.length:Int)) (fun h4=>?_) fun h4=>?_
  ·exact xW hX (.b false) ⟨rfl,rfl,⟨_,rfl,by first|(intro h;cases h;done)|exact fun _=>⟨l6 (jM h2),zO⟩|exact fun _=>⟨l6 h2,zO⟩|exact fun _=>⟨by rw[h1];simp,zO⟩⟩⟩
  refine cM hX (fun(k:Nat)=>[(1,.pr 16 0 []),(3,.i .i64 (k:Int))]) (fun(k:Nat)=>[(16,G1 t)]) (fun(k:Nat)=>k<=t.cavs.length) (fun(k:Nat)=>t.cavs.length-k) [] 1488 0 (by simp) ?_
  rintro k hI R hR
  refine cB ((k:Int)<(t.cavs.length:Int)) (fun h5=>?_) fun h5=>?_
  ·refine cC ((0:Int)<=(k:Int)/\(k:Int)<(t.cavs.length:Int)) ?_
   refine cB (15<(t.cavs.getD k default).r) (fun h6=>?_) fun h6=>?_
   ·exact xW hX (.b false) ⟨rfl,rfl,⟨_,rfl,by first|(intro h;cases h;done)|exact fun _=>⟨l6 (jM h2),zO⟩|exact fun _=>⟨l6 h2,zO⟩|exact fun _=>⟨by rw[h1];simp,zO⟩⟩⟩
   exact cA hX (hR (k+1) zO zO) (hS:=⟨v0,(vS bd),zT⟩)
  exact xW hX (.b true) ⟨rfl,rfl,⟨_,rfl,by first|(intro h;cases h;done)|exact fun _=>⟨l6 (jM h2),zO⟩|exact fun _=>⟨l6 h2,zO⟩|exact fun _=>⟨by rw[h1];simp,zO⟩⟩⟩
 refine cB (15<t.rights) (fun h7=>?_) fun h7=>?_
 ·exact xW hX (.b false) ⟨rfl,rfl,⟨_,rfl,by first|(intro h;cases h;done)|exact fun _=>⟨l6 (jM h2),zO⟩|exact fun _=>⟨l6 h2,zO⟩|exact fun _=>⟨by rw[h1];simp,zO⟩⟩⟩
 refine cB (8<(t.cavs.length:Int)) (fun h8=>?_) fun h8=>?_
 ·exact xW hX (.b false) ⟨rfl,rfl,⟨_,rfl,by first|(intro h;cases h;done)|exact fun _=>⟨l6 (jM h2),zO⟩|exact fun _=>⟨l6 h2,zO⟩|exact fun _=>⟨by rw[h1];simp,zO⟩⟩⟩
 refine cM hX (fun(k:Nat)=>[(1,.pr 16 0 []),(3,.i .i64 (k:Int))]) (fun(k:Nat)=>[(16,G1 t)]) (fun(k:Nat)=>k<=t.cavs.length) (fun(k:Nat)=>t.cavs.length-k) [] 1488 0 (by simp) ?_
 rintro k hI R hR
 refine cB ((k:Int)<(t.cavs.length:Int)) (fun h9=>?_) fun h9=>?_
 ·refine cC ((0:Int)<=(k:Int)/\(k:Int)<(t.cavs.length:Int)) ?_
  refine cB (15<(t.cavs.getD k default).r) (fun J7=>?_) fun J7=>?_
  ·exact xW hX (.b false) ⟨rfl,rfl,⟨_,rfl,by first|(intro h;cases h;done)|exact fun _=>⟨l6 (jM h2),zO⟩|exact fun _=>⟨l6 h2,zO⟩|exact fun _=>⟨by rw[h1];simp,zO⟩⟩⟩
  exact cA hX (hR (k+1) zO zO) (hS:=⟨v0,(vS bd),zT⟩)
 exact xW hX (.b true) ⟨rfl,rfl,⟨_,rfl,by first|(intro h;cases h;done)|exact fun _=>⟨l6 (jM h2),zO⟩|exact fun _=>⟨l6 h2,zO⟩|exact fun _=>⟨by rw[h1];simp,zO⟩⟩⟩
theorem IC(t:Tok)(ht:t.tenant.length<500000):Sat Tryz.prog 22 [G1 t] [] (fun out A0=>∃l,out=.bl 2 l/\A0=[2]/\l.length<=t.tenant.length+40):=by
 refine cF Tryz.func22 fun X0 w0 hX=>?_
 refine cK [] (yE t.serial) ?_;rintro out A0 ⟨ei0,rfl,rfl,hei0⟩
 refine cK [] (WK ei0 t.tenant bd bd) ?_;rintro out A0 ⟨tx1,te1,rfl,rfl,htx1,hte1⟩
 refine cC ((tx1.length+[UInt8.ofNat (t.rights).toNat].length)*1<=140737488355328) ?_ bd;refine cK [] (MR t.from) ?_;rintro out A0 ⟨rfl,⟨rV,rfl,jU⟩⟩
 refine cK [] (yE rV) ?_;rintro out A0 ⟨ei3,rfl,rfl,hei3⟩
 refine cC (((tx1++[UInt8.ofNat (t.rights).toNat]).length+ei3.length)*1<=140737488355328) ?_ bd;refine cK [] (MR t.until) ?_;rintro out A0 ⟨rfl,⟨rW,rfl,hz4⟩⟩
 refine cK [] (yE rW) ?_;rintro out A0 ⟨ei5,rfl,rfl,hei5⟩
 refine cC ((((tx1++[UInt8.ofNat (t.rights).toNat])++ei3).length+ei5.length)*1<=140737488355328) ?_ bd;exact xW hX (.bl 2 (((tx1++[UInt8.ofNat (t.rights).toNat])++ei3)++ei5)) ⟨rfl,_,rfl,rfl,bd⟩
theorem ON(r u:Int):Sat Tryz.prog 23 [A1 [.i .u8 r,.i .i64 u]] [] (fun out A0=>∃l,out=.bl 2 l/\A0=[2]/\l.length<=9):=by
 refine cF Tryz.func23 fun X0 w0 hX=>?_
 refine jA 2 4496 (fun(v:By)=>[(2,.bl 592 v)]) (fun(v:By)=>[]) (fun(v:By)=>v.length<=9) [592] (fun R hR i hi=>?_) ?_
 ·revert i hi;refine f2 ?_ ?_<;>repeat' (first|refine al 2 (f2 ?_ ?_)|(refine cK (e:=eE) [] (MR u) ?_;rintro out A0 ⟨rfl,⟨zz0,rfl,x7⟩⟩)|(refine cK (e:=eE) [] (yE zz0) ?_;rintro out A0 ⟨wJ,rfl,rfl,hei1⟩)|refine cC (e:=eE) (([UInt8.ofNat (r).toNat].length+wJ.length)*1<=140737488355328) ?_ bd|exact cA hX (hR ([UInt8.ofNat (r).toNat]++wJ) bd))
 rintro v hv
 exact xW hX (.bl 2 v) ⟨rfl,_,rfl,rfl,bd⟩
theorem Yv(key:By)(t:Tok)(hk:key.length=32)(ht:t.tenant.length<=90000)(hc:t.cavs.length<=1000):Sat Tryz.prog 142 [.bs 32 key,G1 t] [] (fun out A0=>A0=[]/\(∃m,out=.bs 32 m/\m.length=32)):=by
 refine cF Tryz.func142 fun X0 w0 hX=>?_
 refine mM fV true ?_;refine jA 2 4096 (fun(m:By)=>[(3,.pr 80 0 []),(4,.pr 144 0 []),(5,.pr 3000 0 []),(1000004,A2 [])]) (fun(m:By)=>[(80,G1 t),(144,.bs 32 (replicate 32 0)),(3000,.bs 32 m)]) (fun(m:By)=>m.length=32) [] (fun R hR i hi=>?_) ?_
 ·revert i hi;refine f2 ?_ ?_<;>repeat' (first|refine al 2 (f2 ?_ ?_)|(refine cK (e:=eE) [] (IC t bd) ?_;rintro out A0 ⟨aP,rfl,rfl,hh0⟩)|(refine L5 (e:=eE) ((IB ((key.drop 0).take 32) aP bd bd).full (ins':=[.bl 0 ((key.drop 0).take 32),.sl 1 1 1 fun _=>.bl 0 aP])) ?_;rintro out A0 ⟨rfl,⟨so1,rfl,hso1⟩⟩;refine⟨rfl,?_⟩)|exact cA hX (hR so1 (by assumption)))
 rintro m l4
 refine cM hX (fun(p:Nat×By)=>[(3,.pr 80 0 []),(4,.pr 144 0 []),(5,.pr 3000 0 []),(6,.i .i64 (p.1:Int)),(1000004,A2 [])]) (fun(p:Nat×By)=>[(80,G1 t),(144,.bs 32 (replicate 32 0)),(3000,.bs 32 p.2)]) (fun(p:Nat×By)=>p.1<=t.cavs.length/\p.2.length=32) (fun(p:Nat×By)=>t.cavs.length-p.1) [] 4160 (0,m) ⟨by simp,l4⟩ ?_;rintro⟨i,x⟩ hI R hR
 dsimp only at hI
 refine cB ((i:Int)<(t.cavs.length:Int)) (fun h1=>?_) fun h1=>?_
 ·refine cC ((0:Int)<=(i:Int)/\(i:Int)<(t.cavs.length:Int)) ?_
  refine cK [] (ON ((t.cavs.getD i default).r) ((t.cavs.getD i default).u)) ?_;rintro out A0 ⟨vl6,rfl,rfl,hv6⟩
  refine L5 ((IB ((x.drop 0).take 32) vl6 bd bd).full (ins':=[.bl 0 ((x.drop 0).take 32),.sl 1 1 1 fun _=>.bl 0 vl6])) ?_;rintro out A0 ⟨rfl,⟨so7,rfl,hso7⟩⟩
  refine⟨rfl,?_⟩
  exact cA hX (hR (i+1,so7) ⟨by dsimp only;omega,by assumption⟩ (by dsimp only;omega)) (hS:=⟨v0,v0,v0,(vS bd),v0,zT⟩)
 exact xW hX (.bs 32 x) ⟨rfl,rfl,⟨_,rfl,hI.2⟩⟩
theorem Yw(key:By)(t:Tok)(hk:key.length=32)(ht:t.tenant.length<=90000)(hc:t.cavs.length<=1000):Sat Tryz.prog 89 [.bs 32 key,G1 t] [] (fun out A0=>A0=[]/\(∃t2 e,out=A2 [G1 t2,.i .i64 e]/\t2.tenant.length<=t.tenant.length/\t2.cavs.length<=t.cavs.length/\t2.tag.length=32)):=by
 refine cF Tryz.func89 fun X0 w0 hX=>?_
 refine cK [] (OM t bd bd) ?_;rintro out A0 ⟨rfl,⟨Y9,rfl,kG⟩⟩
 refine cn (Y9) (fun h1=>?_) fun h1=>?_
 ·exact xW hX (A2 [G1 ⟨0,[],0,0,0,[],(replicate 32 0)⟩,.i .i64 1]) ⟨rfl,rfl,⟨_,_,rfl,by simp,by simp,by first|assumption|simp⟩⟩ (hv:=vT (u:=A2 [A1 [.i .u64 0,.s [],.i .u8 0,.i .i64 0,.i .i64 0,.sl 0 2 0 fun _=>.un,.bs 32 (replicate 32 0)],.i .i64 1]) (F3 ⟨C4 ⟨.rfl _,.rfl _,.rfl _,.rfl _,.rfl _,vN,.rfl _,zT⟩,.rfl _,zT⟩))
 refine cB (0<(t.cavs.length:Int)) (fun h2=>?_) fun h2=>?_
 ·exact xW hX (A2 [G1 ⟨0,[],0,0,0,[],(replicate 32 0)⟩,.i .i64 1]) ⟨rfl,rfl,⟨_,_,rfl,by simp,by simp,by first|assumption|simp⟩⟩ (hv:=vT (u:=A2 [A1 [.i .u64 0,.s [],.i .u8 0,.i .i64 0,.i .i64 0,.sl 0 2 0 fun _=>.un,.bs 32 (replicate 32 0)],.i .i64 1]) (F3 ⟨C4 ⟨.rfl _,.rfl _,.rfl _,.rfl _,.rfl _,vN,.rfl _,zT⟩,.rfl _,zT⟩))
 refine cK [] (Yv key t bd bd bd) ?_
 rintro out A0 ⟨rfl,⟨tg1,rfl,htg1⟩⟩
 exact xW hX (A2 [G1 ⟨t.serial,t.tenant,t.rights,t.from,t.until,t.cavs,tg1⟩,.i .i64 0]) ⟨rfl,rfl,⟨_,_,rfl,by simp,by simp,by first|assumption|simp⟩⟩ (hv:=vT (u:=A2 [A1 [.i .u64 t.serial,.s t.tenant,.i .u8 t.rights,.i .i64 t.from,.i .i64 t.until,B4 0 2 bD t.cavs,.bs 32 tg1],.i .i64 0]) (F3 ⟨C4 ⟨.rfl _,.rfl _,.rfl _,.rfl _,.rfl _,.rfl _,.rfl _,zT⟩,.rfl _,zT⟩))
theorem ID(t:Tok)(ht:t.tenant.length<=90000)(hc:t.cavs.length<=1000)(hg:t.tag.length=32):Sat Tryz.prog 13 [G1 t] [] (fun out A0=>∃l e,out=A2 [.bl 2 l,.i .i64 e]/\A0=[2]/\l.length<=200):=by
 refine cF Tryz.func13 fun X0 w0 hX=>?_
 refine cK [] (OM t bd bd) ?_;rintro out A0 ⟨rfl,⟨Y9,rfl,kG⟩⟩
 refine cn (Y9) (fun h1=>?_) fun h1=>?_
 ·have hq:=kG
  exact xW hX (A2 [.bl 2 [],.i .i64 1]) ⟨rfl,_,_,rfl,rfl,bd⟩
 have hq:=kG (by assumption)
 refine jA 3 4816 (fun(v:By)=>[(1,.pr 16 0 []),(4,.bl 976 v)]) (fun(v:By)=>[(16,G1 t)]) (fun(v:By)=>v.length<=60) [976] (fun R hR i hi=>?_) ?_
 ·match i,hi with
 |0,_=>
   refine L4 2 zK fun i hi=>?_
   revert i hi;refine f2 ?_ ?_<;>repeat' (first|refine al 2 (f2 ?_ ?_)|(refine cK (e:=eE) [] (IC t bd) ?_;rintro out A0 ⟨dI,rfl,rfl,hh1⟩)|refine cC (e:=eE) (([1].length+dI.length)*1<=140737488355328) ?_ bd|refine cC (e:=eE) ((([1]++dI).length+[UInt8.ofNat ((u8.wrap (t.cavs.length:Int))).toNat].length)*1<=140737488355328) ?_ bw|exact cA hX (hR (([1]++dI)++[UInt8.ofNat ((u8.wrap (t.cavs.length:Int))).toNat]) bd))
 |1,_=>
   refine cK [] (IC t bd) ?_;rintro out A0 ⟨hl3,rfl,rfl,hh3⟩
   refine L4 2 zK fun i hi=>?_
   revert i hi;refine f2 ?_ ?_<;>repeat' (first|refine al 2 (f2 ?_ ?_)|refine cC (e:=eE) (([1].length+hl3.length)*1<=140737488355328) ?_ bd|refine cC (e:=eE) ((([1]++hl3).length+[UInt8.ofNat ((u8.wrap (t.cavs.length:Int))).toNat].length)*1<=140737488355328) ?_ bw|exact cA hX (hR (([1]++hl3)++[UInt8.ofNat ((u8.wrap (t.cavs.length:Int))).toNat]) bd))
 |2,_=>
   refine L4 2 zK fun i hi=>?_
   revert i hi;refine f2 ?_ ?_<;>repeat' (first|(refine cK (e:=eE) [] (IC t bd) ?_;rintro out A0 ⟨hl4,rfl,rfl,hh4⟩)|refine cC (e:=eE) (([1].length+hl4.length)*1<=140737488355328) ?_ bd|refine cC (e:=eE) ((([1]++hl4).length+[UInt8.ofNat ((u8.wrap (t.cavs.length:Int))).toNat].length)*1<=140737488355328) ?_ bw|exact cA hX (hR (([1]++hl4)++[UInt8.ofNat ((u8.wrap (t.cavs.length:Int))).toNat]) bd))
 rintro v hv
 refine cM hX (fun(p:Nat×By)=>[(1,.pr 16 0 []),(4,.bl 976 p.2),(5,.i .i64 (p.1:Int))]) (fun(p:Nat×By)=>[(16,G1 t)]) (fun(p:Nat×By)=>p.1<=t.cavs.length/\p.2.length<=60+9*p.1) (fun(p:Nat×By)=>t.cavs.length-p.1) [976] 4880 (0,v) ⟨by simp,bd⟩ ?_;rintro⟨k,l⟩ hI R hR
 dsimp only at hI
 refine cB ((k:Int)<(t.cavs.length:Int)) (fun h2=>?_) fun h2=>?_
 ·refine cC ((0:Int)<=(k:Int)/\(k:Int)<(t.cavs.length:Int)) ?_
  refine cK [] (ON ((t.cavs.getD k default).r) ((t.cavs.getD k default).u)) ?_;rintro out A0 ⟨vl6,rfl,rfl,hv6⟩
  refine cC ((l.length+vl6.length)*1<=140737488355328) ?_;exact cA hX (hR (k+1,(l++vl6)) ⟨by dsimp only;omega,bd⟩ (by dsimp only;omega)) (hS:=⟨v0,v0,(vS bd),zT⟩)
 refine cC ((l.length+t.tag.length)*1<=140737488355328) ?_
 exact xW hX (A2 [.bl 2 (l++t.tag),.i .i64 0]) ⟨rfl,_,_,rfl,rfl,bd⟩
theorem IE(b:By)(a:Int)(hb:b.length<1000000)(ha:0<=a/\a<1000000):Sat Tryz.prog 90 [.bl 0 b,.i .i64 a] [] (fun out A0=>A0=[]/\(∃v,out=.i .u64 v)):=by
 refine cF Tryz.func90 fun X0 w0 hX=>?_
 refine cK [] (Qv b a 8 bd bd bd) ?_;rintro out A0 ⟨rfl,⟨rF,vZ,rfl,ha0,hA0,he0⟩⟩
 exact xW hX (.i .u64 rF) ⟨rfl,rfl,⟨_,rfl⟩⟩
theorem Yx [Inhabited α]{t z:Nat}{e:α->V}{u v:V}(l:List α)(x:α)(h:v=e x:=by rfl):VEq (.sl t z (0+l.length+1) fun i=>bif blt i (0+l.length) then bif blt i 0 then u else e (l.getD (i-0) default) else v) (B4 t z e (l++[x])):=by
 have hn:(l++[x]).length=0+l.length+1:=by simp
 unfold B4
 rw[hn]
 refine .sl _ _ _ _ _ fun i hi=>?_
 cases hb:blt i (0+l.length)
 ·have iL:i=l.length:=by have:¬ (blt i (0+l.length)=true):=(by rw[hb];simp);rw[A8]at this;omega
  subst iL
  simp[List.getD,h]
 have h2:i<0+l.length:=by rw[<-A8];exact hb
 simp[List.getD,N5 (show i<l.length by omega),show blt i 0=false from by cases i<;>rfl]
theorem OO(t:Tok)(r y:Int)(ht:t.tenant.length<=90000)(hc:t.cavs.length<=1000)(hg:t.tag.length=32):Sat Tryz.prog 37 [G1 t,A1 [.i .u8 r,.i .i64 y]] [] (fun out A0=>A0=[]/\(∃t2 e,out=A2 [G1 t2,.i .i64 e]/\t2.tenant.length<=t.tenant.length/\t2.cavs.length<=t.cavs.length+1/\t2.tag.length=32)):=by
 refine cF Tryz.func37 fun X0 w0 hX=>?_
 refine mM fV true ?_;refine cK [] (OM t bd bd) ?_;rintro out A0 ⟨rfl,⟨Y9,rfl,kG⟩⟩
 refine cn (Y9) (fun h1=>?_) fun h1=>?_
 ·exact xW hX (A2 [G1 ⟨0,[],0,0,0,[],(replicate 32 0)⟩,.i .i64 1]) ⟨rfl,rfl,⟨_,_,rfl,by simp,by simp,by first|assumption|simp⟩⟩ (hv:=vT (u:=A2 [A1 [.i .u64 0,.s [],.i .u8 0,.i .i64 0,.i .i64 0,.sl 0 2 0 fun _=>.un,.bs 32 (replicate 32 0)],.i .i64 1]) (F3 ⟨C4 ⟨.rfl _,.rfl _,.rfl _,.rfl _,.rfl _,vN,.rfl _,zT⟩,.rfl _,zT⟩))
 refine cB (15<r) (fun h2=>?_) fun h2=>?_
 ·exact xW hX (A2 [G1 ⟨0,[],0,0,0,[],(replicate 32 0)⟩,.i .i64 1]) ⟨rfl,rfl,⟨_,_,rfl,by simp,by simp,by first|assumption|simp⟩⟩ (hv:=vT (u:=A2 [A1 [.i .u64 0,.s [],.i .u8 0,.i .i64 0,.i .i64 0,.sl 0 2 0 fun _=>.un,.bs 32 (replicate 32 0)],.i .i64 1]) (F3 ⟨C4 ⟨.rfl _,.rfl _,.rfl _,.rfl _,.rfl _,vN,.rfl _,zT⟩,.rfl _,zT⟩))
 refine cB (8<=(t.cavs.length:Int)) (fun h3=>?_) fun h3=>?_
 ·exact xW hX (A2 [G1 ⟨0,[],0,0,0,[],(replicate 32 0)⟩,.i .i64 2]) ⟨rfl,rfl,⟨_,_,rfl,by simp,by simp,by first|assumption|simp⟩⟩ (hv:=vT (u:=A2 [A1 [.i .u64 0,.s [],.i .u8 0,.i .i64 0,.i .i64 0,.sl 0 2 0 fun _=>.un,.bs 32 (replicate 32 0)],.i .i64 2]) (F3 ⟨C4 ⟨.rfl _,.rfl _,.rfl _,.rfl _,.rfl _,vN,.rfl _,zT⟩,.rfl _,zT⟩))
 refine jA 2 5712 (fun(u:Unit)=>[(2,.pr 16 0 []),(3,.pr 80 0 []),(4,.pr 144 0 []),(1000004,A2 [])]) (fun(u:Unit)=>[(16,A1 [.i .u64 t.serial,.s t.tenant,.i .u8 t.rights,.i .i64 t.from,.i .i64 t.until,.sl 1424 2 ((0+t.cavs.length)+1) fun i=>bif blt i (0+t.cavs.length) then bif blt i 0 then .un else bD (t.cavs.getD (i-0) default) else A1 [.i .u8 r,.i .i64 y],.bs 32 t.tag]),(80,A1 [.i .u8 r,.i .i64 y]),(144,A1 [.i .u64 0,.s [],.i .u8 0,.i .i64 0,.i .i64 0,.sl 1 2 0 fun _=>.un,.bs 32 (replicate 32 0)])]) (fun(u:Unit)=>True) [1424] (fun R hR i hi=>?_) ?_
 ·revert i hi;refine f2 ?_ ?_<;>repeat' (first|refine al 2 (f2 ?_ ?_)|refine cC (e:=eE) ((0+t.cavs.length)*16<=140737488355328) ?_|refine cC (e:=eE) (((0+t.cavs.length)+1)*16<=140737488355328) ?_|exact cA hX (hR () zT))
 rintro u hJ
 refine cK [] (ON r y) ?_;rintro out A0 ⟨vl1,rfl,rfl,hv1⟩
 refine L5 ((IB ((t.tag.drop 0).take 32) vl1 bd bd).full (ins':=[.bl 0 ((t.tag.drop 0).take 32),.sl 1 1 1 fun _=>.bl 0 vl1])) ?_;rintro out A0 ⟨rfl,⟨so2,rfl,hso2⟩⟩
 refine⟨rfl,?_⟩
 exact xW hX (A2 [G1 ⟨t.serial,t.tenant,t.rights,t.from,t.until,(t.cavs++[⟨r,y⟩]),so2⟩,.i .i64 0]) ⟨rfl,rfl,⟨_,_,rfl,by simp,by simp,by first|assumption|simp⟩⟩ (hv:=vT (u:=A2 [A1 [.i .u64 t.serial,.s t.tenant,.i .u8 t.rights,.i .i64 t.from,.i .i64 t.until,.sl 0 2 ((0+t.cavs.length)+1) fun i=>bif blt i (0+t.cavs.length) then bif blt i 0 then .un else bD (t.cavs.getD (i-0) default) else A1 [.i .u8 r,.i .i64 y],.bs 32 so2],.i .i64 0]) (F3 ⟨C4 ⟨.rfl _,.rfl _,.rfl _,.rfl _,.rfl _,(Yx _ _),.rfl _,zT⟩,.rfl _,zT⟩))
theorem Yy(b:By)(hb:b.length<=100000):Sat Tryz.prog 35 [.bl 0 b] [] (fun out A0=>A0=[]/\(∃t e,out=A2 [G1 t,.i .i64 e]/\t.tenant.length<=16/\t.cavs.length<=8/\t.tag.length=32)):=by
 refine cF Tryz.func35 fun X0 w0 hX=>?_
 refine cB ((b.length:Int)<60) (fun h1=>?_) fun h1=>?_
 ·exact xW hX (A2 [G1 ⟨0,[],0,0,0,[],(replicate 32 0)⟩,.i .i64 4]) ⟨rfl,rfl,⟨_,_,rfl,by first|(simp;done)|exact J5.2.2.2,by first|(simp;done)|(dsimp only;omega),by first|(simp;done)|(simp;omega)⟩⟩ (hv:=vT (u:=A2 [A1 [.i .u64 0,.s [],.i .u8 0,.i .i64 0,.i .i64 0,.sl 0 2 0 fun _=>.un,.bs 32 (replicate 32 0)],.i .i64 4]) (F3 ⟨C4 ⟨.rfl _,.rfl _,.rfl _,.rfl _,.rfl _,vN,.rfl _,zT⟩,.rfl _,zT⟩))
 have hu:(b.getD 9 0).toNat<256:=UInt8.toNat_lt _
 refine cK [] (IE b 1 bd bd) ?_;rintro out A0 ⟨rfl,⟨wK,rfl⟩⟩
 refine cC ((0:Int)<=9/\9<(b.length:Int)) ?_ bd;refine cB (16<(i64.wrap ((b.getD 9 0).toNat:Int))) (fun h2=>?_) fun h2=>?_
 ·exact xW hX (A2 [G1 ⟨0,[],0,0,0,[],(replicate 32 0)⟩,.i .i64 4]) ⟨rfl,rfl,⟨_,_,rfl,by first|(simp;done)|exact J5.2.2.2,by first|(simp;done)|(dsimp only;omega),by first|(simp;done)|(simp;omega)⟩⟩ (hv:=vT (u:=A2 [A1 [.i .u64 0,.s [],.i .u8 0,.i .i64 0,.i .i64 0,.sl 0 2 0 fun _=>.un,.bs 32 (replicate 32 0)],.i .i64 4]) (F3 ⟨C4 ⟨.rfl _,.rfl _,.rfl _,.rfl _,.rfl _,vN,.rfl _,zT⟩,.rfl _,zT⟩))
 refine cB ((b.length:Int)<(i64.wrap (60+(i64.wrap ((b.getD 9 0).toNat:Int))))) (fun h3=>?_) fun h3=>?_
 ·exact xW hX (A2 [G1 ⟨0,[],0,0,0,[],(replicate 32 0)⟩,.i .i64 4]) ⟨rfl,rfl,⟨_,_,rfl,by first|(simp;done)|exact J5.2.2.2,by first|(simp;done)|(dsimp only;omega),by first|(simp;done)|(simp;omega)⟩⟩ (hv:=vT (u:=A2 [A1 [.i .u64 0,.s [],.i .u8 0,.i .i64 0,.i .i64 0,.sl 0 2 0 fun _=>.un,.bs 32 (replicate 32 0)],.i .i64 4]) (F3 ⟨C4 ⟨.rfl _,.rfl _,.rfl _,.rfl _,.rfl _,vN,.rfl _,zT⟩,.rfl _,zT⟩))
 refine cC ((0:Int)<=10/\(10:Int)<=(i64.wrap (10+(i64.wrap ((b.getD 9 0).toNat:Int))))/\(i64.wrap (10+(i64.wrap ((b.getD 9 0).toNat:Int))))<=(b.length:Int)) ?_ bw
 refine jA 2 6288 (fun(p:Int×By×Int)=>[(0,.bl 0 b),(2,.pr 16 0 []),(4,.pr 528 0 []),(6,.i .i64 p.1)]) (fun(p:Int×By×Int)=>[(16,A1 [.i .u64 0,.s [],.i .u8 0,.i .i64 0,.i .i64 0,.sl 1 2 0 fun _=>.un,.bs 32 (replicate 32 0)]),(528,A1 [.i .u64 wK,.s p.2.1,.i .u8 p.2.2,.i .i64 0,.i .i64 0,.sl 1 2 0 fun _=>.un,.bs 32 (replicate 32 0)])]) (fun(p:Int×By×Int)=>10<=p.1/\p.1<=26/\p.1+50<=b.length/\p.2.1.length<=16) [] (fun R hR i hi=>?_) ?_
 ·revert i hi;refine f2 ?_ ?_<;>repeat' (first|refine cC (e:=eE) ((0:Int)<=(i64.wrap (10+(i64.wrap ((b.getD 9 0).toNat:Int))))/\(i64.wrap (10+(i64.wrap ((b.getD 9 0).toNat:Int))))<(b.length:Int)) ?_ bw|exact cA hX (hR ((i64.wrap (10+(i64.wrap ((b.getD 9 0).toNat:Int)))),((b.drop 10).take (((i64.wrap (10+(i64.wrap ((b.getD 9 0).toNat:Int))))).toNat-10)),((b.getD (((i64.wrap (10+(i64.wrap ((b.getD 9 0).toNat:Int))))).toNat) 0).toNat:Int)) ⟨bw,bw,bw,by dsimp only;rw[F6];exact L6 (Nat.min_le_left _ _) bw⟩))
 rintro⟨a,ts,r⟩ J5
 dsimp only at J5
 refine cK [] (IE b (i64.wrap (a+1)) bd bw) ?_;rintro out A0 ⟨rfl,⟨nv1,rfl⟩⟩
 refine cK [] (MU nv1) ?_;rintro out A0 ⟨rfl,⟨rV,rfl,jU⟩⟩
 refine cK [] (IE b (i64.wrap (a+9)) bd bw) ?_;rintro out A0 ⟨rfl,⟨nv3,rfl⟩⟩
 refine cK [] (MU nv3) ?_;rintro out A0 ⟨rfl,⟨rW,rfl,hz4⟩⟩
 refine cC ((0:Int)<=(i64.wrap (a+17))/\(i64.wrap (a+17))<(b.length:Int)) ?_ bw;refine cB (8<(i64.wrap ((b.getD (((i64.wrap (a+17))).toNat) 0).toNat:Int))) (fun h4=>?_) fun h4=>?_
 ·exact xW hX (A2 [G1 ⟨0,[],0,0,0,[],(replicate 32 0)⟩,.i .i64 4]) ⟨rfl,rfl,⟨_,_,rfl,by first|(simp;done)|exact J5.2.2.2,by first|(simp;done)|(dsimp only;omega),by first|(simp;done)|(simp;omega)⟩⟩ (hv:=vT (u:=A2 [A1 [.i .u64 0,.s [],.i .u8 0,.i .i64 0,.i .i64 0,.sl 0 2 0 fun _=>.un,.bs 32 (replicate 32 0)],.i .i64 4]) (F3 ⟨C4 ⟨.rfl _,.rfl _,.rfl _,.rfl _,.rfl _,vN,.rfl _,zT⟩,.rfl _,zT⟩))
 have hu2:(b.getD (i64.wrap (a+17)).toNat 0).toNat<256:=UInt8.toNat_lt _
 refine cB ((b.length:Int)≠(i64.wrap ((i64.wrap ((i64.wrap (a+18))+(i64.wrap (9*(i64.wrap ((b.getD (((i64.wrap (a+17))).toNat) 0).toNat:Int))))))+32))) (fun h5=>?_) fun h5=>?_
 ·exact xW hX (A2 [G1 ⟨0,[],0,0,0,[],(replicate 32 0)⟩,.i .i64 4]) ⟨rfl,rfl,⟨_,_,rfl,by first|(simp;done)|exact J5.2.2.2,by first|(simp;done)|(dsimp only;omega),by first|(simp;done)|(simp;omega)⟩⟩ (hv:=vT (u:=A2 [A1 [.i .u64 0,.s [],.i .u8 0,.i .i64 0,.i .i64 0,.sl 0 2 0 fun _=>.un,.bs 32 (replicate 32 0)],.i .i64 4]) (F3 ⟨C4 ⟨.rfl _,.rfl _,.rfl _,.rfl _,.rfl _,vN,.rfl _,zT⟩,.rfl _,zT⟩))
 refine cM hX (fun(p:Nat×Int×Int×(List Cav))=>[(0,.bl 0 b),(2,.pr 16 0 []),(4,.pr 528 0 []),(6,.i .i64 p.2.1),(7,.i .i64 p.2.2.1),(8,.i .i64 (p.1:Int))]) (fun(p:Nat×Int×Int×(List Cav))=>[(16,A1 [.i .u64 0,.s [],.i .u8 0,.i .i64 0,.i .i64 0,.sl 1 2 0 fun _=>.un,.bs 32 (replicate 32 0)]),(528,A1 [.i .u64 wK,.s ts,.i .u8 r,.i .i64 rV,.i .i64 rW,B4 2 2 bD p.2.2.2,.bs 32 (replicate 32 0)])]) (fun(p:Nat×Int×Int×(List Cav))=>(p.1:Int)<=p.2.2.1/\p.2.2.1<=8/\0<=p.2.1/\p.2.1+9*(p.2.2.1-p.1)+32=b.length/\p.2.2.2.length=p.1) (fun(p:Nat×Int×Int×(List Cav))=>8-p.1) [2] 8656 (0,(i64.wrap (a+18)),(i64.wrap ((b.getD (((i64.wrap (a+17))).toNat) 0).toNat:Int)),[]) ⟨bw,bw,bw,bw,rfl⟩ ?_ (hH:=⟨v0,(vT (u:=A1 [.i .u64 wK,.s ts,.i .u8 r,.i .i64 rV,.i .i64 rW,.sl 2 2 0 fun _=>.un,.bs 32 (replicate 32 0)]) (C4 ⟨.rfl _,.rfl _,.rfl _,.rfl _,.rfl _,vN,.rfl _,zT⟩)),zT⟩)
 rintro⟨i,ap,kk,l⟩ U6 R hR
 dsimp only at U6
 refine cB ((i:Int)<kk) (fun h6=>?_) fun h6=>?_
 ·refine cC ((0:Int)<=ap/\ap<(b.length:Int)) ?_ bd
  refine cK [] (IE b (i64.wrap (ap+1)) bd bw) ?_;rintro out A0 ⟨rfl,⟨nv5,rfl⟩⟩
  refine cK [] (MU nv5) ?_;rintro out A0 ⟨rfl,⟨zz6,rfl,hz6⟩⟩
  refine cC ((l.length+1)*16<=140737488355328) ?_ bd;exact cA hX (hR (i+1,(i64.wrap (ap+9)),kk,l++[⟨((b.getD ((ap).toNat) 0).toNat:Int),zz6⟩]) ⟨bw,bw,bw,bw,by simp;omega⟩ (by dsimp only;omega)) (hS:=⟨v0,v0,v0,v0,v0,vS,zT⟩) (hH:=⟨v0,(vT (u:=A1 [.i .u64 wK,.s ts,.i .u8 r,.i .i64 rV,.i .i64 rW,.sl 2 2 (l.length+1) fun i=>bif blt i l.length then bD (l.getD i default) else A1 [.i .u8 ((b.getD ((ap).toNat) 0).toNat:Int),.i .i64 zz6],.bs 32 (replicate 32 0)]) (C4 ⟨.rfl _,.rfl _,.rfl _,.rfl _,.rfl _,pQ l ⟨_,_⟩,.rfl _,zT⟩)),zT⟩)
 have hw:i64.wrap (ap+32)=ap+32:=bw
 refine cC ((0:Int)<=ap/\ap<=(i64.wrap (ap+32))/\(i64.wrap (ap+32))<=(b.length:Int)) ?_ bw;refine cC (32<=((b.drop ((ap).toNat)).take (((i64.wrap (ap+32))).toNat-(ap).toNat)).length) ?_ bw;refine cK [] (ID ⟨wK,ts,r,rV,rW,l,(((b.drop ((ap).toNat)).take (((i64.wrap (ap+32))).toNat-(ap).toNat)).take 32)⟩ bd bd bd) ?_;rintro out A0 ⟨tb7,tf7,rfl,rfl,htb7⟩
 refine cB (tf7≠0) (fun h7=>?_) fun h7=>?_
 ·exact xW hX (A2 [G1 ⟨0,[],0,0,0,[],(replicate 32 0)⟩,.i .i64 4]) ⟨rfl,rfl,⟨_,_,rfl,by first|(simp;done)|exact J5.2.2.2,by first|(simp;done)|(dsimp only;omega),by first|(simp;done)|(simp;omega)⟩⟩ (hv:=vT (u:=A2 [A1 [.i .u64 0,.s [],.i .u8 0,.i .i64 0,.i .i64 0,.sl 0 2 0 fun _=>.un,.bs 32 (replicate 32 0)],.i .i64 4]) (F3 ⟨C4 ⟨.rfl _,.rfl _,.rfl _,.rfl _,.rfl _,vN,.rfl _,zT⟩,.rfl _,zT⟩))
 refine cN (tb7=b) (fun h8=>?_) fun h8=>?_
 ·exact xW hX (A2 [G1 ⟨0,[],0,0,0,[],(replicate 32 0)⟩,.i .i64 4]) ⟨rfl,rfl,⟨_,_,rfl,by first|(simp;done)|exact J5.2.2.2,by first|(simp;done)|(dsimp only;omega),by first|(simp;done)|(simp;omega)⟩⟩ (hv:=vT (u:=A2 [A1 [.i .u64 0,.s [],.i .u8 0,.i .i64 0,.i .i64 0,.sl 0 2 0 fun _=>.un,.bs 32 (replicate 32 0)],.i .i64 4]) (F3 ⟨C4 ⟨.rfl _,.rfl _,.rfl _,.rfl _,.rfl _,vN,.rfl _,zT⟩,.rfl _,zT⟩))
 exact xW hX (A2 [G1 ⟨wK,ts,r,rV,rW,l,(((b.drop ((ap).toNat)).take (((i64.wrap (ap+32))).toNat-(ap).toNat)).take 32)⟩,.i .i64 0]) ⟨rfl,rfl,⟨_,_,rfl,by first|(simp;done)|exact J5.2.2.2,by first|(simp;done)|(dsimp only;omega),by first|(simp;done)|(simp;omega)⟩⟩ (hv:=vT (u:=A2 [A1 [.i .u64 wK,.s ts,.i .u8 r,.i .i64 rV,.i .i64 rW,B4 0 2 bD l,.bs 32 (((b.drop ((ap).toNat)).take (((i64.wrap (ap+32))).toNat-(ap).toNat)).take 32)],.i .i64 0]) (F3 ⟨C4 ⟨.rfl _,.rfl _,.rfl _,.rfl _,.rfl _,.rfl _,.rfl _,zT⟩,.rfl _,zT⟩))
theorem Yz(l:By)(hl:l.length<=1000000):Sat Tryz.prog 181 [.s l] [] (fun out A0=>A0=[]/\(∃p,out=.b p/\(p=true->l.length<=64))):=by
 refine cF Tryz.func181 fun X0 w0 hX=>?_
 refine cM hX (fun(k:Nat)=>[(0,.s l),(3,.i .i64 (k:Int))]) (fun(k:Nat)=>[]) (fun(k:Nat)=>k<=l.length) (fun(k:Nat)=>l.length-k) [] 144 0 (by simp) ?_;rintro k hI R hR
 refine cB ((k:Int)<(l.length:Int)) (fun h1=>?_) fun h1=>?_
 ·refine cC ((0:Int)<=(k:Int)/\(k:Int)<(l.length:Int)) ?_
  refine cB (((l.getD k 0).toNat:Int)=47) (fun h2=>?_) fun h2=>?_
  ·exact xW hX (.b false) ⟨rfl,rfl,⟨_,rfl,by first|(intro h;cases h;done)|(intro _;omega)|(simp;omega)⟩⟩
  refine cC ((0:Int)<=(k:Int)/\(k:Int)<(l.length:Int)) ?_
  refine cB (((l.getD k 0).toNat:Int)=0) (fun h3=>?_) fun h3=>?_
  ·exact xW hX (.b false) ⟨rfl,rfl,⟨_,rfl,by first|(intro h;cases h;done)|(intro _;omega)|(simp;omega)⟩⟩
  exact cA hX (hR (k+1) zO zO) (hS:=⟨v0,(vS bd),zT⟩)
 refine cB (1<=(l.length:Int)) (fun h4=>?_) fun h4=>?_
 ·refine cB ((l.length:Int)<=64) (fun h5=>?_) fun h5=>?_
  ·refine cN (l=[46]) (fun h6=>?_) fun h6=>?_
   ·exact xW hX (.b (!(decide (l=[46,46])))) ⟨rfl,rfl,⟨_,rfl,by first|(intro h;cases h;done)|(intro _;omega)|(simp;omega)⟩⟩
   exact xW hX (.b false) ⟨rfl,rfl,⟨_,rfl,by first|(intro h;cases h;done)|(intro _;omega)|(simp;omega)⟩⟩
  exact xW hX (.b false) ⟨rfl,rfl,⟨_,rfl,by first|(intro h;cases h;done)|(intro _;omega)|(simp;omega)⟩⟩
 exact xW hX (.b false) ⟨rfl,rfl,⟨_,rfl,by first|(intro h;cases h;done)|(intro _;omega)|(simp;omega)⟩⟩
theorem Za(n:Nat)(g:Nat->Itm)(hn:n<=100000)(hg:∀i,i<n->(g i).name.length<=1000000):Sat Tryz.prog 147 [.sl 0 35 n fun i=>I3 (g i)] [] (fun out A0=>A0=[]/\(∃p,out=.b p/\(p=true->n<=64/\∀i,i<n->(g i).name.length<=64))):=by
 refine cF Tryz.func147 fun X0 w0 hX=>?_
 refine cB (64<(n:Int)) (fun h1=>?_) fun h1=>?_
 ·exact xW hX (.b false) ⟨rfl,rfl,⟨_,rfl,by first|(intro h;cases h;done)|exact fun _=>⟨zO,fun i hi=>hI.2 i zO⟩⟩⟩
 refine cM hX (fun(k:Nat)=>[(0,.sl 0 35 n fun i=>I3 (g i)),(3,.i .i64 (k:Int))]) (fun(k:Nat)=>[]) (fun(k:Nat)=>k<=n/\∀j,j<k->(g j).name.length<=64) (fun(k:Nat)=>n-k) [] 336 0 ⟨L8 _,fun j hj=>absurd hj (U2 j)⟩ ?_
 rintro k hI R hR
 refine cB ((k:Int)<(n:Int)) (fun h2=>?_) fun h2=>?_
 ·refine cC ((0:Int)<=(k:Int)/\(k:Int)<(n:Int)) ?_
  refine cK [] (Yz ((g k).name) (hg _ zO)) ?_;rintro out A0 ⟨rfl,⟨Y9,rfl,kG⟩⟩
  refine cn (Y9) (fun h3=>?_) fun h3=>?_
  ·exact xW hX (.b false) ⟨rfl,rfl,⟨_,rfl,by first|(intro h;cases h;done)|exact fun _=>⟨zO,fun i hi=>hI.2 i zO⟩⟩⟩
  refine cB ((g k).kind<1) (fun h4=>?_) fun h4=>?_
  ·exact xW hX (.b false) ⟨rfl,rfl,⟨_,rfl,by first|(intro h;cases h;done)|exact fun _=>⟨zO,fun i hi=>hI.2 i zO⟩⟩⟩
  refine cB (2<(g k).kind) (fun h5=>?_) fun h5=>?_
  ·exact xW hX (.b false) ⟨rfl,rfl,⟨_,rfl,by first|(intro h;cases h;done)|exact fun _=>⟨zO,fun i hi=>hI.2 i zO⟩⟩⟩
  refine cB ((g k).size<0) (fun h6=>?_) fun h6=>?_
  ·exact xW hX (.b false) ⟨rfl,rfl,⟨_,rfl,by first|(intro h;cases h;done)|exact fun _=>⟨zO,fun i hi=>hI.2 i zO⟩⟩⟩
  refine cB ((g k).kind=2) (fun h7=>?_) fun h7=>?_
  ·refine cB ((g k).size≠0) (fun h8=>?_) fun h8=>?_
   ·exact xW hX (.b false) ⟨rfl,rfl,⟨_,rfl,by first|(intro h;cases h;done)|exact fun _=>⟨zO,fun i hi=>hI.2 i zO⟩⟩⟩
   refine cB (0<(k:Int)) (fun h9=>?_) fun h9=>?_
   ·refine cC ((0:Int)<=(i64.wrap ((k:Int)-1))/\(i64.wrap ((k:Int)-1))<(n:Int)) ?_ bw
    refine cn ((Op.bytesLess ((g (((i64.wrap ((k:Int)-1))).toNat)).name) ((g k).name))) (fun J7=>?_) fun J7=>?_
    ·exact xW hX (.b false) ⟨rfl,rfl,⟨_,rfl,by first|(intro h;cases h;done)|exact fun _=>⟨zO,fun i hi=>hI.2 i zO⟩⟩⟩
    exact cA hX (hR (k+1) ⟨zO,fun j hj=>by rcases nH.1 hj with h|rfl;exact hI.2 j h;exact kG (by assumption)⟩ zO) (hS:=⟨v0,(vS bd),zT⟩)
   exact cA hX (hR (k+1) ⟨zO,fun j hj=>by rcases nH.1 hj with h|rfl;exact hI.2 j h;exact kG (by assumption)⟩ zO) (hS:=⟨v0,(vS bd),zT⟩)
  refine cB (0<(k:Int)) (fun P5=>?_) fun P5=>?_
  ·refine cC ((0:Int)<=(i64.wrap ((k:Int)-1))/\(i64.wrap ((k:Int)-1))<(n:Int)) ?_ bw
   refine cn ((Op.bytesLess ((g (((i64.wrap ((k:Int)-1))).toNat)).name) ((g k).name))) (fun h12=>?_) fun h12=>?_
   ·exact xW hX (.b false) ⟨rfl,rfl,⟨_,rfl,by first|(intro h;cases h;done)|exact fun _=>⟨zO,fun i hi=>hI.2 i zO⟩⟩⟩
   exact cA hX (hR (k+1) ⟨zO,fun j hj=>by rcases nH.1 hj with h|rfl;exact hI.2 j h;exact kG (by assumption)⟩ zO) (hS:=⟨v0,(vS bd),zT⟩)
  exact cA hX (hR (k+1) ⟨zO,fun j hj=>by rcases nH.1 hj with h|rfl;exact hI.2 j h;exact kG (by assumption)⟩ zO) (hS:=⟨v0,(vS bd),zT⟩)
 exact xW hX (.b true) ⟨rfl,rfl,⟨_,rfl,by first|(intro h;cases h;done)|exact fun _=>⟨zO,fun i hi=>hI.2 i zO⟩⟩⟩
theorem Aw(n:Nat)(g:Nat->Itm)(hn:n<=100000)(hg:∀i,i<n->(g i).name.length<=1000000):Sat Tryz.prog 95 [.sl 0 35 n fun i=>I3 (g i)] [] (fun out A0=>∃l e,out=A2 [.bl 2 l,.i .i64 e]/\A0=[2]/\l.length<=4000):=by
 refine cF Tryz.func95 fun X0 w0 hX=>?_
 refine rS 0 fun hv=>?_
 have hof:∀i,i<n->(g i).of.length=32:=fun i hi=>hv i hi 2 (show 2<4 by decide)
 refine cK [] (Za n (fun i=>(g i)) bd hg) ?_;rintro out A0 ⟨rfl,⟨Y9,rfl,kG⟩⟩
 refine cn (Y9) (fun h1=>?_) fun h1=>?_
 ·exact xW hX (A2 [.bl 2 [],.i .i64 1]) ⟨rfl,_,_,rfl,rfl,bd⟩
 have hq:=kG (by assumption)
 refine cK [] ((MW [68,49] (u64.wrap (n:Int)) bd).full (ins':=[.bl 1 [68,49],.i .u64 (u64.wrap (n:Int))])) ?_;rintro out A0 ⟨rc1,rfl,rfl,hrc1⟩
 refine cM hX (fun(p:Nat×By)=>[(0,.sl 0 35 n fun i=>I3 (g i)),(4,.bl 658 p.2),(5,.i .i64 (p.1:Int))]) (fun(p:Nat×By)=>[]) (fun(p:Nat×By)=>p.1<=n/\p.2.length<=13+120*p.1) (fun(p:Nat×By)=>n-p.1) [658] 848 (0,rc1) ⟨by simp,bd⟩ ?_;rintro⟨k,l⟩ hI R hR
 dsimp only at hI
 refine cB ((k:Int)<(n:Int)) (fun h2=>?_) fun h2=>?_
 ·have hgk:=hq.2 k zO
  have M3:=hof k zO
  refine cC ((0:Int)<=(k:Int)/\(k:Int)<(n:Int)) ?_;refine jA 2 5968 (fun(v:By)=>[(0,.sl 0 35 n fun i=>I3 (g i)),(4,.bl 2066 v),(5,.i .i64 (k:Int)),(6,.pr 1360 0 [])]) (fun(v:By)=>[(1360,I3 (g k))]) (fun(v:By)=>v.length<=l.length+76) [2066] (fun R hR i hi=>?_) ?_
  ·revert i hi;refine f2 ?_ ?_<;>repeat' (first|refine al 2 (f2 ?_ ?_)|refine cC (e:=eE) ((l.length+[UInt8.ofNat ((u8.wrap ((g k).kind))).toNat].length)*1<=140737488355328) ?_ bw|(refine cK (e:=eE) [] (WK (l++[UInt8.ofNat ((u8.wrap ((g k).kind))).toNat]) ((g k).name) bd bd) ?_;rintro out A0 ⟨tx2,te2,rfl,rfl,htx2,hte2⟩)|exact cA hX (hR tx2 bd))
  rintro v hv
  refine cC ((v.length+((g k).of).length)*1<=140737488355328) ?_;refine cK [] (MW (v++((g k).of)) (u64.wrap ((g k).size)) bd) ?_;rintro out A0 ⟨rc5,rfl,rfl,hrc5⟩
  exact cA hX (hR (k+1,rc5) ⟨by dsimp only;omega,bd⟩ (by dsimp only;omega)) (hS:=⟨v0,v0,(vS bd),zT⟩)
 refine cB (4000<(l.length:Int)) (fun h3=>?_) fun h3=>?_
 ·exact xW hX (A2 [.bl 2 [],.i .i64 2]) ⟨rfl,_,_,rfl,rfl,bd⟩
 exact xW hX (A2 [.bl 2 l,.i .i64 0]) ⟨rfl,_,_,rfl,rfl,bd⟩
theorem Ax(b:By)(hb:b.length<=100000):Sat Tryz.prog 94 [.bl 0 b] [] (fun out A0=>∃(l:List Itm) (e:Int),out=A2 [B4 2 35 I3 l,.i .i64 e]/\A0=[2]):=by
 refine cF Tryz.func94 fun X0 w0 hX=>?_
 refine cB ((b.length:Int)<3) (fun h1=>?_) fun h1=>?_
 ·exact xW hX (A2 [B4 2 35 I3 [],.i .i64 4]) ⟨rfl,_,_,rfl,rfl⟩ (hv:=vT (u:=A2 [.sl 2 35 0 fun _=>.un,.i .i64 4]) (F3 ⟨vN,.rfl _,zT⟩))
 refine cC ((0:Int)<=0/\0<(b.length:Int)) ?_ bd
 refine cB (((b.getD 0 0).toNat:Int)≠68) (fun h2=>?_) fun h2=>?_
 ·exact xW hX (A2 [B4 2 35 I3 [],.i .i64 4]) ⟨rfl,_,_,rfl,rfl⟩ (hv:=vT (u:=A2 [.sl 2 35 0 fun _=>.un,.i .i64 4]) (F3 ⟨vN,.rfl _,zT⟩))
 refine cC ((0:Int)<=1/\1<(b.length:Int)) ?_ bd
 refine cB (((b.getD 1 0).toNat:Int)≠49) (fun h3=>?_) fun h3=>?_
 ·exact xW hX (A2 [B4 2 35 I3 [],.i .i64 4]) ⟨rfl,_,_,rfl,rfl⟩ (hv:=vT (u:=A2 [.sl 2 35 0 fun _=>.un,.i .i64 4]) (F3 ⟨vN,.rfl _,zT⟩))
 refine cC ((0:Int)<=2/\2<(b.length:Int)) ?_ bd
 refine cB (64<((b.getD 2 0).toNat:Int)) (fun h4=>?_) fun h4=>?_
 ·exact xW hX (A2 [B4 2 35 I3 [],.i .i64 4]) ⟨rfl,_,_,rfl,rfl⟩ (hv:=vT (u:=A2 [.sl 2 35 0 fun _=>.un,.i .i64 4]) (F3 ⟨vN,.rfl _,zT⟩))
 refine cM hX (fun(p:Nat×Int×(List Itm))=>[(0,.bl 0 b),(4,B4 2 35 I3 p.2.2),(5,.i .i64 p.2.1),(6,.i .i64 (p.1:Int))]) (fun(p:Nat×Int×(List Itm))=>[]) (fun(p:Nat×Int×(List Itm))=>3<=p.2.1/\p.2.1<=(b.length:Int)/\p.2.2.length=p.1/\p.1<=256/\∀x∈p.2.2,x.name.length<=100000) (fun(p:Nat×Int×(List Itm))=>(i64.wrap ((b.getD 2 0).toNat:Int)).toNat-p.1) [2] 1680 (0,3,[]) ⟨by simp,bd,rfl,by simp,by simp⟩ ?_ (hS:=⟨v0,(vT (vN (g:=fun _=>.un))),v0,v0,zT⟩) (hH:=trivial)
 rintro⟨i,ap,l⟩ U6 R hR
 dsimp only at U6
 refine cC ((0:Int)<=2/\2<(b.length:Int)) ?_ bd;refine cB ((i:Int)<(i64.wrap ((b.getD 2 0).toNat:Int))) (fun h5=>?_) fun h5=>?_
 ·have hu:(b.getD 2 0).toNat<256:=UInt8.toNat_lt _
  have hK:i64.wrap ((b.getD 2 0).toNat:Int)=(b.getD 2 0).toNat:=bw
  have hw0:i64.wrap (ap+2)=ap+2:=bw
  refine cB ((b.length:Int)<(i64.wrap (ap+2))) (fun h6=>?_) fun h6=>?_
  ·exact xW hX (A2 [B4 2 35 I3 [],.i .i64 4]) ⟨rfl,_,_,rfl,rfl⟩ (hv:=vT (u:=A2 [.sl 2 35 0 fun _=>.un,.i .i64 4]) (F3 ⟨vN,.rfl _,zT⟩))
  have rA:i64.wrap (ap+1)=ap+1:=bw
  refine cC ((0:Int)<=ap/\ap<(b.length:Int)) ?_ bd;refine cC ((0:Int)<=(i64.wrap (ap+1))/\(i64.wrap (ap+1))<=(b.length:Int)) ?_ bw;refine cK [] (Qw ((b.drop (((i64.wrap (ap+1))).toNat)).take (b.length-((i64.wrap (ap+1))).toNat)) bd) ?_;rintro out A0 ⟨fR,C5,xe0,rfl,rfl,hxa0,hxs0⟩
  simp only[F6,K5]at hxa0 hxs0
  refine cB (xe0≠0) (fun h7=>?_) fun h7=>?_
  ·exact xW hX (A2 [B4 2 35 I3 [],.i .i64 4]) ⟨rfl,_,_,rfl,rfl⟩ (hv:=vT (u:=A2 [.sl 2 35 0 fun _=>.un,.i .i64 4]) (F3 ⟨vN,.rfl _,zT⟩))
  have kD:i64.wrap (i64.wrap (ap+1)+C5)=ap+1+C5:=by rw[rA];exact bw
  have hw3:i64.wrap (i64.wrap (i64.wrap (ap+1)+C5)+32)=ap+1+C5+32:=by rw[kD];exact bw
  refine cB ((b.length:Int)<(i64.wrap ((i64.wrap ((i64.wrap (ap+1))+C5))+32))) (fun h8=>?_) fun h8=>?_
  ·exact eV (fn:=Tryz.f94) hX [] [.sl 1 35 0 fun _=>.un,.i .i64 4] (A2 [B4 2 35 I3 [],.i .i64 4]) [2] (A2 [.sl 2 35 0 fun _=>.un,.i .i64 4]) (F3 ⟨vN,.rfl _,zT⟩) (⟨_,_,rfl,rfl⟩)
  refine jA 2 9104 (fun(p:Int×By×Int×By)=>[(0,.bl 0 b),(4,B4 2 35 I3 l),(5,.i .i64 p.1),(6,.i .i64 (i:Int)),(7,.pr 2768 0 [])]) (fun(p:Int×By×Int×By)=>[(2768,A1 [.s p.2.1,.i .i64 p.2.2.1,.bs 32 p.2.2.2,.i .i64 0])]) (fun(p:Int×By×Int×By)=>4<=p.1/\p.1+32<=(b.length:Int)/\p.2.1.length<=100000) [2] (fun R hR i hi=>?_) ?_
  ·match i,hi with
  |0,_=>
    refine cC ((0:Int)<=(i64.wrap ((i64.wrap (ap+1))+C5))/\(i64.wrap ((i64.wrap (ap+1))+C5))<=(i64.wrap ((i64.wrap ((i64.wrap (ap+1))+C5))+32))/\(i64.wrap ((i64.wrap ((i64.wrap (ap+1))+C5))+32))<=(b.length:Int)) ?_ bw;refine L4 2 zK fun i hi=>?_
    match i,hi with
   |0,_|1,_=>
     refine cC (32<=((b.drop (((i64.wrap ((i64.wrap (ap+1))+C5))).toNat)).take (((i64.wrap ((i64.wrap ((i64.wrap (ap+1))+C5))+32))).toNat-((i64.wrap ((i64.wrap (ap+1))+C5))).toNat)).length) ?_ bw;exact cA hX (hR ((i64.wrap ((i64.wrap (ap+1))+C5)),fR,(i64.wrap ((b.getD ((ap).toNat) 0).toNat:Int)),(((b.drop (((i64.wrap ((i64.wrap (ap+1))+C5))).toNat)).take (((i64.wrap ((i64.wrap ((i64.wrap (ap+1))+C5))+32))).toNat-((i64.wrap ((i64.wrap (ap+1))+C5))).toNat)).take 32)) ⟨by dsimp only;omega,by dsimp only;omega,by dsimp only;omega⟩)
  |1,_=>
    refine cC ((0:Int)<=(i64.wrap ((i64.wrap (ap+1))+C5))/\(i64.wrap ((i64.wrap (ap+1))+C5))<=(i64.wrap ((i64.wrap ((i64.wrap (ap+1))+C5))+32))/\(i64.wrap ((i64.wrap ((i64.wrap (ap+1))+C5))+32))<=(b.length:Int)) ?_ bw;refine cC (32<=((b.drop (((i64.wrap ((i64.wrap (ap+1))+C5))).toNat)).take (((i64.wrap ((i64.wrap ((i64.wrap (ap+1))+C5))+32))).toNat-((i64.wrap ((i64.wrap (ap+1))+C5))).toNat)).length) ?_ bw;exact cA hX (hR ((i64.wrap ((i64.wrap (ap+1))+C5)),fR,(i64.wrap ((b.getD ((ap).toNat) 0).toNat:Int)),(((b.drop (((i64.wrap ((i64.wrap (ap+1))+C5))).toNat)).take (((i64.wrap ((i64.wrap ((i64.wrap (ap+1))+C5))+32))).toNat-((i64.wrap ((i64.wrap (ap+1))+C5))).toNat)).take 32)) ⟨by dsimp only;omega,by dsimp only;omega,by dsimp only;omega⟩)
  rintro⟨q,nm,kd,oo⟩ J5
  dsimp only at J5
  refine cC ((0:Int)<=(i64.wrap (q+32))/\(i64.wrap (q+32))<=(b.length:Int)) ?_ bw;refine cK [] (WL ((b.drop (((i64.wrap (q+32))).toNat)).take (b.length-((i64.wrap (q+32))).toNat)) bd) ?_;rintro out A0 ⟨rfl,⟨wA,lZ,te1,rfl,htv1,hta1,hte1⟩⟩
  simp only[F6,K5]at hta1
  refine cB (te1≠0) (fun h9=>?_) fun h9=>?_
  ·exact xW hX (A2 [B4 2 35 I3 [],.i .i64 4]) ⟨rfl,_,_,rfl,rfl⟩ (hv:=vT (u:=A2 [.sl 2 35 0 fun _=>.un,.i .i64 4]) (F3 ⟨vN,.rfl _,zT⟩))
  refine cB (9223372036854775807<wA) (fun J7=>?_) fun J7=>?_
  ·exact xW hX (A2 [B4 2 35 I3 [],.i .i64 4]) ⟨rfl,_,_,rfl,rfl⟩ (hv:=vT (u:=A2 [.sl 2 35 0 fun _=>.un,.i .i64 4]) (F3 ⟨vN,.rfl _,zT⟩))
  refine cC ((l.length+1)*64<=140737488355328) ?_ bd
  exact cA hX (hR (i+1,(i64.wrap ((i64.wrap (q+32))+lZ)),l++[⟨nm,kd,oo,(i64.wrap wA)⟩]) ⟨bw,bw,by simp;omega,bw,fun x hx=>by simp only[S0,O9]at hx;rcases hx with h|rfl;exact U6.2.2.2.2 x h;exact J5.2.2⟩ (by dsimp only;omega)) (hS:=⟨v0,(vT (pQ l _)),v0,vS,zT⟩)
 refine cK [] (Aw l.length (fun i=>(l.getD i default)) bd (fun i hi=>L6 (U6.2.2.2.2 _ (by rw[j9,B6 hi];exact dY hi)) (by decide))) ?_
 rintro out A0 ⟨fb2,fe2,rfl,rfl,hfb2⟩
 refine cB (fe2≠0) (fun P5=>?_) fun P5=>?_
 ·exact xW hX (A2 [B4 2 35 I3 [],.i .i64 4]) ⟨rfl,_,_,rfl,rfl⟩ (hv:=vT (u:=A2 [.sl 2 35 0 fun _=>.un,.i .i64 4]) (F3 ⟨vN,.rfl _,zT⟩))
 refine cN (fb2=b) (fun h12=>?_) fun h12=>?_
 ·exact xW hX (A2 [B4 2 35 I3 [],.i .i64 4]) ⟨rfl,_,_,rfl,rfl⟩ (hv:=vT (u:=A2 [.sl 2 35 0 fun _=>.un,.i .i64 4]) (F3 ⟨vN,.rfl _,zT⟩))
 exact xW hX (A2 [B4 2 35 I3 l,.i .i64 0]) ⟨rfl,_,_,rfl,rfl⟩
theorem Zb(m:Mani)(hl:m.label.length<=100000):Sat Tryz.prog 96 [f7 m] [] (fun out A0=>A0=[]/\(∃p,out=.b p)):=by
 refine cF Tryz.func96 fun X0 w0 hX=>?_
 refine cM hX (fun(k:Nat)=>[(1,.pr 16 0 []),(3,.i .i64 (k:Int))]) (fun(k:Nat)=>[(16,f7 m)]) (fun(k:Nat)=>k<=m.label.length) (fun(k:Nat)=>m.label.length-k) [] 208 0 (by simp) ?_;rintro k hI R hR
 refine cB ((k:Int)<(m.label.length:Int)) (fun h1=>?_) fun h1=>?_
 ·refine cC ((0:Int)<=(k:Int)/\(k:Int)<(m.label.length:Int)) ?_
  refine cB (((m.label.getD k 0).toNat:Int)<32) (fun h2=>?_) fun h2=>?_
  ·exact xW hX (.b false) ⟨rfl,rfl,⟨_,rfl⟩⟩
  refine cC ((0:Int)<=(k:Int)/\(k:Int)<(m.label.length:Int)) ?_
  refine cB (126<((m.label.getD k 0).toNat:Int)) (fun h3=>?_) fun h3=>?_
  ·exact xW hX (.b false) ⟨rfl,rfl,⟨_,rfl⟩⟩
  exact cA hX (hR (k+1) zO zO) (hS:=⟨v0,(vS bd),zT⟩)
 refine cB (0<=m.time) (fun h4=>?_) fun h4=>?_
 ·exact xW hX (.b (decide ((m.label.length:Int)<=64))) ⟨rfl,rfl,⟨_,rfl⟩⟩
 exact xW hX (.b false) ⟨rfl,rfl,⟨_,rfl⟩⟩
theorem Zc(m:Mani)(hl:m.label.length<=50000):Sat Tryz.prog 42 [f7 m] [] (fun out A0=>∃l e,out=A2 [.bl 2 l,.i .i64 e]/\A0=[2]/\l.length<=m.label.length+100):=by
 refine cF Tryz.func42 fun X0 w0 hX=>?_
 refine rS 0 fun hr=>?_
 have hg:m.root.length=32:=hr 0 (show 0<3 by decide)
 refine cK [] (Zb m bd) ?_;rintro out A0 ⟨rfl,⟨Y9,rfl⟩⟩
 refine cn (Y9) (fun h1=>?_) fun h1=>?_
 ·exact xW hX (A2 [.bl 2 [],.i .i64 1]) ⟨rfl,_,_,rfl,rfl,bd⟩
 refine cC (([83,49].length+m.root.length)*1<=140737488355328) ?_ bd
 refine cK [] (yE (u64.wrap m.time)) ?_;rintro out A0 ⟨wJ,rfl,rfl,hei1⟩
 refine cC ((([83,49]++m.root).length+wJ.length)*1<=140737488355328) ?_ bd;refine cC (((([83,49]++m.root)++wJ).length+[UInt8.ofNat ((u8.wrap (m.label.length:Int))).toNat].length)*1<=140737488355328) ?_ bw;refine cC ((((([83,49]++m.root)++wJ)++[UInt8.ofNat ((u8.wrap (m.label.length:Int))).toNat]).length+m.label.length)*1<=140737488355328) ?_ bw;exact xW hX (A2 [.bl 2 (((([83,49]++m.root)++wJ)++[UInt8.ofNat ((u8.wrap (m.label.length:Int))).toNat])++m.label),.i .i64 0]) ⟨rfl,_,_,rfl,rfl,bd⟩
theorem Zd(n:Int)(hn:0<=n/\n<10):Sat Tryz.prog 93 [.i .i64 n] [] (fun out A0=>A0=[]/\(∃l,out=.s l/\l.length<=2)):=by
 refine cF Tryz.func93 fun X0 w0 hX=>?_
 refine cM hX (fun(p:Nat×Int×By)=>[(0,.i .i64 p.2.1),(3,.s p.2.2),(4,.b (decide (n<0))),(5,.i .i64 (p.1:Int))]) (fun(p:Nat×Int×By)=>[]) (fun(p:Nat×Int×By)=>(p.1=0/\p.2.1=n/\p.2.2=[])\/(p.1=1/\p.2.1=0/\p.2.2.length<=1)) (fun(p:Nat×Int×By)=>1-p.1) [] 400 (0,n,[]) (.inl ⟨rfl,rfl,rfl⟩) ?_;rintro⟨i,m,x⟩ U6 R hR
 dsimp only at U6
 refine cB ((i:Int)=0) (fun h1=>?_) fun h1=>?_
 ·have hm:m.tmod 10=m:=Int.tmod_eq_of_lt zO zO
  have hd:m.tdiv 10=0:=Int.tdiv_eq_zero_of_lt zO zO
  have hw:i64.wrap (m.tmod 10+1)=m+1:=by rw[hm];exact bw
  have kD:i64.wrap (m.tdiv 10)=0:=by rw[hd];rfl
  have hx:x.length=0:=by rcases U6 with h|h<;>first|omega|simp[h.2.2]
  have hl:=List.length_take_le ((i64.wrap (m.tmod 10+1)).toNat-(m.tmod 10).toNat) (([48,49,50,51,52,53,54,55,56,57,97,98,99,100,101,102]:By).drop (m.tmod 10).toNat)
  refine cB ((m.tmod 10)<0) (fun h2=>?_) fun h2=>?_
  ·exact absurd h2 zO
  refine cC ((0:Int)<=(m.tmod 10)/\(m.tmod 10)<=(i64.wrap ((m.tmod 10)+1))/\(i64.wrap ((m.tmod 10)+1))<=([48,49,50,51,52,53,54,55,56,57,97,98,99,100,101,102].length:Int)) ?_ bw
  refine cC (((([48,49,50,51,52,53,54,55,56,57,97,98,99,100,101,102]:By).drop (((m.tmod 10)).toNat)).take (((i64.wrap ((m.tmod 10)+1))).toNat-((m.tmod 10)).toNat)).length+x.length<=maxLen) ?_ bm;exact cA hX (hR (i+1,(i64.wrap (m.tdiv 10)),(((([48,49,50,51,52,53,54,55,56,57,97,98,99,100,101,102]:By).drop (((m.tmod 10)).toNat)).take (((i64.wrap ((m.tmod 10)+1))).toNat-((m.tmod 10)).toNat))++x)) (.inr ⟨bd,bw,bd⟩) (by dsimp only;omega)) (hS:=⟨v0,v0,v0,(vS bd),zT⟩)
 refine cB (m≠0) (fun h3=>?_) fun h3=>?_
 ·exact absurd h3 zO
 refine cB (n<0) (fun h4=>?_) fun h4=>?_
 ·refine cC ([45].length+x.length<=maxLen) ?_ bm
  exact xW hX (.s ([45]++x)) ⟨rfl,rfl,⟨_,rfl,bd⟩⟩
 exact xW hX (.s x) ⟨rfl,rfl,⟨_,rfl,bd⟩⟩
theorem Ay(s:StaR)(n:Nat)(tg:Nat->TenR)(nm:By)(hn:n<=1000):Sat Tryz.prog 8 [I9 (.sl 0 38 n fun i=>B2 (tg i)) s,.s nm] [] (fun out A0=>A0=[]/\(∃i:Int,out=.i .i64 i/\(i<0\/0<=i/\i<n)/\(i<0->∀j,j<n->(tg j).name≠nm)/\(0<=i->(tg i.toNat).name=nm))):=by
 refine cF Tryz.func8 fun X0 w0 hX=>?_
 refine cM hX (fun(k:Nat)=>[(1,.s nm),(2,.pr 16 0 []),(5,.i .i64 (k:Int))]) (fun(k:Nat)=>[(16,I9 (.sl 0 38 n fun i=>B2 (tg i)) s)]) (fun(k:Nat)=>k<=n/\∀j,j<k->(tg j).name≠nm) (fun(k:Nat)=>n-k) [] 208 0 ⟨by simp,fun j hj=>absurd hj (U2 j)⟩ ?_;rintro k hI R hR
 refine cB ((k:Int)<(n:Int)) (fun h1=>?_) fun h1=>?_
 ·refine cC ((0:Int)<=(k:Int)/\(k:Int)<(n:Int)) ?_
  refine cB ((tg k).name=nm) (fun h2=>?_) fun h2=>?_
  ·exact xW hX (.i .i64 (k:Int)) ⟨rfl,rfl,⟨_,rfl,zO,by first|exact fun h=>absurd h zO|exact fun _ j hj=>hI.2 j zO,by first|exact fun h=>absurd h zO|exact fun _=>by assumption⟩⟩
  exact cA hX (hR (k+1) ⟨bd,fun j hj=>(nH.1 hj).elim (hI.2 j) fun e=>by rw[e];assumption⟩ zO) (hS:=⟨v0,v0,(vS bd),zT⟩)
 exact xW hX (.i .i64 (-1)) ⟨rfl,rfl,⟨_,rfl,zO,by first|exact fun h=>absurd h zO|exact fun _ j hj=>hI.2 j zO,by first|exact fun h=>absurd h zO|exact fun _=>by assumption⟩⟩
theorem OP(t:TenR)(b:By)(hb:b.length<=1000000):Sat Tryz.prog 40 [B2 t,.bl 0 b] [] (fun out A0=>A0=[]/\(∃m,out=.bs 32 m/\m.length=32)):=by
 refine cF Tryz.func40 fun X0 w0 hX=>?_
 refine rS 0 fun hr=>?_
 have hk:t.key.length=32:=hr 1 (show 1<7 by decide)
 refine mM fV true ?_;refine L5 ((IB ((t.key.drop 0).take 32) b bd bd).full (ins':=[.bl 0 ((t.key.drop 0).take 32),.sl 1 1 1 fun _=>.bl 0 b])) ?_;rintro out A0 ⟨rfl,⟨so0,rfl,hso0⟩⟩
 refine⟨rfl,?_⟩
 exact xW hX (.bs 32 so0) ⟨rfl,rfl,⟨_,rfl,by assumption⟩⟩
theorem Ze(k:Int)(hk: -9223372036854775808<=k/\k<9223372036854775808):pJ Tryz.prog 34 [.i .i64 k,.i .i64 4] [] (fun out ho A0=>(out=.i .i64 0/\ho=[]/\A0=[])\/(out=.i .i64 1/\ho=[]/\A0=[])\/(out=.i .i64 2/\ho=[]/\A0=[])\/(out=.i .i64 3/\ho=[]/\A0=[])):=
 SatM.mono (WJ k 4 hk bd) fun out ho A0 ⟨h1,h2,x,h3,h4,h5,_⟩=>by
  have:x=0\/x=1\/x=2\/x=3:=by omega
  rcases this with rfl|rfl|rfl|rfl
  ·exact .inl ⟨h3,h1,h2⟩
  ·exact .inr (.inl ⟨h3,h1,h2⟩)
  ·exact .inr (.inr (.inl ⟨h3,h1,h2⟩))
  exact .inr (.inr (.inr ⟨h3,h1,h2⟩))
theorem CE(k:Int):Sat Tryz.prog 39 [.i .i64 k] [] (fun out A0=>A0=[]/\(∃l,out=.s l/\l.length<=4)):=by
 refine cF Tryz.func39 fun X0 w0 hX=>?_
 refine rS 0 fun hv=>?_
 replace hv:=wI hv
 refine kO [] (Ze k hv) ?_;rintro out ho A0 (⟨rfl,rfl,rfl⟩|⟨rfl,rfl,rfl⟩|⟨rfl,rfl,rfl⟩|⟨rfl,rfl,rfl⟩)
 ·refine cC ((0:Int)<=0/\0<4) ?_
  exact xW hX (.s [97]) ⟨rfl,rfl,⟨_,rfl,by decide⟩⟩
 ·refine cC ((0:Int)<=1/\1<4) ?_
  exact xW hX (.s [98]) ⟨rfl,rfl,⟨_,rfl,by decide⟩⟩
 ·refine cC ((0:Int)<=2/\2<4) ?_
  exact xW hX (.s [99,45,49]) ⟨rfl,rfl,⟨_,rfl,by decide⟩⟩
 refine cC ((0:Int)<=3/\3<4) ?_
 exact xW hX (.s [100,111,114,97]) ⟨rfl,rfl,⟨_,rfl,by decide⟩⟩
structure ActT where
 what:Int
 who:Int
 a:Int
 b:Int
 t:Int
 data:By
instance:Inhabited ActT:=⟨⟨0,0,0,0,0,[]⟩⟩
def M9(x:ActT):V:=A1 [.i .i64 x.what,.i .i64 x.who,.i .i64 x.a,.i .i64 x.b,.i .i64 x.t,.bl 0 x.data]
theorem IF(t:TenR)(k:Int)(fW:TB t):Sat Tryz.prog 45 [B2 t,.i .i64 k] [] (fun out A0=>A0=[]/\(∃x,out=C3 x/\x.data.length<=100000)):=by
 refine cF Tryz.func45 fun X0 w0 hX=>?_
 refine rS 1 fun hv=>?_
 replace hv:=wI hv
 have hK:=fW.nb
 refine cB ((t.nb:Int)=0) (fun h1=>?_) fun h1=>?_
 ·exact xW hX (C3 ⟨((replicate 32 0).set 0 5),[]⟩) ⟨rfl,rfl,⟨_,rfl,bd⟩⟩ (hv:=vT (u:=A1 [.bs 32 ((replicate 32 0).set 0 5),.bl 0 []]) (C4 ⟨.rfl _,.rfl _,zT⟩))
 refine cK [] (WJ k (t.nb:Int) bw bd) ?_
 rintro out A0 ⟨rfl,⟨N7,rfl,hpl0⟩⟩
 refine cC ((0:Int)<=N7/\N7<(t.nb:Int)) ?_;exact xW hX (C3 (t.gb ((N7).toNat))) ⟨rfl,rfl,⟨_,rfl,fW.db _ zO⟩⟩ (hv:=vT (u:=A1 [.bs 32 ((t.gb ((N7).toNat)).of),.bl 0 ((t.gb ((N7).toNat)).data)]) (C4 ⟨.rfl _,.rfl _,zT⟩))
theorem Zf(b:By)(hb:b.length<=1000000):Sat Tryz.prog 44 [.bl 0 b] [] (fun out A0=>A0=[]/\(∃l,out=.s l/\l.length<=12)):=by
 refine cF Tryz.func44 fun X0 w0 hX=>?_
 refine cM hX (fun(p:Nat×By)=>[(0,.bl 0 b),(3,.s p.2),(4,.i .i64 (p.1:Int))]) (fun(p:Nat×By)=>[]) (fun(p:Nat×By)=>p.1<=b.length/\p.2.length=p.1/\p.1<=12) (fun(p:Nat×By)=>b.length-p.1) [] 208 (0,[]) ⟨by simp,rfl,by simp⟩ ?_;rintro⟨i,x⟩ hI R hR
 dsimp only at hI
 refine cB ((i:Int)<(b.length:Int)) (fun h1=>?_) fun h1=>?_
 ·refine cB ((i:Int)<12) (fun h2=>?_) fun h2=>?_
  ·refine cC ((0:Int)<=(i:Int)/\(i:Int)<(b.length:Int)) ?_
   refine cC (x.length+[UInt8.ofNat ((u8.wrap (32+(((b.getD i 0).toNat:Int).tmod 95)))).toNat].length<=maxLen) ?_ (hp:=by have mx:maxLen=9223372036854775807:=rfl;simp only[I4,S1];omega);exact cA hX (hR (i+1,(x++[UInt8.ofNat ((u8.wrap (32+(((b.getD i 0).toNat:Int).tmod 95)))).toNat])) ⟨bd,bd,bd⟩ (by dsimp only;omega)) (hS:=⟨v0,v0,(vS bd),zT⟩)
  exact xW hX (.s x) ⟨rfl,rfl,⟨_,rfl,bd⟩⟩
 exact xW hX (.s x) ⟨rfl,rfl,⟨_,rfl,bd⟩⟩
theorem bH(k n:Int)(hk: -9223372036854775808<=k/\k<9223372036854775808)(hn:0<=n/\n<2000000):Sat Tryz.prog 34 [.i .i64 k,.i .i64 n] [] (fun out A0=>A0=[]/\(∃x,out=.i .i64 x/\0<=x/\(0<n->x<n)/\x<2000000)):=by
 have hm:=WG k n
 refine cF Tryz.func34 fun X0 w0 hX=>?_
 refine cB (n<1) (fun h1=>?_) fun h1=>?_
 ·exact xW hX (.i .i64 0) ⟨rfl,rfl,⟨_,rfl,by first|omega|(rw[N4 zO];omega),fun _=>by first|omega|(rw[N4 zO];omega),by first|omega|(rw[N4 zO];omega)⟩⟩
 refine cC (n≠(0:Int)) ?_
 refine cB ((k.tmod n)<0) (fun h2=>?_) fun h2=>?_
 ·exact xW hX (.i .i64 (i64.wrap ((k.tmod n)+n))) ⟨rfl,rfl,⟨_,rfl,by first|omega|(rw[N4 zO];omega),fun _=>by first|omega|(rw[N4 zO];omega),by first|omega|(rw[N4 zO];omega)⟩⟩
 exact xW hX (.i .i64 (k.tmod n)) ⟨rfl,rfl,⟨_,rfl,by first|omega|(rw[N4 zO];omega),fun _=>by first|omega|(rw[N4 zO];omega),by first|omega|(rw[N4 zO];omega)⟩⟩
theorem Zg(t:TenR)(q:Int)(fW:TB t):Sat Tryz.prog 43 [B2 t,.i .i64 q] [] (fun out A0=>A0=[]/\(∃l,out=.bs 32 l)):=by
 refine cF Tryz.func43 fun X0 w0 hX=>?_
 refine rS 1 fun hv=>?_
 replace hv:=wI hv
 have hK:=fW.nb
 refine cM hX (fun(k:Nat)=>[(1,.i .i64 q),(2,.pr 16 0 []),(4,.pr 80 0 []),(5,.i .i64 (k:Int))]) (fun(k:Nat)=>[(16,B2 t),(80,.bs 32 (replicate 32 0))]) (fun(k:Nat)=>k<=t.nb) (fun(k:Nat)=>t.nb-k) [] 208 0 (by simp) ?_;rintro k hI R hR
 refine cB ((k:Int)<(t.nb:Int)) (fun h1=>?_) fun h1=>?_
 ·refine jA 2 4816 (fun(bx:Obj)=>[(1,.i .i64 q),(2,.pr 16 0 []),(4,.pr 80 0 []),(5,.i .i64 (k:Int)),(6,.pr 912 0 [])]) (fun(bx:Obj)=>[(16,B2 t),(80,.bs 32 (replicate 32 0)),(912,C3 bx)]) (fun(bx:Obj)=>bx.data.length<=100000) [] (fun R hR i hi=>?_) ?_
  ·revert i hi;refine f2 ?_ ?_<;>repeat' (first|refine al 2 (f2 ?_ ?_)|(refine cK (e:=eE) [] (bH q 1048576 bw bd) ?_;rintro out A0 ⟨rfl,⟨N7,rfl,hpl0⟩⟩)|(refine cK (e:=eE) [] (IF t (i64.wrap (N7+(k:Int))) fW) ?_;rintro out A0 ⟨rfl,⟨kI,rfl,hbx1⟩⟩)|exact cA hX (hR kI (by assumption)))
  rintro bx hbj
  refine cK [] (Ax bx.data (by assumption)) ?_;rintro out A0 ⟨fl5,fe5,rfl,rfl⟩
  refine cB (fe5=0) (fun h2=>?_) fun h2=>?_
  ·exact xW hX (.bs 32 bx.of) ⟨rfl,rfl,⟨_,rfl⟩⟩
  exact cA hX (hR (k+1) zO zO) (hS:=⟨v0,v0,v0,(vS bd),zT⟩)
 refine cK [] (IF t q fW) ?_
 rintro out A0 ⟨rfl,⟨bx6,rfl,hbx6⟩⟩
 exact xW hX (.bs 32 bx6.of) ⟨rfl,rfl,⟨_,rfl⟩⟩
theorem Zh(t:TenR)(a b:Int)(fW:TB t):Sat Tryz.prog 41 [B2 t,.i .i64 a,.i .i64 b] [] (fun out A0=>∃l,out=.bl 2 l/\A0=[2]/\l.length<=4000):=by
 refine cF Tryz.func41 fun X0 w0 hX=>?_
 refine rS 1 fun hv=>?_
 replace hv:=wI hv
 refine rS 2 fun hv=>?_
 replace hv:=wI hv
 have hK:=fW.nb
 refine cM hX (fun(p:Nat×(List Itm))=>[(1,.i .i64 a),(2,.i .i64 b),(3,.pr 16 0 []),(7,B4 2 35 I3 p.2),(8,.i .i64 (p.1:Int))]) (fun(p:Nat×(List Itm))=>[(16,B2 t)]) (fun(p:Nat×(List Itm))=>p.1<=3/\p.2.length=p.1/\∀x∈p.2,x.name.length<=3) (fun(p:Nat×(List Itm))=>3-p.1) [2] 272 (0,[]) ⟨by simp,rfl,by simp⟩ ?_ (hS:=⟨v0,v0,v0,(vT (vN (g:=fun _=>.un))),v0,zT⟩);rintro⟨j,l⟩ U6 R hR
 dsimp only at U6
 refine cK [] (bH b 3 bw bd) ?_;rintro out A0 ⟨rfl,⟨N7,rfl,hpl0⟩⟩
 refine cB ((j:Int)<(i64.wrap (1+N7))) (fun h1=>?_) fun h1=>?_
 ·have hw0:i64.wrap (1+N7)=1+N7:=bw
  refine cK [] (IF t (i64.wrap (a+(j:Int))) fW) ?_;rintro out A0 ⟨rfl,⟨kI,rfl,hbx1⟩⟩
  refine jA 2 5520 (fun(nm:By)=>[(1,.i .i64 a),(2,.i .i64 b),(3,.pr 16 0 []),(7,B4 2 35 I3 l),(8,.i .i64 (j:Int)),(9,.pr 912 0 []),(10,.pr 1616 0 [])]) (fun(nm:By)=>[(16,B2 t),(912,C3 kI),(1616,A1 [.s nm,.i .i64 1,.bs 32 kI.of,.i .i64 (kI.data.length:Int)])]) (fun(nm:By)=>nm.length<=3) [2] (fun R hR i hi=>?_) ?_
  ·revert i hi;refine f2 ?_ ?_<;>repeat' (first|(refine cK (e:=eE) [] (Zd (j:Int) bw) ?_;rintro out A0 ⟨rfl,⟨pt2,rfl,hpt2⟩⟩)|refine cC (e:=eE) ([120].length+pt2.length<=maxLen) ?_ (hp:=by have mx:maxLen=9223372036854775807:=rfl;simp only[I4,S1];omega)|exact cA hX (hR ([120]++pt2) bd))
  rintro nm P0
  refine cK [] (Ax kI.data (by assumption)) ?_;rintro out A0 ⟨fl4,fe4,rfl,rfl⟩
  refine cB (fe4=0) (fun h2=>?_) fun h2=>?_
  ·refine cB (((j:Int).tmod 2)=0) (fun h3=>?_) fun h3=>?_
   ·refine cC ((l.length+1)*64<=140737488355328) ?_
    exact cA hX (hR (j+1,l++[⟨nm,2,kI.of,0⟩]) ⟨bd,by simp;omega,fun x hx=>by simp only[S0,O9]at hx;rcases hx with h|rfl;exact U6.2.2 x h;exact P0⟩ (by dsimp only;omega)) (hS:=⟨v0,v0,v0,(vT (pQ l _)),vS,zT⟩)
   refine cC ((l.length+1)*64<=140737488355328) ?_
   exact cA hX (hR (j+1,l++[⟨nm,1,kI.of,(kI.data.length:Int)⟩]) ⟨bd,by simp;omega,fun x hx=>by simp only[S0,O9]at hx;rcases hx with h|rfl;exact U6.2.2 x h;exact P0⟩ (by dsimp only;omega)) (hS:=⟨v0,v0,v0,(vT (pQ l _)),vS,zT⟩)
  refine cC ((l.length+1)*64<=140737488355328) ?_
  exact cA hX (hR (j+1,l++[⟨nm,1,kI.of,(kI.data.length:Int)⟩]) ⟨bd,by simp;omega,fun x hx=>by simp only[S0,O9]at hx;rcases hx with h|rfl;exact U6.2.2 x h;exact P0⟩ (by dsimp only;omega)) (hS:=⟨v0,v0,v0,(vT (pQ l _)),vS,zT⟩)
 refine cK [] (Aw l.length (fun i=>(l.getD i default)) bd (fun i hi=>L6 (U6.2.2 _ (by rw[j9,B6 hi];exact dY hi)) (by decide))) ?_
 rintro out A0 ⟨fb5,fe5,rfl,rfl,hfb5⟩
 exact xW hX (.bl 2 fb5) ⟨rfl,_,rfl,rfl,bd⟩
structure TaleR where
 s:StaR
 n:Nat
 tg:Nat->TenR
 now:Int
 m:Nat
 tk:Nat->By
 dr:Int
def CF(b:By):V:=.bl 0 b
instance:Inhabited TenR:=⟨⟨[],[],0,0,0,fun _=>default,0,fun _=>default,0,fun _=>default⟩⟩
def Q1(t:Nat)(x:TaleR):V:=A1 [I9 (.sl 0 38 x.n fun i=>B2 (x.tg i)) x.s,.i .i64 x.now,.sl t 1 x.m fun i=>CF (x.tk i),.i .i64 x.dr]
structure TaO (x:TaleR):Prop where
 ok:SOk x.s x.n x.tg
 hm:x.m<=20
 ht:∀i,i<x.m->(x.tk i).length<=20000
theorem CG(x:TaleR)(hx:TaO x)(a:ActT)(ha:a.data.length<=4096):SatHM Tryz.prog false 36 [.pr 2 0 [],M9 a] [4] [(2,Q1 4 x)] (fun out ho A0=>∃l,out=.bl 0 l/\ho=[(2,Q1 4 x)]/\A0=[4]/\l.length<=20000):=by
 refine fH false Tryz.func36 fun X0 w0 hX hm=>?_
 have hm:=hx.hm
 refine rS 1 fun hv=>?_
 have hw:=wI (hv 1 (show 1<6 by decide))
 refine cK [] (bH a.who (i64.wrap ((x.m:Int)+2)) bw bw) ?_;rintro out A0 ⟨rfl,⟨N7,rfl,hpl0⟩⟩
 refine cB (N7<(x.m:Int)) (fun h1=>?_) fun h1=>?_
 ·refine cC ((0:Int)<=N7/\N7<(x.m:Int)) ?_
  exact xW hX (.bl 0 (x.tk ((N7).toNat))) ⟨_,rfl,rfl,rfl,hx.ht _ zO⟩
 refine cB (N7=(x.m:Int)) (fun h2=>?_) fun h2=>?_
 ·exact xW hX (.bl 0 []) ⟨_,rfl,rfl,rfl,bd⟩
 refine cC ((([]:By).length+a.data.length)*1<=140737488355328) ?_ bd
 exact xW hX (.bl 0 ([]++a.data)) ⟨_,rfl,rfl,rfl,bd⟩
theorem Zi(x:TaleR)(hx:TaO x)(q:Int):SatHM Tryz.prog false 38 [.pr 2 0 [],.i .i64 q] [4] [(2,Q1 4 x)] (fun out ho A0=>∃t,out=B2 t/\ho=[(2,Q1 4 x)]/\A0=[4]/\TB t):=by
 refine fH false Tryz.func38 fun X0 w0 hX hm=>?_
 have hn:=hx.ok.hn
 refine cK [] (CE q) ?_;rintro out A0 ⟨rfl,⟨pn0,rfl,l6⟩⟩
 refine cK [] (Ay x.s x.n x.tg pn0 hn) ?_;rintro out A0 ⟨rfl,⟨ti1,rfl,hti1,_⟩⟩
 refine cB (ti1<0) (fun h1=>?_) fun h1=>?_
 ·refine cK [] (CE q) ?_
  rintro out A0 ⟨rfl,⟨pn2,rfl,hpn2⟩⟩
  exact xW hX (B2 ⟨pn2,(replicate 32 0),0,0,0,fun i=>[].getD i default,0,fun i=>[].getD i default,0,fun i=>[].getD i default⟩) ⟨_,rfl,rfl,rfl,L8 _,L8 _,L8 _,fun j hj=>absurd hj (U2 j),fun j hj=>absurd hj (U2 j),.mk0⟩ (hv:=vT (u:=A1 [.s pn2,.bs 32 (replicate 32 0),.i .i64 0,.i .i64 0,.sl 0 33 0 fun _=>.un,.sl 0 36 0 fun _=>.un,.sl 0 33 0 fun _=>.un]) (C4 ⟨.rfl _,.rfl _,.rfl _,.rfl _,vN,vN,vN,zT⟩))
 refine cC ((0:Int)<=ti1/\ti1<(x.n:Int)) ?_
 exact xW hX (B2 (x.tg ((ti1).toNat))) ⟨_,rfl,rfl,rfl,hx.ok.hb _ zO⟩
theorem Zj(x:TaleR)(hx:TaO x)(a:ActT)(ha:a.data.length<=4096)(o:OpT):SatHM Tryz.prog false 46 [.pr 2 0 [],M9 a,.pr 3 0 []] [4] [(2,Q1 4 x),(3,J1 o)] (fun out ho A0=>∃d o2,out=A2 []/\ho=[(2,Q1 4 ⟨x.s,x.n,x.tg,x.now,x.m,x.tk,d⟩),(3,J1 o2)]/\A0=[4]/\o2.token=o.token/\(o2.tenant=o.tenant\/o2.tenant=[])):=by
 refine fH false Tryz.func46 fun X0 w0 hX hm=>?_
 refine rS 1 fun hv=>?_
 have hw:=wI (hv 0 (show 0<6 by decide))
 have hb:=wI (hv 3 (show 3<6 by decide))
 have hA:=wI (hv 2 (show 2<6 by decide))
 refine cK [] (bH a.what 21 bw bd) ?_;rintro out A0 ⟨rfl,⟨N7,rfl,hpl0⟩⟩
 refine gF 16 ?_;refine cB (N7=11) (fun h1=>?_) fun h1=>?_
 ·refine cK [] (bH a.b 40 bw bd) ?_
  rintro out A0 ⟨rfl,⟨lY,rfl,hpl1⟩⟩
  exact xW hX (A2 []) ⟨(i64.wrap (x.dr+1)),⟨10,o.tenant,o.of,(i64.wrap (lY*300)),o.until,o.rights,o.body,o.token,o.now,((((replicate 32 0).set 0 1).set 1 (UInt8.ofNat ((u8.wrap (i64.wrap (x.dr+1)))).toNat)).set 2 (UInt8.ofNat ((u8.wrap a.b)).toNat))⟩,rfl,rfl,rfl,rfl,.inl rfl⟩
 refine cB (N7=12) (fun h2=>?_) fun h2=>?_
 ·refine cK [] (bH a.b 40 bw bd) ?_
  rintro out A0 ⟨rfl,⟨pl2,rfl,hpl2⟩⟩
  exact xW hX (A2 []) ⟨x.dr,⟨11,o.tenant,o.of,(i64.wrap (pl2*250)),o.until,o.rights,o.body,o.token,o.now,o.draw⟩,rfl,rfl,rfl,rfl,.inl rfl⟩
 refine cB (N7=13) (fun h3=>?_) fun h3=>?_
 ·refine cK [] (bH a.b 16 bw bd) ?_
  rintro out A0 ⟨rfl,⟨oA,rfl,hpl3⟩⟩
  refine cK [] (bH a.b 60 bw bd) ?_;rintro out A0 ⟨rfl,⟨pl4,rfl,hpl4⟩⟩
  refine cB ((a.a.tmod 3)=0) (fun h4=>?_) fun h4=>?_
  ·refine cB ((a.a.tmod 7)=0) (fun h5=>?_) fun h5=>?_
   ·exact xW hX (A2 []) ⟨x.dr,⟨12,[],o.of,o.number,9223372036854775807,(u8.wrap oA),o.body,o.token,o.now,o.draw⟩,rfl,rfl,rfl,rfl,.inr rfl⟩
   exact xW hX (A2 []) ⟨x.dr,⟨12,o.tenant,o.of,o.number,9223372036854775807,(u8.wrap oA),o.body,o.token,o.now,o.draw⟩,rfl,rfl,rfl,rfl,.inl rfl⟩
  refine cB ((a.a.tmod 7)=0) (fun h6=>?_) fun h6=>?_
  ·exact xW hX (A2 []) ⟨x.dr,⟨12,[],o.of,o.number,(i64.wrap (x.now+pl4)),(u8.wrap oA),o.body,o.token,o.now,o.draw⟩,rfl,rfl,rfl,rfl,.inr rfl⟩
  exact xW hX (A2 []) ⟨x.dr,⟨12,o.tenant,o.of,o.number,(i64.wrap (x.now+pl4)),(u8.wrap oA),o.body,o.token,o.now,o.draw⟩,rfl,rfl,rfl,rfl,.inl rfl⟩
 refine cB (N7=14) (fun h7=>?_) fun h7=>?_
 ·refine cK [] (bH a.b 6 bw bd) ?_
  rintro out A0 ⟨rfl,⟨pl5,rfl,hpl5⟩⟩
  exact xW hX (A2 []) ⟨x.dr,⟨13,[],o.of,pl5,o.until,o.rights,o.body,o.token,o.now,o.draw⟩,rfl,rfl,rfl,rfl,.inr rfl⟩
 refine cB (N7=15) (fun h8=>?_) fun h8=>?_
 ·exact xW hX (A2 []) ⟨x.dr,⟨14,o.tenant,o.of,o.number,o.until,o.rights,o.body,o.token,o.now,o.draw⟩,rfl,rfl,rfl,rfl,.inl rfl⟩
 refine cB (N7=16) (fun h9=>?_) fun h9=>?_
 ·exact xW hX (A2 []) ⟨x.dr,⟨15,o.tenant,o.of,o.number,o.until,o.rights,o.body,o.token,o.now,o.draw⟩,rfl,rfl,rfl,rfl,.inl rfl⟩
 refine cB (N7=17) (fun J7=>?_) fun J7=>?_
 ·exact xW hX (A2 []) ⟨x.dr,⟨16,[],o.of,o.number,o.until,o.rights,o.body,o.token,o.now,o.draw⟩,rfl,rfl,rfl,rfl,.inr rfl⟩
 refine cB (N7=18) (fun P5=>?_) fun P5=>?_
 ·exact xW hX (A2 []) ⟨x.dr,⟨17,[],o.of,o.number,o.until,o.rights,o.body,o.token,o.now,o.draw⟩,rfl,rfl,rfl,rfl,.inr rfl⟩
 refine cB (N7=19) (fun h12=>?_) fun h12=>?_
 ·refine cC ((([]:By).length+a.data.length)*1<=140737488355328) ?_ bd
  exact xW hX (A2 []) ⟨x.dr,⟨a.a,o.tenant,o.of,a.b,a.a,(u8.wrap a.b),([]++a.data),o.token,o.now,o.draw⟩,rfl,rfl,rfl,rfl,.inl rfl⟩
 exact xW hX (A2 []) ⟨x.dr,o,rfl,rfl,rfl,rfl,.inl rfl⟩
theorem Zk(x:TaleR)(a:ActT):SatHM Tryz.prog false 17 [.pr 2 0 [],M9 a] [4] [(2,Q1 4 x)] (fun out ho A0=>∃z,out=A2 []/\ho=[(2,Q1 4 ⟨x.s,x.n,x.tg,z,x.m,x.tk,x.dr⟩)]/\A0=[4]):=by
 refine fH false Tryz.func17 fun X0 w0 hX hm=>?_
 refine cB (0<a.t) (fun h1=>?_) fun h1=>?_
 ·refine cB (a.t<=(i64.wrap (9223372036854775807-x.now))) (fun h2=>?_) fun h2=>?_
  ·exact xW hX (A2 []) ⟨(i64.wrap (x.now+a.t)),rfl,rfl,rfl⟩
  exact xW hX (A2 []) ⟨x.now,rfl,rfl,rfl⟩
 exact xW hX (A2 []) ⟨x.now,rfl,rfl,rfl⟩
theorem Zl(r:By)(d:Int):Sat Tryz.prog 33 [.bs 32 r,.i .i64 d] [] (fun out A0=>A0=[]/\(∃e,out=I9 (.sl 0 38 0 fun i=>B2 ((fun _=>default) i)) ⟨r,e,0,0,fun _=>0,0,fun _=>default,replicate 32 0⟩)):=by
 refine cF Tryz.func33 fun X0 w0 hX=>?_
 exact xW hX (I9 (.sl 0 38 0 fun i=>B2 ((fun _=>default) i)) ⟨r,(if d<0 then 0 else d),0,0,fun _=>0,0,fun _=>default,replicate 32 0⟩) ⟨rfl,rfl,⟨_,rfl⟩⟩ (hv:=vT (u:=A1 [.bs 32 r,.i .i64 (if d<0 then 0 else d),.i .u64 0,.sl 0 38 0 fun _=>.un,.sl 0 1 0 fun _=>.un,.sl 0 38 0 fun _=>.un,.bs 32 (replicate 32 0)]) (C4 ⟨.rfl _,.rfl _,.rfl _,vN,vN,vN,.rfl _,zT⟩))
theorem Zm(r:By)(hk:r.length=32):Sat Tryz.prog 31 [.bs 32 r] [] (fun out A0=>A0=[]/\(∃t,out=G1 t/\t.tenant.length<=16/\t.cavs.length<=8/\t.tag.length=32)):=by
 refine cF Tryz.func31 fun X0 w0 hX=>?_
 refine cK [] (pU (ins':=[.bs 32 r,A1 [.i .u64 0,.s [],.i .u8 15,.i .i64 0,.i .i64 9223372036854775807,.sl 1 2 0 fun _=>.un,.bs 32 (replicate 32 0)]]) (Yw r ⟨0,[],15,0,9223372036854775807,[],(replicate 32 0)⟩ (by assumption) bd bd) ⟨.rfl _,C4 ⟨.rfl _,.rfl _,.rfl _,.rfl _,.rfl _,dU,.rfl _,zT⟩,zT⟩) ?_;rintro out A0 ⟨rfl,⟨K9,bY,rfl,htk0,htc0,htg0⟩⟩
 exact xW hX (G1 K9) ⟨rfl,rfl,⟨_,rfl,L6 htk0 (by simp),L6 htc0 (by simp),htg0⟩⟩
theorem Az  :Sat Tryz.prog 32 [] [] (fun out A0=>A0=[]/\(∃r,out=.bs 32 r/\r.length=32)):=by
 refine cF Tryz.func32 fun X0 w0 hX=>?_
 exact xW hX (.bs 32 (((((replicate 32 0).set 0 7).set 1 1).set 2 2).set 31 9)) ⟨rfl,rfl,⟨_,rfl,by simp⟩⟩
theorem Zn(n:Nat)(g:Nat->ActT)(mx:Int)(hn:n<=9223372036854775807):Sat Tryz.prog 5 [.sl 0 6 n fun i=>M9 (g i),.i .i64 mx] [] (fun out A0=>A0=[]/\(∃p,out=.b p/\(p=true->(n:Int)<=mx/\∀i,i<n->(g i).data.length<=4096))):=by
 refine cF Tryz.func5 fun X0 w0 hX=>?_
 refine cB (mx<(n:Int)) (fun h1=>?_) fun h1=>?_
 ·exact xW hX (.b false) ⟨rfl,rfl,⟨_,rfl,by first|(intro h;cases h;done)|exact fun _=>⟨zO,fun i hi=>hI.2 i zO⟩⟩⟩
 refine cM hX (fun(k:Nat)=>[(0,.sl 0 6 n fun i=>M9 (g i)),(5,.i .i64 (k:Int))]) (fun(k:Nat)=>[]) (fun(k:Nat)=>k<=n/\∀j,j<k->(g j).data.length<=4096) (fun(k:Nat)=>n-k) [] 400 0 ⟨L8 _,fun j hj=>absurd hj (U2 j)⟩ ?_
 rintro k hI R hR
 refine cB ((k:Int)<(n:Int)) (fun h2=>?_) fun h2=>?_
 ·refine cC ((0:Int)<=(k:Int)/\(k:Int)<(n:Int)) ?_
  refine cB (4096<(((g k).data).length:Int)) (fun h3=>?_) fun h3=>?_
  ·exact xW hX (.b false) ⟨rfl,rfl,⟨_,rfl,by first|(intro h;cases h;done)|exact fun _=>⟨zO,fun i hi=>hI.2 i zO⟩⟩⟩
  exact cA hX (hR (k+1) ⟨zO,fun j hj=>by rcases nH.1 hj with h|rfl;exact hI.2 j h;omega⟩ zO) (hS:=⟨v0,(vS bd),zT⟩)
 exact xW hX (.b true) ⟨rfl,rfl,⟨_,rfl,by first|(intro h;cases h;done)|exact fun _=>⟨zO,fun i hi=>hI.2 i zO⟩⟩⟩
theorem uN{t z n:Nat}{e:α->V}{g:Nat->α}{v:V}{x:α}(h:VEn v (e x):=by exact .rfl _):VEq (.sl t z (n+1) (fun k=>bif blt k n then e (g k) else v)) (.sl t z (n+1) fun k=>e (J8 n g x k)):=.sn _ _ _ _ _ fun k _=>by
 show VEn (bif blt k n then e (g k) else v) (e (bif blt k n then g k else x))
 cases blt k n
 ·exact h
 exact .rfl _
theorem Zo(x:TaleR)(hm:x.m<=20)(ht:∀i,i<x.m->(x.tk i).length<=20000)(o:OpT)(s:StaR)(n:Nat)(tg:Nat->TenR)(c:Int)(b:By)(hb:o.do=12->b.length<=20000)(S2:b.length<=4000000000):SatHM Tryz.prog false 20 [.pr 2 0 [],J1 o,I9 (.sl 0 38 n fun i=>B2 (tg i)) s,A1 [.i .i64 c,.bl 0 b]] [4] [(2,Q1 4 x)] (fun out ho A0=>∃m tk,out=A2 []/\ho=[(2,Q1 16 ⟨s,n,tg,x.now,m,tk,x.dr⟩)]/\A0=[16]/\m<=20/\∀i,i<m->(tk i).length<=20000):=by
 refine fH false Tryz.func20 fun X0 w0 hX hm=>?_
 refine mV 4 ?_;refine cB (o.do=12) (fun h1=>?_) fun h1=>?_
 ·refine cB (c=201) (fun h2=>?_) fun h2=>?_
  ·refine cB ((x.m:Int)<20) (fun h3=>?_) fun h3=>?_
   ·refine cC ((([]:By).length+b.length)*1<=140737488355328) ?_ bd
    refine cC ((x.m+1)*24<=140737488355328) ?_;exact xW hX (A2 []) ⟨(x.m+1),(J8 x.m x.tk ([]++b)),rfl,rfl,rfl,zO,fun i hi=>uK (p:=fun b:By=>b.length<=20000) ht (by simpa using hb (by assumption)) i hi⟩ (hH:=⟨(vT (u:=A1 [I9 (.sl 0 38 n fun i=>B2 (tg i)) s,.i .i64 x.now,.sl 16 1 (x.m+1) fun i=>bif blt i x.m then .bl 0 (x.tk i) else .bl 0 ([]++b),.i .i64 x.dr]) (C4 ⟨.rfl _,.rfl _,(uN (e:=CF)),.rfl _,zT⟩)),zT⟩)
   exact xW hX (A2 []) ⟨x.m,x.tk,rfl,rfl,rfl,zO,ht⟩ (hH:=⟨(vT (u:=A1 [I9 (.sl 0 38 n fun i=>B2 (tg i)) s,.i .i64 x.now,.sl 16 1 x.m fun i=>.bl 0 (x.tk i),.i .i64 x.dr]) (C4 ⟨.rfl _,.rfl _,.rfl _,.rfl _,zT⟩)),zT⟩)
  exact xW hX (A2 []) ⟨x.m,x.tk,rfl,rfl,rfl,zO,ht⟩ (hH:=⟨(vT (u:=A1 [I9 (.sl 0 38 n fun i=>B2 (tg i)) s,.i .i64 x.now,.sl 16 1 x.m fun i=>.bl 0 (x.tk i),.i .i64 x.dr]) (C4 ⟨.rfl _,.rfl _,.rfl _,.rfl _,zT⟩)),zT⟩)
 exact xW hX (A2 []) ⟨x.m,x.tk,rfl,rfl,rfl,zO,ht⟩ (hH:=⟨(vT (u:=A1 [I9 (.sl 0 38 n fun i=>B2 (tg i)) s,.i .i64 x.now,.sl 16 1 x.m fun i=>.bl 0 (x.tk i),.i .i64 x.dr]) (C4 ⟨.rfl _,.rfl _,.rfl _,.rfl _,zT⟩)),zT⟩)
theorem Zp(x:TaleR)(hx:TaO x)(a:ActT)(ha:a.data.length<=4096):SatHM Tryz.prog false 18 [.pr 2 0 [],M9 a] [4] [(2,Q1 4 x)] (fun out ho A0=>∃p m tk,out=.b p/\ho=[(2,Q1 16 ⟨x.s,x.n,x.tg,x.now,m,tk,x.dr⟩)]/\A0=[16]/\m<=20/\∀i,i<m->(tk i).length<=20000):=by
 refine fH false Tryz.func18 fun X0 w0 hX hm=>?_
 have hm:=hx.hm
 refine rS 1 fun hv=>?_
 have hw:=wI (hv 0 (show 0<6 by decide))
 have hb:=wI (hv 3 (show 3<6 by decide))
 have hA:=wI (hv 2 (show 2<6 by decide))
 refine mV 4 ?_;refine cK [] (bH a.what 21 bw bd) ?_;rintro out A0 ⟨rfl,⟨N7,rfl,hpl0⟩⟩
 refine cB (N7≠20) (fun h1=>?_) fun h1=>?_
 ·exact xW hX (.b false) ⟨_,x.m,x.tk,rfl,rfl,rfl,hm,hx.ht⟩ (hH:=⟨(vT (u:=Q1 16 x) (C4 ⟨.rfl _,.rfl _,.rfl _,.rfl _,zT⟩)),zT⟩)
 refine kH [(2,2),(16,4)] [2] (CG x hx a ha) ?_
 rintro out ho A0 ⟨tk1,rfl,rfl,rfl,htk1⟩
 refine cK [] (Yy tk1 bd) ?_;rintro out A0 ⟨rfl,⟨tk2,te2,rfl,htk2,htc2,htg2⟩⟩
 refine cB (te2≠0) (fun h2=>?_) fun h2=>?_
 ·exact xW hX (.b true) ⟨_,x.m,x.tk,rfl,rfl,rfl,hm,hx.ht⟩ (hH:=⟨(vT (u:=Q1 16 x) (C4 ⟨.rfl _,.rfl _,.rfl _,.rfl _,zT⟩)),zT⟩)
 refine cB (20<=(x.m:Int)) (fun h3=>?_) fun h3=>?_
 ·exact xW hX (.b true) ⟨_,x.m,x.tk,rfl,rfl,rfl,hm,hx.ht⟩ (hH:=⟨(vT (u:=Q1 16 x) (C4 ⟨.rfl _,.rfl _,.rfl _,.rfl _,zT⟩)),zT⟩)
 refine cK [] (bH a.a 50 bw bd) ?_
 rintro out A0 ⟨rfl,⟨oA,rfl,hpl3⟩⟩
 refine cB ((a.a.tmod 4)=0) (fun h4=>?_) fun h4=>?_
 ·refine jA 2 6992 (fun(p:Tok×Int)=>[(0,.pr 2 0 []),(6,.i .i64 p.2),(8,.pr 3344 0 [])]) (fun(p:Tok×Int)=>[(2,A1 [I9 (.sl 0 38 x.n fun i=>B2 (x.tg i)) x.s,.i .i64 x.now,.sl 16 1 x.m fun i=>.bl 0 (x.tk i),.i .i64 x.dr]),(3344,G1 p.1)]) (fun(p:Tok×Int)=>p.1.tenant.length<=16/\p.1.cavs.length<=9/\p.1.tag.length=32) [16] (fun R hR i hi=>?_) ?_
  ·revert i hi;refine f2 ?_ ?_<;>repeat' (first|refine al 2 (f2 ?_ ?_)|(refine cK (e:=eE) [] (bH a.b 16 bw bd) ?_;rintro out A0 ⟨rfl,⟨pl4,rfl,hpl4⟩⟩)|(refine cK (e:=eE) [] (OO tk2 (u8.wrap pl4) 9223372036854775807 bd bd (by assumption)) ?_;rintro out A0 ⟨rfl,⟨tk5,te5,rfl,htk5,htc5,htg5⟩⟩)|exact cA hX (hR (tk5,te5) ⟨by dsimp only;omega,by dsimp only;omega,by assumption⟩))
  rintro⟨y,ey⟩ J5
  dsimp only at J5
  refine cB (ey=0) (fun h5=>?_) fun h5=>?_
  ·refine cK [] (ID y bd bd J5.2.2) ?_
   rintro out A0 ⟨rb9,tf9,rfl,rfl,hrb9⟩
   refine cC ((x.m+1)*24<=140737488355328) ?_;exact xW hX (.b true) ⟨_,(x.m+1),(J8 x.m x.tk rb9),rfl,rfl,rfl,zO,fun i hi=>uK (p:=fun b:By=>b.length<=20000) hx.ht zO i hi⟩ (hH:=⟨(vT (u:=A1 [I9 (.sl 0 38 x.n fun i=>B2 (x.tg i)) x.s,.i .i64 x.now,.sl 16 1 (x.m+1) fun i=>bif blt i x.m then .bl 0 (x.tk i) else .bl 0 rb9,.i .i64 x.dr]) (C4 ⟨.rfl _,.rfl _,(uN (e:=CF)),.rfl _,zT⟩)),zT⟩)
  exact xW hX (.b true) (ho:=[(2,A1 [I9 (.sl 0 38 x.n fun i=>B2 (x.tg i)) x.s,.i .i64 x.now,.sl 16 1 x.m fun i=>CF (x.tk i),.i .i64 x.dr])]) ⟨_,x.m,x.tk,rfl,rfl,rfl,hm,hx.ht⟩ (hH:=⟨(vT (u:=A1 [I9 (.sl 0 38 x.n fun i=>B2 (x.tg i)) x.s,.i .i64 x.now,.sl 16 1 x.m fun i=>.bl 0 (x.tk i),.i .i64 x.dr]) (C4 ⟨.rfl _,.rfl _,.rfl _,.rfl _,zT⟩)),zT⟩)
 refine jA 2 6928 (fun(p:Tok×Int)=>[(0,.pr 2 0 []),(6,.i .i64 p.2),(8,.pr 3280 0 [])]) (fun(p:Tok×Int)=>[(2,A1 [I9 (.sl 0 38 x.n fun i=>B2 (x.tg i)) x.s,.i .i64 x.now,.sl 16 1 x.m fun i=>.bl 0 (x.tk i),.i .i64 x.dr]),(3280,G1 p.1)]) (fun(p:Tok×Int)=>p.1.tenant.length<=16/\p.1.cavs.length<=9/\p.1.tag.length=32) [16] (fun R hR i hi=>?_) ?_
 ·match i,hi with
 |0,_=>
   refine cK [] (bH a.b 16 bw bd) ?_;rintro out A0 ⟨rfl,⟨pl10,rfl,hpl10⟩⟩
   refine L4 2 zK fun i hi=>?_
   revert i hi;refine f2 ?_ ?_<;>repeat' (first|(refine cK (e:=eE) [] (OO tk2 (u8.wrap pl10) (i64.wrap (x.now+oA)) bd bd (by assumption)) ?_;rintro out A0 ⟨rfl,⟨tk11,te11,rfl,htk11,htc11,htg11⟩⟩)|exact cA hX (hR (tk11,te11) ⟨by dsimp only;omega,by dsimp only;omega,by assumption⟩))
 |1,_=>
   refine cK [] (bH a.b 16 bw bd) ?_;rintro out A0 ⟨rfl,⟨pl13,rfl,hpl13⟩⟩
   refine cK [] (OO tk2 (u8.wrap pl13) (i64.wrap (x.now+oA)) bd bd (by assumption)) ?_;rintro out A0 ⟨rfl,⟨tk14,te14,rfl,htk14,htc14,htg14⟩⟩
   exact cA hX (hR (tk14,te14) ⟨by dsimp only;omega,by dsimp only;omega,by assumption⟩)
 rintro⟨y,ey⟩ J5
 dsimp only at J5
 refine cB (ey=0) (fun h6=>?_) fun h6=>?_
 ·refine cK [] (ID y bd bd J5.2.2) ?_
  rintro out A0 ⟨rb15,tf15,rfl,rfl,hrb15⟩
  refine cC ((x.m+1)*24<=140737488355328) ?_;exact xW hX (.b true) ⟨_,(x.m+1),(J8 x.m x.tk rb15),rfl,rfl,rfl,zO,fun i hi=>uK (p:=fun b:By=>b.length<=20000) hx.ht zO i hi⟩ (hH:=⟨(vT (u:=A1 [I9 (.sl 0 38 x.n fun i=>B2 (x.tg i)) x.s,.i .i64 x.now,.sl 16 1 (x.m+1) fun i=>bif blt i x.m then .bl 0 (x.tk i) else .bl 0 rb15,.i .i64 x.dr]) (C4 ⟨.rfl _,.rfl _,(uN (e:=CF)),.rfl _,zT⟩)),zT⟩)
 exact xW hX (.b true) ⟨_,x.m,x.tk,rfl,rfl,rfl,hm,hx.ht⟩ (hH:=⟨(vT (u:=A1 [I9 (.sl 0 38 x.n fun i=>B2 (x.tg i)) x.s,.i .i64 x.now,.sl 16 1 x.m fun i=>.bl 0 (x.tk i),.i .i64 x.dr]) (C4 ⟨.rfl _,.rfl _,.rfl _,.rfl _,zT⟩)),zT⟩)
theorem Zq(d:Int):SatM Tryz.prog false 16 [.i .i64 d] [] (fun out ho A0=>∃x,out=.pr 16 0 []/\ho=[(16,Q1 17 x)]/\A0=[17]/\TaO x/\x.n=0/\x.s.nl=0):=by
 refine fM false Tryz.func16 fun X0 w0 hX hm=>?_
 refine cK [] (Az) ?_;rintro out A0 ⟨rfl,⟨rt0,rfl,hrt0⟩⟩
 refine cK [] (Zm rt0 (by assumption)) ?_;rintro out A0 ⟨rfl,⟨tk1,rfl,htk1,htc1,htg1⟩⟩
 refine cK [] (ID tk1 bd bd (by assumption)) ?_;rintro out A0 ⟨rb2,tf2,rfl,rfl,hrb2⟩
 refine cK [] (Az) ?_;rintro out A0 ⟨rfl,⟨rt3,rfl,hrt3⟩⟩
 refine cK [] (Zl rt3 d) ?_;rintro out A0 ⟨rfl,⟨nd4,rfl⟩⟩
 exact xW hX (.pr 16 0 []) ⟨⟨_,0,_,0,1,_,0⟩,rfl,rfl,rfl,⟨⟨by simp,by simp,by simp,fun i hi=>absurd hi (U2 i),fun i hi=>absurd hi (U2 i),.mk0⟩,by simp,fun i hi=>by dsimp only;omega⟩,rfl,rfl⟩ (hH:=⟨(vT (u:=A1 [I9 (.sl 0 38 0 fun i=>B2 ((fun _=>default) i)) ⟨rt3,nd4,0,0,fun _=>0,0,fun _=>default,replicate 32 0⟩,.i .i64 0,.sl 17 1 1 fun _=>.bl 0 rb2,.i .i64 0]) (C4 ⟨.rfl _,.rfl _,.rfl _,.rfl _,zT⟩)),zT⟩)
theorem Zr(x:TaleR)(hx:TaO x)(a:ActT)(ha:a.data.length<=4096):SatHM Tryz.prog false 19 [.pr 2 0 [],M9 a] [4] [(2,Q1 4 x)] (fun out ho A0=>∃d o,out=J1 o/\ho=[(2,Q1 4 ⟨x.s,x.n,x.tg,x.now,x.m,x.tk,d⟩)]/\A0=[4]/\o.token.length<=20000/\o.tenant.length<=4):=by
 refine fH false Tryz.func19 fun X0 w0 hX hm=>?_
 refine rS 1 fun hv=>?_
 have hw:=wI (hv 0 (show 0<6 by decide))
 have hb:=wI (hv 3 (show 3<6 by decide))
 have hA:=wI (hv 2 (show 2<6 by decide))
 refine kH [(2,2),(4,4)] [2] (Zi x hx a.a) ?_;rintro out ho A0 ⟨wL,rfl,rfl,rfl,fW⟩
 refine gF 16 ?_;refine jA 3 5072 (fun(p:By×By)=>[(0,.pr 2 0 []),(3,.pz (M9 a)),(4,.pr 80 0 []),(5,.pr 400 0 []),(6,.pr 1232 0 [])]) (fun(p:By×By)=>[(2,A1 [I9 (.sl 0 38 x.n fun i=>B2 (x.tg i)) x.s,.i .i64 x.now,.sl 4 1 x.m fun i=>.bl 0 (x.tk i),.i .i64 x.dr]),(80,A1 [.i .i64 0,.s [],.bs 32 (replicate 32 0),.i .i64 0,.i .i64 0,.i .u8 0,.bl 1 [],.bl 1 [],.i .i64 0,.bs 32 (replicate 32 0)]),(400,B2 wL),(1232,A1 [.i .i64 0,.s p.1,.bs 32 (replicate 32 0),.i .i64 0,.i .i64 0,.i .u8 0,.bl 1 [],.bl 0 p.2,.i .i64 x.now,.bs 32 (replicate 32 0)])]) (fun(p:By×By)=>p.1.length<=4/\p.2.length<=20000) [4] (fun R hR i hi=>?_) ?_
 ·match i,hi with
 |0,_=>
   refine cK [] (CE a.a) ?_;rintro out A0 ⟨rfl,⟨pn1,rfl,hpn1⟩⟩
   refine L4 3 zK fun i hi=>?_
   match i,hi with
  |0,_=>
    refine kH [(2,2),(4,4)] [2] (CG x hx a ha) ?_;rintro out ho A0 ⟨tk2,rfl,rfl,rfl,htk2⟩
    exact cA hX (hR (pn1,tk2) ⟨by assumption,by assumption⟩)
  |1,_|2,_=>
    refine L4 2 zK fun i hi=>?_
    match i,hi with
   |0,_|1,_=>
     refine kH [(2,2),(4,4)] [2] (CG x hx a ha) ?_;rintro out ho A0 ⟨tk3,rfl,rfl,rfl,htk3⟩
     exact cA hX (hR (pn1,tk3) ⟨by assumption,by assumption⟩)
 |1,_|2,_=>
   refine L4 2 zK fun i hi=>?_
   match i,hi with
  |0,_=>
    refine cK [] (CE a.a) ?_;rintro out A0 ⟨rfl,⟨pn7,rfl,hpn7⟩⟩
    refine L4 2 zK fun i hi=>?_
    revert i hi;refine f2 ?_ ?_<;>repeat' (first|(refine kH (e:=eE) [(2,2),(4,4)] [2] (CG x hx a ha) ?_;rintro out ho A0 ⟨tk8,rfl,rfl,rfl,htk8⟩)|exact cA hX (hR (pn7,tk8) ⟨by assumption,by assumption⟩))
  |1,_=>
    refine cK [] (CE a.a) ?_;rintro out A0 ⟨rfl,⟨pn10,rfl,hpn10⟩⟩
    refine kH [(2,2),(4,4)] [2] (CG x hx a ha) ?_;rintro out ho A0 ⟨tk11,rfl,rfl,rfl,htk11⟩
    exact cA hX (hR (pn10,tk11) ⟨by assumption,by assumption⟩)
 rintro⟨nm,tk⟩ J5
 dsimp only at J5
 refine cK [] (bH a.b 5 bw bd) ?_;rintro out A0 ⟨rfl,⟨rX,rfl,hpl17⟩⟩
 refine cK [] (bH a.what 21 bw bd) ?_;rintro out A0 ⟨rfl,⟨iQ,rfl,hpl18⟩⟩
 refine cB (iQ=0) (fun h1=>?_) fun h1=>?_
 ·refine O6 (iQ=0) h1 ?_
  refine cC ((([]:By).length+a.data.length)*1<=140737488355328) ?_ bd;refine cK [] (OP wL ([]++a.data) bd) ?_;rintro out A0 ⟨rfl,⟨nm19,rfl,hnm19⟩⟩
  exact xW hX (J1 ⟨1,nm,nm19,0,0,0,([]++a.data),tk,x.now,(replicate 32 0)⟩) (ho:=[(2,A1 [I9 (.sl 0 38 x.n fun i=>B2 (x.tg i)) x.s,.i .i64 x.now,.sl 4 1 x.m fun i=>.bl 0 (x.tk i),.i .i64 x.dr])]) ⟨_,_,rfl,rfl,rfl,J5.2,J5.1⟩ (hv:=vT (u:=A1 [.i .i64 1,.s nm,.bs 32 nm19,.i .i64 0,.i .i64 0,.i .u8 0,.bl 0 ([]++a.data),.bl 0 tk,.i .i64 x.now,.bs 32 (replicate 32 0)]) (C4 ⟨.rfl _,.rfl _,.rfl _,.rfl _,.rfl _,.rfl _,.rfl _,.rfl _,.rfl _,.rfl _,zT⟩))
 refine cB (iQ=1) (fun h2=>?_) fun h2=>?_
 ·refine cC ((([]:By).length+a.data.length)*1<=140737488355328) ?_ bd
  refine cK [] (OP wL ([]++a.data) bd) ?_;rintro out A0 ⟨rfl,⟨nm20,rfl,hnm20⟩⟩
  exact xW hX (J1 ⟨1,nm,nm20,0,0,0,([]++a.data),tk,x.now,(replicate 32 0)⟩) (ho:=[(2,A1 [I9 (.sl 0 38 x.n fun i=>B2 (x.tg i)) x.s,.i .i64 x.now,.sl 4 1 x.m fun i=>.bl 0 (x.tk i),.i .i64 x.dr])]) ⟨_,_,rfl,rfl,rfl,J5.2,J5.1⟩ (hv:=vT (u:=A1 [.i .i64 1,.s nm,.bs 32 nm20,.i .i64 0,.i .i64 0,.i .u8 0,.bl 0 ([]++a.data),.bl 0 tk,.i .i64 x.now,.bs 32 (replicate 32 0)]) (C4 ⟨.rfl _,.rfl _,.rfl _,.rfl _,.rfl _,.rfl _,.rfl _,.rfl _,.rfl _,.rfl _,zT⟩))
 refine cB (iQ=2) (fun h3=>?_) fun h3=>?_
 ·refine cK [] (Zh wL a.b (i64.wrap (a.b.tdiv 3)) fW) ?_
  rintro out A0 ⟨fb21,rfl,rfl,hfb21⟩
  refine cK [] (OP wL fb21 bd) ?_;rintro out A0 ⟨rfl,⟨nm22,rfl,hnm22⟩⟩
  exact xW hX (J1 ⟨1,nm,nm22,0,0,0,fb21,tk,x.now,(replicate 32 0)⟩) (ho:=[(2,A1 [I9 (.sl 0 38 x.n fun i=>B2 (x.tg i)) x.s,.i .i64 x.now,.sl 4 1 x.m fun i=>.bl 0 (x.tk i),.i .i64 x.dr])]) ⟨_,_,rfl,rfl,rfl,J5.2,J5.1⟩ (hv:=vT (u:=A1 [.i .i64 1,.s nm,.bs 32 nm22,.i .i64 0,.i .i64 0,.i .u8 0,.bl 0 fb21,.bl 0 tk,.i .i64 x.now,.bs 32 (replicate 32 0)]) (C4 ⟨.rfl _,.rfl _,.rfl _,.rfl _,.rfl _,.rfl _,.rfl _,.rfl _,.rfl _,.rfl _,zT⟩))
 refine cB (iQ=3) (fun h4=>?_) fun h4=>?_
 ·refine cK [] (Zg wL a.b fW) ?_
  rintro out A0 ⟨rfl,⟨rr23,rfl⟩⟩
  refine cK [] (Zf a.data bd) ?_;rintro out A0 ⟨rfl,⟨lb24,rfl,hlb24⟩⟩
  refine cK [] (Zc ⟨rr23,x.now,lb24⟩ bd) ?_;rintro out A0 ⟨mb25,me25,rfl,rfl,hmb25⟩
  exact xW hX (J1 ⟨3,nm,(replicate 32 0),0,0,0,mb25,tk,x.now,(replicate 32 0)⟩) (ho:=[(2,A1 [I9 (.sl 0 38 x.n fun i=>B2 (x.tg i)) x.s,.i .i64 x.now,.sl 4 1 x.m fun i=>.bl 0 (x.tk i),.i .i64 x.dr])]) ⟨_,_,rfl,rfl,rfl,J5.2,J5.1⟩ (hv:=vT (u:=A1 [.i .i64 3,.s nm,.bs 32 (replicate 32 0),.i .i64 0,.i .i64 0,.i .u8 0,.bl 0 mb25,.bl 0 tk,.i .i64 x.now,.bs 32 (replicate 32 0)]) (C4 ⟨.rfl _,.rfl _,.rfl _,.rfl _,.rfl _,.rfl _,.rfl _,.rfl _,.rfl _,.rfl _,zT⟩))
 refine cB (iQ=4) (fun h5=>?_) fun h5=>?_
 ·refine cK [] (IF wL a.b fW) ?_
  rintro out A0 ⟨rfl,⟨bx26,rfl,hbx26⟩⟩
  exact xW hX (J1 ⟨2,nm,bx26.of,0,0,0,[],tk,x.now,(replicate 32 0)⟩) (ho:=[(2,A1 [I9 (.sl 0 38 x.n fun i=>B2 (x.tg i)) x.s,.i .i64 x.now,.sl 4 1 x.m fun i=>.bl 0 (x.tk i),.i .i64 x.dr])]) ⟨_,_,rfl,rfl,rfl,J5.2,J5.1⟩ (hv:=vT (u:=A1 [.i .i64 2,.s nm,.bs 32 bx26.of,.i .i64 0,.i .i64 0,.i .u8 0,.bl 0 [],.bl 0 tk,.i .i64 x.now,.bs 32 (replicate 32 0)]) (C4 ⟨.rfl _,.rfl _,.rfl _,.rfl _,.rfl _,.rfl _,.rfl _,.rfl _,.rfl _,.rfl _,zT⟩))
 refine cB (iQ=5) (fun h6=>?_) fun h6=>?_
 ·exact xW hX (J1 ⟨4,nm,(replicate 32 0),0,0,0,[],tk,x.now,(replicate 32 0)⟩) (ho:=[(2,A1 [I9 (.sl 0 38 x.n fun i=>B2 (x.tg i)) x.s,.i .i64 x.now,.sl 4 1 x.m fun i=>.bl 0 (x.tk i),.i .i64 x.dr])]) ⟨_,_,rfl,rfl,rfl,J5.2,J5.1⟩ (hv:=vT (u:=A1 [.i .i64 4,.s nm,.bs 32 (replicate 32 0),.i .i64 0,.i .i64 0,.i .u8 0,.bl 0 [],.bl 0 tk,.i .i64 x.now,.bs 32 (replicate 32 0)]) (C4 ⟨.rfl _,.rfl _,.rfl _,.rfl _,.rfl _,.rfl _,.rfl _,.rfl _,.rfl _,.rfl _,zT⟩))
 refine cB (iQ=6) (fun h7=>?_) fun h7=>?_
 ·exact xW hX (J1 ⟨5,nm,(replicate 32 0),rX,0,0,[],tk,x.now,(replicate 32 0)⟩) (ho:=[(2,A1 [I9 (.sl 0 38 x.n fun i=>B2 (x.tg i)) x.s,.i .i64 x.now,.sl 4 1 x.m fun i=>.bl 0 (x.tk i),.i .i64 x.dr])]) ⟨_,_,rfl,rfl,rfl,J5.2,J5.1⟩ (hv:=vT (u:=A1 [.i .i64 5,.s nm,.bs 32 (replicate 32 0),.i .i64 rX,.i .i64 0,.i .u8 0,.bl 0 [],.bl 0 tk,.i .i64 x.now,.bs 32 (replicate 32 0)]) (C4 ⟨.rfl _,.rfl _,.rfl _,.rfl _,.rfl _,.rfl _,.rfl _,.rfl _,.rfl _,.rfl _,zT⟩))
 refine cB (iQ=7) (fun h8=>?_) fun h8=>?_
 ·exact xW hX (J1 ⟨6,nm,(replicate 32 0),rX,0,0,[],tk,x.now,(replicate 32 0)⟩) (ho:=[(2,A1 [I9 (.sl 0 38 x.n fun i=>B2 (x.tg i)) x.s,.i .i64 x.now,.sl 4 1 x.m fun i=>.bl 0 (x.tk i),.i .i64 x.dr])]) ⟨_,_,rfl,rfl,rfl,J5.2,J5.1⟩ (hv:=vT (u:=A1 [.i .i64 6,.s nm,.bs 32 (replicate 32 0),.i .i64 rX,.i .i64 0,.i .u8 0,.bl 0 [],.bl 0 tk,.i .i64 x.now,.bs 32 (replicate 32 0)]) (C4 ⟨.rfl _,.rfl _,.rfl _,.rfl _,.rfl _,.rfl _,.rfl _,.rfl _,.rfl _,.rfl _,zT⟩))
 refine cB (iQ=8) (fun h9=>?_) fun h9=>?_
 ·exact xW hX (J1 ⟨7,nm,(replicate 32 0),rX,0,0,[],tk,x.now,(replicate 32 0)⟩) (ho:=[(2,A1 [I9 (.sl 0 38 x.n fun i=>B2 (x.tg i)) x.s,.i .i64 x.now,.sl 4 1 x.m fun i=>.bl 0 (x.tk i),.i .i64 x.dr])]) ⟨_,_,rfl,rfl,rfl,J5.2,J5.1⟩ (hv:=vT (u:=A1 [.i .i64 7,.s nm,.bs 32 (replicate 32 0),.i .i64 rX,.i .i64 0,.i .u8 0,.bl 0 [],.bl 0 tk,.i .i64 x.now,.bs 32 (replicate 32 0)]) (C4 ⟨.rfl _,.rfl _,.rfl _,.rfl _,.rfl _,.rfl _,.rfl _,.rfl _,.rfl _,.rfl _,zT⟩))
 refine cB (iQ=9) (fun J7=>?_) fun J7=>?_
 ·exact xW hX (J1 ⟨8,nm,(replicate 32 0),rX,0,0,[],tk,x.now,(replicate 32 0)⟩) (ho:=[(2,A1 [I9 (.sl 0 38 x.n fun i=>B2 (x.tg i)) x.s,.i .i64 x.now,.sl 4 1 x.m fun i=>.bl 0 (x.tk i),.i .i64 x.dr])]) ⟨_,_,rfl,rfl,rfl,J5.2,J5.1⟩ (hv:=vT (u:=A1 [.i .i64 8,.s nm,.bs 32 (replicate 32 0),.i .i64 rX,.i .i64 0,.i .u8 0,.bl 0 [],.bl 0 tk,.i .i64 x.now,.bs 32 (replicate 32 0)]) (C4 ⟨.rfl _,.rfl _,.rfl _,.rfl _,.rfl _,.rfl _,.rfl _,.rfl _,.rfl _,.rfl _,zT⟩))
 refine cB (iQ=10) (fun P5=>?_) fun P5=>?_
 ·exact xW hX (J1 ⟨9,nm,(replicate 32 0),0,0,0,[],tk,x.now,(replicate 32 0)⟩) (ho:=[(2,A1 [I9 (.sl 0 38 x.n fun i=>B2 (x.tg i)) x.s,.i .i64 x.now,.sl 4 1 x.m fun i=>.bl 0 (x.tk i),.i .i64 x.dr])]) ⟨_,_,rfl,rfl,rfl,J5.2,J5.1⟩ (hv:=vT (u:=A1 [.i .i64 9,.s nm,.bs 32 (replicate 32 0),.i .i64 0,.i .i64 0,.i .u8 0,.bl 0 [],.bl 0 tk,.i .i64 x.now,.bs 32 (replicate 32 0)]) (C4 ⟨.rfl _,.rfl _,.rfl _,.rfl _,.rfl _,.rfl _,.rfl _,.rfl _,.rfl _,.rfl _,zT⟩))
 refine gR 1232 (A1 [.i .i64 0,.s nm,.bs 32 (replicate 32 0),.i .i64 0,.i .i64 0,.i .u8 0,.bl 1 [],.bl 0 tk,.i .i64 x.now,.bs 32 (replicate 32 0)]) (A1 [.i .i64 0,.s nm,.bs 32 (replicate 32 0),.i .i64 0,.i .i64 0,.i .u8 0,.bl 0 [],.bl 0 tk,.i .i64 x.now,.bs 32 (replicate 32 0)]) (xQ (C4 ⟨.rfl _,.rfl _,.rfl _,.rfl _,.rfl _,.rfl _,.fb _,.rfl _,.rfl _,.rfl _,zT⟩) rfl) ?_
 refine kH [(2,2),(1232,3),(4,4)] [2,1232] (Zj x hx a ha ⟨0,nm,(replicate 32 0),0,0,0,[],tk,x.now,(replicate 32 0)⟩) ?_;rintro out ho A0 ⟨rd27,ro27,rfl,rfl,rfl,hro27⟩
 exact xW hX (J1 ro27) (ho:=[(2,Q1 4 (⟨x.s,x.n,x.tg,x.now,x.m,x.tk,rd27⟩))]) ⟨_,_,rfl,rfl,rfl,by rw[hro27.1];exact J5.2,by rcases hro27.2 with h|h<;>rw[h]<;>first|exact J5.1|simp⟩
noncomputable def Zs (t:TypeId):V:=match zeroCells Tryz.prog t with|some C=>(wY Tryz.prog t C).getD .un|none=>.un
def bJ(i:Nat):ActT:=[⟨11,0,0,30,0,[]⟩,⟨11,0,1,9,0,[]⟩,⟨13,0,4,3,0,[]⟩,⟨13,0,4,7,0,[]⟩,⟨13,0,4,1,0,[]⟩,⟨0,0,0,0,0,[111,110,101]⟩,⟨0,0,0,0,0,[116,119,111]⟩,⟨2,0,0,4,0,[]⟩,⟨3,0,0,0,0,[102,105,114,115,116]⟩].getD i default
theorem nA{v:V}{x:ActT}(e:v=A1 [.i .i64 x.what,.i .i64 x.who,.i .i64 x.a,.i .i64 x.b,.i .i64 x.t,.bl 1 x.data]:=by kernel_rfl):VEn v (M9 x):=e▸.st _ _ _ fun i hi=>match i,hi with|0,_=>.rfl _|1,_=>.rfl _|2,_=>.rfl _|3,_=>.rfl _|4,_=>.rfl _|5,_=>.bl _
theorem Zt{f:Nat->V}(h0:VEn (f 0) (M9 (bJ 0)):=by exact nA)(h1:VEn (f 1) (M9 (bJ 1)):=by exact nA)(h2:VEn (f 2) (M9 (bJ 2)):=by exact nA)(h3:VEn (f 3) (M9 (bJ 3)):=by exact nA)(h4:VEn (f 4) (M9 (bJ 4)):=by exact nA)(h5:VEn (f 5) (M9 (bJ 5)):=by exact nA)(h6:VEn (f 6) (M9 (bJ 6)):=by exact nA)(h7:VEn (f 7) (M9 (bJ 7)):=by exact nA)(h8:VEn (f 8) (M9 (bJ 8)):=by exact nA):VEq (.sl 1 6 9 f) (.sl 1 6 9 fun i=>M9 (bJ i)):=
 .sn _ _ _ _ _ fun i hi=>match i,hi with|0,_=>h0|1,_=>h1|2,_=>h2|3,_=>h3|4,_=>h4|5,_=>h5|6,_=>h6|7,_=>h7|8,_=>h8
theorem Zu  :Sat Tryz.prog 7 [] [] (fun out A0=>A0=[]/\(out=.sl 1 6 9 fun i=>M9 (bJ i))):=by
 refine cF Tryz.func7 fun X0 w0 hX=>?_
 exact xW hX (.sl 1 6 9 fun i=>M9 (bJ i)) ⟨rfl,rfl,rfl⟩ (hv:=vT (u:=.sl 1 6 9 fun i=>bif beq i 8 then A1 [.i .i64 3,.i .i64 0,.i .i64 0,.i .i64 0,.i .i64 0,.bl 1 [102,105,114,115,116]] else bif beq i 7 then A1 [.i .i64 2,.i .i64 0,.i .i64 0,.i .i64 4,.i .i64 0,.bl 1 []] else bif beq i 6 then A1 [.i .i64 0,.i .i64 0,.i .i64 0,.i .i64 0,.i .i64 0,.bl 1 [116,119,111]] else bif beq i 5 then A1 [.i .i64 0,.i .i64 0,.i .i64 0,.i .i64 0,.i .i64 0,.bl 1 [111,110,101]] else bif beq i 4 then A1 [.i .i64 13,.i .i64 0,.i .i64 4,.i .i64 1,.i .i64 0,.bl 1 []] else bif beq i 3 then A1 [.i .i64 13,.i .i64 0,.i .i64 4,.i .i64 7,.i .i64 0,.bl 1 []] else bif beq i 2 then A1 [.i .i64 13,.i .i64 0,.i .i64 4,.i .i64 3,.i .i64 0,.bl 1 []] else bif beq i 1 then A1 [.i .i64 11,.i .i64 0,.i .i64 1,.i .i64 9,.i .i64 0,.bl 1 []] else bif beq i 0 then A1 [.i .i64 11,.i .i64 0,.i .i64 0,.i .i64 30,.i .i64 0,.bl 1 []] else (Zs 76)) Zt)
end Go.Proofs.YtibmfodphlmnfaaGreatDoor
