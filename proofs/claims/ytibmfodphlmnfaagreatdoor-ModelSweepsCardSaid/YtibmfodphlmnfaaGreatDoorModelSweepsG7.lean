/- Lemmas for the statement ModelSweeps, part 7: rules of operations, walks through functions, plain laws. -/
import Derived.Test.YtibmfodphlmnfaaGreatDoorModelSweepsG6
set_option maxRecDepth 100000
set_option linter.all false
namespace Go.Proofs.YtibmfodphlmnfaaGreatDoor
open Go
open Go.IntKind (i64 u64 u8 u32)
open List (replicate)
open Nat (beq blt)
open BitVec (ofInt)
variable {now:Int} {cs:List Value} {fuel i j m o:Nat} {α:Type} {e:TypeId} {x:Value}
structure StN where
 s:StaR
 n:Nat
 tg:Nat->TenR
structure AnsT where
 c:Int
 b:By
def cX(x:StN):V:=I9 (.sl 0 38 x.n fun i=>B2 (x.tg i)) x.s
def bK(x:AnsT):V:=A1 [.i .i64 x.c,.bl 0 x.b]
def TaleR.st(x:TaleR):StN:=⟨x.s,x.n,x.tg⟩
structure StpQ (o:OpT) (x y:StN) (a:AnsT):Prop where
 p:StepP o x.s y.s x.n y.n x.tg y.tg a.c a.b
 ok:SOk x.s x.n x.tg
def RunI(m:Nat)(gs:Nat->StN)(go:Nat->OpT)(ga:Nat->AnsT)(z:StN):Prop:=∀j,j<m->StpQ (go j) (gs j) (J8 m gs z (j+1)) (ga j)
theorem CH{g:Nat->α}{z:α}(h:j<m):J8 m g z j=g j:=by unfold J8;rw[show blt j m=true from by rw[A8];exact h];rfl
theorem CI{g:Nat->α}{z:α}:J8 m g z m=z:=by unfold J8;rw[show blt m m=false from by rw[<-Bool.not_eq_true,A8];omega];rfl
instance:Inhabited StN:=⟨⟨⟨[],0,0,0,fun _=>0,0,fun _=>default,[]⟩,0,fun _=>default⟩⟩
instance:Inhabited OpT:=⟨⟨0,[],[],0,0,0,[],[],0,[]⟩⟩
instance:Inhabited AnsT:=⟨⟨0,[]⟩⟩
theorem RunI.fin{gs:Nat->StN}{go:Nat->OpT}{ga:Nat->AnsT}{z:StN}(h:RunI m gs go ga z):∀j,j<m->StpQ (go j) (J8 m gs z j) (J8 m gs z (j+1)) (ga j):=fun j hj=>by rw[CH hj];exact h j hj
theorem RunI.snoc{gs:Nat->StN}{go:Nat->OpT}{ga:Nat->AnsT}{z z1 z2:StN}{o:OpT}{a:AnsT}(h:RunI m gs go ga z)(e:z1=z)(hs:StpQ o z1 z2 a):RunI (m+1) (J8 m gs z1) (J8 m go o) (J8 m ga a) z2:=fun j hj=>by
 subst e
 by_cases h1:j<m
 ·rw[CH h1,CH h1,CH h1,CH (show j+1<m+1 by omega)];exact h j h1
 obtain rfl:j=m:=by omega
 rw[CI,CI,CI,CI];exact hs
theorem Zv(x:TaleR)(hx:TaO x)(a:ActT):SatHM Tryz.prog false 17 [.pr 2 0 [],M9 a] [4] [(2,Q1 4 x)] (fun out ho A0=>∃y,out=A2 []/\ho=[(2,Q1 4 y)]/\A0=[4]/\TaO y/\y.st=x.st):=
 (Zk x a).mono fun _ _ _ ⟨_,h1,h2,h3⟩=>⟨_,h1,h2,h3,⟨hx.ok,hx.hm,hx.ht⟩,rfl⟩
theorem Zw(x:TaleR)(hx:TaO x)(a:ActT)(ha:a.data.length<=4096):SatHM Tryz.prog false 18 [.pr 2 0 [],M9 a] [4] [(2,Q1 4 x)] (fun out ho A0=>∃p y,out=.b p/\ho=[(2,Q1 16 y)]/\A0=[16]/\TaO y/\y.st=x.st):=
 (Zp x hx a ha).mono fun _ _ _ ⟨p,_,_,h1,h2,h3,h4,h5⟩=>⟨p,_,h1,h2,h3,⟨hx.ok,h4,h5⟩,rfl⟩
theorem Zx(x:TaleR)(hx:TaO x)(a:ActT)(ha:a.data.length<=4096):SatHM Tryz.prog false 19 [.pr 2 0 [],M9 a] [4] [(2,Q1 4 x)] (fun out ho A0=>∃y o,out=J1 o/\ho=[(2,Q1 4 y)]/\A0=[4]/\TaO y/\y.st=x.st/\o.token.length<=20000/\o.tenant.length<=4):=
 (Zr x hx a ha).mono fun _ _ _ ⟨_,o,h1,h2,h3,h4,h5⟩=>⟨_,o,h1,h2,h3,⟨hx.ok,hx.hm,hx.ht⟩,rfl,h4,h5⟩
theorem Zy(x:TaleR)(hx:TaO x)(o:OpT)(s:StaR)(n:Nat)(tg:Nat->TenR)(c:Int)(b:By)(hS:SOk s n tg)(hb:o.do=12->b.length<=20000)(S2:b.length<=4000000000):SatHM Tryz.prog false 20 [.pr 2 0 [],J1 o,I9 (.sl 0 38 n fun i=>B2 (tg i)) s,A1 [.i .i64 c,.bl 0 b]] [4] [(2,Q1 4 x)] (fun out ho A0=>∃y,out=A2 []/\ho=[(2,Q1 16 y)]/\A0=[16]/\TaO y/\y.st=⟨s,n,tg⟩):=
 (Zo x hx.hm hx.ht o s n tg c b hb S2).mono fun _ _ _ ⟨_,_,h1,h2,h3,h4,h5⟩=>⟨_,h1,h2,h3,⟨hS,h4,h5⟩,rfl⟩
theorem Zz(d:Int)(n:Nat)(g:Nat->ActT)(hn:n<=60)(hg:∀i,i<n->(g i).data.length<=4096):SatM Tryz.prog true 6 [.i .i64 d,.sl 0 6 n fun i=>M9 (g i)] [] (fun out ho A0=>∃(m:Nat) (gs:Nat->StN) (go:Nat->OpT) (ga:Nat->AnsT),out=A1 [.sl 0 69 (m+1) fun i=>cX (gs i),.sl 0 72 m fun i=>J1 (go i),.sl 0 2 m fun i=>bK (ga i),.uk 1]/\ho=[]/\A0=[]/\m<=60/\∀j,j<m->StpQ (go j) (gs j) (gs (j+1)) (ga j)):=by
 refine fM true Tryz.func6 fun X0 w0 hX hm=>?_
 refine kO [] (Zq d) ?_;rintro out ho A0 ⟨y0,rfl,rfl,rfl,hy0,hyn,hyl⟩
 refine cL hX (fun(p:Nat×Nat×(Nat->StN)×(Nat->OpT)×(Nat->AnsT)×TaleR)=>[(1,.sl 0 6 n fun i=>M9 (g i)),(4,.pr 16 0 []),(5,.pr 160 0 []),(6,.pr 400 0 []),(7,.i .i64 (p.1:Int))]) (fun(p:Nat×Nat×(Nat->StN)×(Nat->OpT)×(Nat->AnsT)×TaleR)=>[(16,A1 [.sl 1 69 0 fun _=>.un,.sl 1 72 0 fun _=>.un,.sl 1 2 0 fun _=>.un,.np]),(160,Q1 20 p.2.2.2.2.2),(400,A1 [.sl 21 69 p.2.1 fun i=>cX (p.2.2.1 i),.sl 22 72 p.2.1 fun i=>J1 (p.2.2.2.1 i),.sl 23 2 p.2.1 fun i=>bK (p.2.2.2.2.1 i),.pr 160 0 []])]) (fun(p:Nat×Nat×(Nat->StN)×(Nat->OpT)×(Nat->AnsT)×TaleR)=>p.1<=n/\p.2.1<=p.1/\TaO p.2.2.2.2.2/\RunI p.2.1 p.2.2.1 p.2.2.2.1 p.2.2.2.2.1 p.2.2.2.2.2.st) (fun(p:Nat×Nat×(Nat->StN)×(Nat->OpT)×(Nat->AnsT)×TaleR)=>n-p.1) [(161,20)] [20,21,22,23] 592 (0,0,fun _=>default,fun _=>default,fun _=>default,y0) ⟨L8 _,B3 _,hy0,fun j hj=>absurd hj (U2 j)⟩ ⟨v0,v0,v0,v0,v0,zT⟩ ⟨v0,v0,(vT (u:=A1 [.sl 21 69 0 fun _=>.un,.sl 22 72 0 fun _=>.un,.sl 23 2 0 fun _=>.un,.pr 160 0 []]) (C4 ⟨vN,vN,vN,.rfl _,zT⟩)),zT⟩ ?_;rintro⟨k,m,gs,go,ga,x⟩ U6 R hR
 dsimp only at U6
 refine cB ((k:Int)<(n:Int)) (fun h1=>?_) fun h1=>?_
 ·refine cC ((0:Int)<=(k:Int)/\(k:Int)<(n:Int)) ?_
  refine kH [(160,2),(20,4)] [160] (Zv x U6.2.2.1 (g k)) ?_;rintro out ho A0 ⟨y1,rfl,rfl,rfl,hy1,qP⟩
  refine cC ((0:Int)<=(k:Int)/\(k:Int)<(n:Int)) ?_;refine kH [(160,2),(20,4)] [160] (Zw y1 hy1 (g k) (hg _ zO)) ?_;rintro out ho A0 ⟨pl2,y2,rfl,rfl,rfl,hy2,jU⟩
  refine cb (pl2) (fun h2=>?_) fun h2=>?_
  ·exact cR (R:=R) hX [(1568,20),(21,21),(22,22),(23,23)] (hR (k+1,m,gs,go,ga,y2) ⟨by dsimp only;omega,by dsimp only;omega,hy2,by dsimp only;rw[jU.trans qP];exact U6.2.2.2⟩ (by dsimp only;omega)) ⟨v0,v0,v0,v0,(vS bd),zT⟩ ⟨v0,v0,v0,zT⟩
  refine cC ((0:Int)<=(k:Int)/\(k:Int)<(n:Int)) ?_
  refine kH [(160,2),(1568,4)] [160] (Zx y2 hy2 (g k) (hg _ zO)) ?_;rintro out ho A0 ⟨y3,o3,rfl,rfl,rfl,rY,hz3,hot3,hon3⟩
  refine jA 3 7056 (fun(p:StN×AnsT)=>[(1,.sl 0 6 n fun i=>M9 (g i)),(4,.pr 16 0 []),(5,.pr 160 0 []),(6,.pr 400 0 []),(7,.i .i64 (k:Int)),(8,.pr 2000 0 []),(9,.pr 2704 0 []),(10,.pr 2768 0 [])]) (fun(p:StN×AnsT)=>[(16,A1 [.sl 1 69 0 fun _=>.un,.sl 1 72 0 fun _=>.un,.sl 1 2 0 fun _=>.un,.np]),(160,Q1 1568 y3),(400,A1 [.sl 21 69 m fun i=>cX (gs i),.sl 22 72 m fun i=>J1 (go i),.sl 23 2 m fun i=>bK (ga i),.pr 160 0 []]),(2000,J1 o3),(2704,cX p.1),(2768,bK p.2)]) (fun(p:StN×AnsT)=>StepP o3 y3.s p.1.s y3.n p.1.n y3.tg p.1.tg p.2.c p.2.b) [21,22,23,1568] (fun R hR i hi=>?_) ?_
  ·match i,hi with
  |0,_=>
    refine kM (fun _=>hm rfl) [] (CC y3.s o3 y3.n y3.tg rY.ok zO zO) ?_;rintro out ho A0 ⟨c4,b4,s4,n4,tg4,rfl,rfl,rfl,hst4⟩
    refine gZ 2464 ?_;refine gZ 2465 ?_;refine gZ 2466 ?_;refine L4 2 zK fun i hi=>?_
    match i,hi with
   |0,_=>
     exact cR (R:=R) hX [(1568,1568),(21,21),(22,22),(23,23)] (hR (⟨s4,n4,tg4⟩,⟨c4,b4⟩) hst4) ⟨v0,v0,v0,v0,v0,v0,v0,v0,zT⟩ ⟨v0,v0,v0,v0,v0,v0,zT⟩
   |1,_=>
     exact cR (R:=R) hX [(2768,2704),(2704,2768),(1568,1568),(21,21),(22,22),(23,23)] (hR (⟨s4,n4,tg4⟩,⟨c4,b4⟩) hst4) ⟨v0,v0,v0,v0,v0,v0,v0,v0,zT⟩ ⟨v0,v0,v0,v0,v0,v0,zT⟩
  |1,_=>
    refine L4 2 zK fun i hi=>?_
    match i,hi with
   |0,_=>
     refine kM (fun _=>hm rfl) [] (CC y3.s o3 y3.n y3.tg rY.ok zO zO) ?_;rintro out ho A0 ⟨c5,b5,s5,n5,tg5,rfl,rfl,rfl,hst5⟩
     refine gZ 2528 ?_;refine gZ 2529 ?_;refine gZ 2530 ?_;exact cR (R:=R) hX [(2448,2704),(1568,1568),(21,21),(22,22),(23,23)] (hR (⟨s5,n5,tg5⟩,⟨c5,b5⟩) hst5) ⟨v0,v0,v0,v0,v0,v0,v0,v0,zT⟩ ⟨v0,v0,v0,v0,v0,v0,zT⟩
   |1,_=>
     refine kM (fun _=>hm rfl) [] (CC y3.s o3 y3.n y3.tg rY.ok zO zO) ?_;rintro out ho A0 ⟨c6,b6,s6,n6,tg6,rfl,rfl,rfl,hst6⟩
     refine gZ 2592 ?_;refine gZ 2593 ?_;refine gZ 2594 ?_;exact cR (R:=R) hX [(2448,2704),(2512,2768),(1568,1568),(21,21),(22,22),(23,23)] (hR (⟨s6,n6,tg6⟩,⟨c6,b6⟩) hst6) ⟨v0,v0,v0,v0,v0,v0,v0,v0,zT⟩ ⟨v0,v0,v0,v0,v0,v0,zT⟩
  |2,_=>
    refine L4 2 zK fun i hi=>?_
    match i,hi with
   |0,_=>
     refine kM (fun _=>hm rfl) [] (CC y3.s o3 y3.n y3.tg rY.ok zO zO) ?_;rintro out ho A0 ⟨c7,b7,s7,n7,tg7,rfl,rfl,rfl,hst7⟩
     refine gZ 2528 ?_;refine gZ 2529 ?_;refine gZ 2530 ?_;exact cR (R:=R) hX [(2768,2704),(2448,2768),(1568,1568),(21,21),(22,22),(23,23)] (hR (⟨s7,n7,tg7⟩,⟨c7,b7⟩) hst7) ⟨v0,v0,v0,v0,v0,v0,v0,v0,zT⟩ ⟨v0,v0,v0,v0,v0,v0,zT⟩
   |1,_=>
     refine kM (fun _=>hm rfl) [] (CC y3.s o3 y3.n y3.tg rY.ok zO zO) ?_;rintro out ho A0 ⟨c8,b8,s8,n8,tg8,rfl,rfl,rfl,hst8⟩
     refine gZ 2592 ?_;refine gZ 2593 ?_;refine gZ 2594 ?_;exact cR (R:=R) hX [(2512,2704),(2448,2768),(1568,1568),(21,21),(22,22),(23,23)] (hR (⟨s8,n8,tg8⟩,⟨c8,b8⟩) hst8) ⟨v0,v0,v0,v0,v0,v0,v0,v0,zT⟩ ⟨v0,v0,v0,v0,v0,v0,zT⟩
  rintro⟨z,a⟩ H9
  refine jA 3 12688 (fun(u:Unit)=>[(1,.sl 0 6 n fun i=>M9 (g i)),(4,.pr 16 0 []),(5,.pr 160 0 []),(6,.pr 400 0 []),(7,.i .i64 (k:Int)),(8,.pr 2000 0 []),(9,.pr 2704 0 []),(10,.pr 2768 0 [])]) (fun(u:Unit)=>[(16,A1 [.sl 1 69 0 fun _=>.un,.sl 1 72 0 fun _=>.un,.sl 1 2 0 fun _=>.un,.np]),(160,Q1 1568 y3),(400,A1 [.sl 7888 69 (m+1) fun i=>bif blt i m then cX (gs i) else I9 (.sl 0 38 y3.n fun i=>B2 (y3.tg i)) y3.s,.sl 8080 72 (m+1) fun i=>bif blt i m then J1 (go i) else J1 o3,.sl 8208 2 (m+1) fun i=>bif blt i m then bK (ga i) else bK a,.pr 160 0 []]),(2000,J1 o3),(2704,cX z),(2768,bK a)]) (fun(u:Unit)=>True) [1568,7888,8080,8208] (fun R hR i hi=>?_) ?_
  ·match i,hi with
  |0,_=>
    refine L4 3 zK fun i hi=>?_
    match i,hi with
   |0,_=>
     refine cC ((m+1)*152<=140737488355328) ?_;refine L4 2 zK fun i hi=>?_
     match i,hi with
    |0,_=>
      refine L4 2 zK fun i hi=>?_
      match i,hi with
     |0,_|1,_=>
       refine cC ((m+1)*168<=140737488355328) ?_;refine cC ((m+1)*32<=140737488355328) ?_;exact cA hX (hR () zT)
    |1,_=>
      refine cC ((m+1)*168<=140737488355328) ?_;refine cC ((m+1)*32<=140737488355328) ?_;exact cA (R:=R) hX (hR () zT)
   |1,_=>
     refine L4 2 zK fun i hi=>?_
     match i,hi with
    |0,_=>
      refine cC ((m+1)*152<=140737488355328) ?_;refine L4 2 zK fun i hi=>?_
      match i,hi with
     |0,_|1,_=>
       refine cC ((m+1)*168<=140737488355328) ?_;refine cC ((m+1)*32<=140737488355328) ?_;exact cA hX (hR () zT)
    |1,_=>
      refine cC ((m+1)*152<=140737488355328) ?_;refine cC ((m+1)*168<=140737488355328) ?_;refine cC ((m+1)*32<=140737488355328) ?_;exact cA hX (hR () zT)
   |2,_=>
     refine L4 2 zK fun i hi=>?_
     match i,hi with
    |0,_=>
      refine cC ((m+1)*152<=140737488355328) ?_;refine cC ((m+1)*168<=140737488355328) ?_;refine cC ((m+1)*32<=140737488355328) ?_;exact cA (R:=R) hX (hR () zT)
    |1,_=>
      refine cC ((m+1)*152<=140737488355328) ?_;refine cC ((m+1)*168<=140737488355328) ?_;refine cC ((m+1)*32<=140737488355328) ?_;exact cA (R:=R) hX (hR () zT) (hS:=⟨v0,v0,v0,v0,v0,v0,v0,v0,zT⟩) (hH:=⟨v0,v0,v0,v0,v0,v0,zT⟩)
  |1,_=>
    refine L4 2 zK fun i hi=>?_
    match i,hi with
   |0,_=>
     refine L4 2 zK fun i hi=>?_
     match i,hi with
    |0,_=>
      refine cC ((m+1)*152<=140737488355328) ?_;refine L4 2 zK fun i hi=>?_
      match i,hi with
     |0,_|1,_=>
       refine cC ((m+1)*168<=140737488355328) ?_;refine cC ((m+1)*32<=140737488355328) ?_;exact cA hX (hR () zT)
    |1,_=>
      refine cC ((m+1)*152<=140737488355328) ?_;refine cC ((m+1)*168<=140737488355328) ?_;refine cC ((m+1)*32<=140737488355328) ?_;exact cA hX (hR () zT)
   |1,_=>
     refine cC ((m+1)*152<=140737488355328) ?_;refine cC ((m+1)*168<=140737488355328) ?_;refine cC ((m+1)*32<=140737488355328) ?_;exact cA (R:=R) hX (hR () zT)
  |2,_=>
    refine L4 2 zK fun i hi=>?_
    match i,hi with
   |0,_=>
     refine L4 2 zK fun i hi=>?_
     match i,hi with
    |0,_|1,_=>
      refine cC ((m+1)*152<=140737488355328) ?_;refine cC ((m+1)*168<=140737488355328) ?_;refine cC ((m+1)*32<=140737488355328) ?_;exact cA hX (hR () zT)
   |1,_=>
     refine cC ((m+1)*152<=140737488355328) ?_;refine cC ((m+1)*168<=140737488355328) ?_;refine cC ((m+1)*32<=140737488355328) ?_;exact cA hX (hR () zT)
  rintro u hJ
  refine kH [(160,2),(1568,4)] [160] (Zy y3 rY o3 z.s z.n z.tg a.c a.b (H9.ok rY.ok) H9.bl.2 H9.bl.1) ?_;rintro out ho A0 ⟨y9,rfl,rfl,rfl,hy9,hz9⟩
  exact cA hX (hR (k+1,m+1,J8 m gs (TaleR.st y3),J8 m go o3,J8 m ga a,y9) ⟨by dsimp only;omega,by dsimp only;omega,hy9,by dsimp only;rw[hz9];exact U6.2.2.2.snoc (hz3.trans (jU.trans qP)) ⟨H9,rY.ok⟩⟩ (by dsimp only;omega)) (hS:=⟨v0,v0,v0,v0,(vS bd),zT⟩) (hH:=⟨v0,v0,(vT (u:=A1 [.sl 21 69 (m+1) fun i=>bif blt i m then cX (gs i) else I9 (.sl 0 38 y3.n fun i=>B2 (y3.tg i)) y3.s,.sl 22 72 (m+1) fun i=>bif blt i m then J1 (go i) else J1 o3,.sl 23 2 (m+1) fun i=>bif blt i m then bK (ga i) else bK a,.pr 160 0 []]) (C4 ⟨uN (e:=cX),uN (e:=J1),uN (e:=bK),.rfl _,zT⟩)),zT⟩)
 refine cC ((m+1)*152<=140737488355328) ?_
 exact xW hX (A1 [.sl 0 69 (m+1) fun i=>cX (J8 m gs x.st i),.sl 0 72 m fun i=>J1 (go i),.sl 0 2 m fun i=>bK (ga i),.uk 1]) ⟨m,J8 m gs x.st,go,ga,rfl,rfl,rfl,zO,U6.2.2.2.fin⟩ (hv:=vT (u:=A1 [.sl 0 69 (m+1) fun i=>bif blt i m then cX (gs i) else I9 (.sl 0 38 x.n fun i=>B2 (x.tg i)) x.s,.sl 0 72 m fun i=>J1 (go i),.sl 0 2 m fun i=>bK (ga i),.uk 1]) (C4 ⟨(uN (e:=cX)),.rfl _,.rfl _,.rfl _,zT⟩))
def nB(tk:By):OpT:=⟨17,[],replicate 32 0,0,0,0,[],tk,0,replicate 32 0⟩
theorem Ba(s:StaR)(n:Nat)(tg:Nat->TenR)(hn:n=0)(hB:StB s n tg):SatM Tryz.prog false 25 [I9 (.sl 0 38 n fun i=>B2 (tg i)) s] [] (fun out ho A0=>out=yT 16 s/\ho=yU 16 (.ar 38 n fun i=>B2 (tg i)) s/\A0=[16,17,18]):=
 (Af s n tg 0 hB).mono fun _ _ _ h=>h.elim (fun h=>absurd h.1 zO) fun h=>h.2
theorem a0a  :Sat Tryz.prog 62 [.s []] [] (fun out A0=>A0=[]/\(out=.b false)):=by
 refine cF Tryz.func62 fun X0 w0 hX=>?_
 refine O6 ((0:Int)<1) (by decide) ?_;exact xW hX (.b false) ⟨rfl,rfl,rfl⟩
theorem Bb(tk:By):Sat Tryz.prog 27 [J1 (nB tk)] [] (fun out A0=>A0=[]/\(out=.b true)):=by
 refine cF Tryz.func27 fun X0 w0 hX=>?_
 refine E5 ((17:Int)<1) (by decide) ?_;refine E5 (17<(17:Int)) (by decide) ?_;refine E5 ((0:Int)<0) (by decide) ?_;refine E5 ((0:Int)<0) (by decide) ?_;refine E5 ((0:Int)<0) (by decide) ?_;refine E5 (4096<(0:Int)) (by decide) ?_;refine cK [] (Yp) ?_;rintro out A0 ⟨rfl,rfl⟩
 refine kS (true) rfl ?_;refine E5 ((17:Int)=12) (by decide) ?_;refine E5 ((17:Int)=13) (by decide) ?_;refine E5 ((17:Int)=16) (by decide) ?_;refine cK [] (a0a) ?_;rintro out A0 ⟨rfl,rfl⟩
 refine FU (false) rfl ?_;refine O6 (([]:By)=[]) (by decide) ?_;exact xW hX (.b true) ⟨rfl,rfl,rfl⟩ (hv:=vT (u:=.b (decide ((17:Int)=17))) v0)
theorem a0b(s:StaR)(m:Int)(n:Nat)(tg:Nat->TenR)(hn:n=0)(hr:s.nr=0)(hk:s.root.length=32):SatHM Tryz.prog false 28 [.pr 2 0 []] [4,5,6] (gW s (nB (mZ (S7 s.root))) m n tg) (fun out ho A0=>∃m2,out=A1 [.i .i64 0,.bl 0 []]/\ho=gW s (nB (mZ (S7 s.root))) m2 n tg/\A0=[4,5,6]):=by
 refine fH false Tryz.func28 fun X0 w0 hX hm=>?_
 refine E5 (((mZ (S7 s.root)).length:Int)=0) (by unfold mZ;simp only[C9,I4];omega) ?_;refine cK [] (Yj (S7 s.root) Aq) ?_;rintro out A0 ⟨rfl,rfl⟩
 refine E5 ((0:Int)≠0) (by decide) ?_;refine cK [] (Yl s.root (by assumption)) ?_;rintro out A0 ⟨rfl,rfl⟩
 refine E5 ((0:Int)≠0) (by decide) ?_;refine L5 (BS s.nr s.gr 0 bd) ?_;rintro out A0 ⟨rfl,⟨J9,dJ,rfl,oB,iM⟩⟩
 refine⟨rfl,?_⟩
 refine cb (dJ) (fun h1=>?_) fun h1=>?_
 ·exact absurd (iM (by assumption)) zO
 refine cK [] (Yn) ?_
 rintro out A0 ⟨rfl,rfl⟩
 refine cK [] (Au (S7 s.root)) ?_;rintro out A0 ⟨rfl,rfl⟩
 refine cK [] (Yo) ?_;rintro out A0 ⟨rfl,rfl⟩
 refine kS (true) rfl ?_;refine FT (([]:By)=[]) (by decide) ?_;refine L5 (NL n tg [] bd) ?_;rintro out A0 ⟨rfl,⟨bp1,rfl,hbp1⟩⟩
 refine⟨rfl,?_⟩
 refine cb (bp1) (fun h2=>?_) fun h2=>?_
 ·exact absurd (hbp1.ok (by assumption)).1 zO
 refine E5 ((17:Int)=10) (by decide) ?_
 refine E5 ((17:Int)=13) (by decide) ?_;refine E5 ((17:Int)=16) (by decide) ?_;refine O6 ((17:Int)=17) (by decide) ?_;refine cK [] (E6 0) ?_;rintro out A0 ⟨rfl,rfl⟩
 exact xW hX (A1 [.i .i64 0,.bl 0 []]) ⟨0,rfl,rfl,rfl⟩
theorem a0c(s:StaR)(m:Int)(n:Nat)(tg:Nat->TenR)(hn:n=0)(hr:s.nr=0)(hk:s.root.length=32):SatHM Tryz.prog false 28 [.pr 2 0 []] [4,5,6] (gW s (nB []) m n tg) (fun out ho A0=>∃m2,out=A1 [.i .i64 401,.bl 0 []]/\ho=gW s (nB []) m2 n tg/\A0=[4,5,6]):=by
 refine fH false Tryz.func28 fun X0 w0 hX hm=>?_
 refine O6 ((0:Int)=0) (by decide) ?_;refine cK [] (E6 401) ?_;rintro out A0 ⟨rfl,rfl⟩
 exact xW hX (A1 [.i .i64 401,.bl 0 []]) ⟨m,rfl,rfl,rfl⟩
theorem a0d(s:StaR)(tk:By)(m:Int)(n:Nat)(tg:Nat->TenR)(hh:s.head.length=32):SatHM Tryz.prog false 29 [.pr 2 0 []] [4,5,6] (gW s (nB tk) m n tg) (fun out ho A0=>∃b,out=A1 [.i .i64 200,.bl 0 b]/\ho=gW s (nB tk) m n tg/\A0=[4,5,6]/\b.length=32):=by
 refine fH false Tryz.func29 fun X0 w0 hX hm=>?_
 refine mM fV true ?_;refine E5 ((17:Int)=1) (by decide) ?_;refine E5 ((17:Int)=2) (by decide) ?_;refine E5 ((17:Int)=3) (by decide) ?_;refine E5 ((17:Int)=4) (by decide) ?_;refine E5 ((17:Int)=5) (by decide) ?_;refine E5 ((17:Int)=6) (by decide) ?_;refine E5 ((17:Int)=7) (by decide) ?_;refine E5 ((17:Int)=8) (by decide) ?_;refine E5 ((17:Int)=9) (by decide) ?_;refine E5 ((17:Int)=10) (by decide) ?_;refine E5 ((17:Int)=11) (by decide) ?_;refine E5 ((17:Int)=12) (by decide) ?_;refine E5 ((17:Int)=13) (by decide) ?_;refine E5 ((17:Int)=14) (by decide) ?_;refine E5 ((17:Int)=15) (by decide) ?_;refine E5 ((17:Int)=16) (by decide) ?_;refine kB (HY ((s.head.drop 0).take 32) (by simp only[F6,K5];omega) bd) ?_;rintro out ho A0 ⟨rfl,rfl,rfl⟩
 refine⟨⟨rfl,CA trivial⟩,?_⟩
 refine gZ 2912 ?_;refine cK [] (kV ((s.head.drop 0).take 32)) ?_;rintro out A0 ⟨rfl,rfl⟩
 exact xW hX (A1 [.i .i64 200,.bl 0 ((s.head.drop 0).take 32)]) ⟨_,rfl,rfl,rfl,by simp only[F6,K5];omega⟩
def aG(s:StaR)(e:Ent)(h:By):StaR:=⟨s.root,s.delay,s.serial,s.nr,s.gr,s.nl+1,J8 s.nl s.gl e,h⟩
theorem a0e(s:StaR)(n:Nat)(tg:Nat->TenR)(hn:n=0)(hnr:s.nr=0)(hl:s.nl<=10)(hg:∀i,i<s.nl->(s.gl i).tenant.length<=100):SatM Tryz.prog false 15 [I9 (.sl 0 38 n fun i=>B2 (tg i)) s,J1 (nB (mZ (S7 s.root)))] [] (fun out ho A0=>∃(b:By) (e:Ent) (h:By),out=A2 [yT 16 (aG s e h),A1 [.i .i64 200,.bl 0 b]]/\ho=yU 16 (rT n tg) (aG s e h)/\A0=[]/\b.length=32/\e.seq=s.nl/\e.tenant.length<=100):=by
 refine fM false Tryz.func15 fun X0 w0 hX hm=>?_
 refine rS 0 fun hv=>?_
 have hk:s.root.length=32:=hv 0 (show 0<7 by decide)
 have hh:s.head.length=32:=hv 6 (show 6<7 by decide)
 have hB:StB s n tg:=⟨zO,zO,zO,fun i hi=>absurd hi zO,fun i hi=>absurd hi zO⟩
 refine kO [] (Ba s n tg hn hB) ?_;rintro out ho A0 ⟨rfl,rfl,rfl⟩
 refine cB (4096<=(s.nl:Int)) (fun h1=>?_) fun h1=>?_
 ·exact absurd h1 zO
 refine cK [] (Bb (mZ (S7 s.root))) ?_
 rintro out A0 ⟨rfl,rfl⟩
 refine kS (true) rfl ?_;refine kH [(1232,2),(400,3),(352,4),(353,5),(354,6)] [1232,400,352,353,354] (a0b s 0 n tg hn hnr hk) ?_;rintro out ho A0 ⟨m0,rfl,rfl,rfl⟩
 refine O6 ((0:Int)=0) (by decide) ?_;refine kH [(1232,2),(400,3),(352,4),(353,5),(354,6)] [1232,400,352,353,354] (a0d s (mZ (S7 s.root)) m0 n tg hh) ?_;rintro out ho A0 ⟨b1,rfl,rfl,rfl,N6⟩
 refine cK [] (pX s.head ⟨(s.nl:Int),0,m0,[],17,200,(replicate 32 0)⟩ bd) ?_;rintro out A0 ⟨rfl,⟨wG,le2,rfl⟩⟩
 refine cC ((s.nl+1)*88<=140737488355328) ?_;refine jA 2 8656 (fun(u:Unit)=>[(4,.pr 144 0 []),(5,.pr 208 0 [])]) (fun(u:Unit)=>[(144,A1 [.bs 32 s.root,.i .i64 s.delay,.i .u64 s.serial,.os 352 38,.os 353 1,.os 4112 38,.bs 32 wG]),(352,rT n tg),(353,rR s),(4112,.ar 38 (s.nl+1) fun i=>bif blt i s.nl then H7 (s.gl i) else A1 [.i .i64 (s.nl:Int),.i .i64 0,.i .u64 m0,.s [],.i .i64 17,.i .i64 200,.bs 32 (replicate 32 0)]),(208,A1 [.i .i64 200,.bl 0 b1])]) (fun(u:Unit)=>True) [352,353,4112] (fun R hR i hi=>?_) ?_
 ·match i,hi with
 |0,_|1,_=>
   exact cA hX (hR () zT)
 rintro u hJ
 exact xW hX (A2 [A1 [.bs 32 s.root,.i .i64 s.delay,.i .u64 s.serial,.os 16 38,.os 17 1,.os 18 38,.bs 32 wG],A1 [.i .i64 200,.bl 0 b1]]) ⟨b1,⟨(s.nl:Int),0,m0,[],17,200,(replicate 32 0)⟩,wG,rfl,rfl,rfl,by assumption,rfl,by simp⟩ (hH:=⟨v0,v0,(vT (u:=.ar 38 (s.nl+1) fun i=>bif blt i s.nl then H7 (s.gl i) else A1 [.i .i64 (s.nl:Int),.i .i64 0,.i .u64 m0,.s [],.i .i64 17,.i .i64 200,.bs 32 (replicate 32 0)]) ((jO (e:=H7)))),zT⟩)
theorem a0f(s:StaR)(n:Nat)(tg:Nat->TenR)(hn:n=0)(hnr:s.nr=0)(hl:s.nl<=10)(hg:∀i,i<s.nl->(s.gl i).tenant.length<=100):SatM Tryz.prog false 15 [I9 (.sl 0 38 n fun i=>B2 (tg i)) s,J1 (nB [])] [] (fun out ho A0=>∃(b:By) (e:Ent) (h:By),out=A2 [yT 16 (aG s e h),A1 [.i .i64 401,.bl 0 b]]/\ho=yU 16 (rT n tg) (aG s e h)/\A0=[]/\b=[]/\e.seq=s.nl/\e.tenant.length<=100):=by
 refine fM false Tryz.func15 fun X0 w0 hX hm=>?_
 refine rS 0 fun hv=>?_
 have hk:s.root.length=32:=hv 0 (show 0<7 by decide)
 have hh:s.head.length=32:=hv 6 (show 6<7 by decide)
 have hB:StB s n tg:=⟨zO,zO,zO,fun i hi=>absurd hi zO,fun i hi=>absurd hi zO⟩
 refine kO [] (Ba s n tg hn hB) ?_;rintro out ho A0 ⟨rfl,rfl,rfl⟩
 refine cB (4096<=(s.nl:Int)) (fun h1=>?_) fun h1=>?_
 ·exact absurd h1 zO
 refine cK [] (Bb []) ?_
 rintro out A0 ⟨rfl,rfl⟩
 refine kS (true) rfl ?_;refine kH [(1232,2),(400,3),(352,4),(353,5),(354,6)] [1232,400,352,353,354] (a0c s 0 n tg hn hnr hk) ?_;rintro out ho A0 ⟨m0,rfl,rfl,rfl⟩
 refine E5 ((401:Int)=0) (by decide) ?_;refine cK [] (pX s.head ⟨(s.nl:Int),0,m0,[],17,401,(replicate 32 0)⟩ bd) ?_;rintro out A0 ⟨rfl,⟨lm1,le1,rfl⟩⟩
 refine cC ((s.nl+1)*88<=140737488355328) ?_;refine jA 2 8464 (fun(u:Unit)=>[(4,.pr 144 0 []),(5,.pr 208 0 [])]) (fun(u:Unit)=>[(144,A1 [.bs 32 s.root,.i .i64 s.delay,.i .u64 s.serial,.os 352 38,.os 353 1,.os 3920 38,.bs 32 lm1]),(352,rT n tg),(353,rR s),(3920,.ar 38 (s.nl+1) fun i=>bif blt i s.nl then H7 (s.gl i) else A1 [.i .i64 (s.nl:Int),.i .i64 0,.i .u64 m0,.s [],.i .i64 17,.i .i64 401,.bs 32 (replicate 32 0)]),(208,A1 [.i .i64 401,.bl 0 []])]) (fun(u:Unit)=>True) [352,353,3920] (fun R hR i hi=>?_) ?_
 ·match i,hi with
 |0,_|1,_=>
   exact cA hX (hR () zT)
 rintro u hJ
 exact xW hX (A2 [A1 [.bs 32 s.root,.i .i64 s.delay,.i .u64 s.serial,.os 16 38,.os 17 1,.os 18 38,.bs 32 lm1],A1 [.i .i64 401,.bl 0 []]]) ⟨[],⟨(s.nl:Int),0,m0,[],17,401,(replicate 32 0)⟩,lm1,rfl,rfl,rfl,rfl,rfl,by simp⟩ (hH:=⟨v0,v0,(vT (u:=.ar 38 (s.nl+1) fun i=>bif blt i s.nl then H7 (s.gl i) else A1 [.i .i64 (s.nl:Int),.i .i64 0,.i .u64 m0,.s [],.i .i64 17,.i .i64 401,.bs 32 (replicate 32 0)]) ((jO (e:=H7)))),zT⟩)
def dX(y:TenR)(x:Int):Bool:=(List.range y.ns).any fun j=>decide ((y.gs j).number=x)
def lB(y:TenR)(x:By):Bool:=(List.range y.nb).any fun j=>decide ((y.gb j).of=x)
theorem IG{n:Nat}{p:Nat->Bool}(h:∀j,j<n->p j=false):(List.range n).any p=false:=by
 rw[<-Bool.not_eq_true]
 intro e
 obtain⟨j,h1,h2⟩:=nF.1 e
 rw[h j (qF.1 h1)]at h2
 cases h2
theorem lC{n:Nat}{p:Nat->Bool}(h:j<n)(h1:p j=true):(List.range n).any p=true:=nF.2 ⟨j,qF.2 h,h1⟩
def lD(x y:TenR):Nat->Bool:=fun j=> !dX y (x.gs j).number
def lE(x y:TenR):Nat->Bool:=fun j=> !lB y (x.gb j).of
theorem Kp.none{x y:TenR}(h:Kp false now x y):(∀j,j<x.ns->lD x y j=false)/\∀j,j<x.nb->lE x y j=false:=by
 refine⟨fun j hj=>?_,fun j hj=>?_⟩
 ·rcases h.sn j hj with⟨k,h1,h2⟩|⟨h1,_⟩
  ·unfold lD dX;rw[lC h1 (decide_eq_true h2)];exact Eq.refl _
  cases h1
 rcases h.bl j hj with⟨k,h1,h2⟩|⟨h1,_⟩
 ·unfold lE lB;rw[lC h1 (decide_eq_true h2)];exact Eq.refl _
 cases h1
theorem Kp.four{z:Bool}{x y:TenR}(h:Kp z now x y):K1 (lD x y) x.ns+K1 (lE x y) x.nb<=4/\(z=false->K1 (lD x y) x.ns=0/\K1 (lE x y) x.nb=0):=by
 cases z
 ·have h1:=BR h.none.1
  have h2:=BR h.none.2
  exact⟨zO,fun _=>⟨h1,h2⟩⟩
 obtain⟨u,v,h0,h1,h2⟩:=h.ct (Eq.refl _)
 have h1:=h1 fun s=> !dX y s.number
 have h2:=h2 fun b=> !lB y b.of
 rw[BR (n:=y.ns) (f:=fun j=> !dX y (y.gs j).number) fun j hj=>by unfold dX;rw[lC hj (decide_eq_true (Eq.refl _))];exact Eq.refl _]at h1
 rw[BR (n:=y.nb) (f:=fun j=> !lB y (y.gb j).of) fun j hj=>by unfold lB;rw[lC hj (decide_eq_true (Eq.refl _))];exact Eq.refl _]at h2
 have e1:K1 (lD x y) x.ns<=0+u:=h1
 have e2:K1 (lE x y) x.nb<=0+v:=h2
 exact⟨zO,fun h=>(by cases h)⟩
theorem OQ(f:Nat->Bool):∀n,K1 f n<=n
|0=>B3 _
|n+1=>by
  have:=OQ f n
  rw[K1]
  cases f n<;>simp only[cond_true,cond_false]<;>omega
theorem Kp.snD{z:Bool}{x y:TenR}(h:Kp z now x y)(hj:j<x.ns)(hn:dX y (x.gs j).number=false):(x.gs j).doom≠0/\(x.gs j).doom<=now:=by
 rcases h.sn j hj with⟨k,h1,h2⟩|⟨_,h1⟩
 ·unfold dX at hn;rw[lC h1 (decide_eq_true h2)]at hn;cases hn
 exact h1
theorem Kp.blD{z:Bool}{x y:TenR}(h:Kp z now x y)(hj:j<x.nb)(hn:lB y (x.gb j).of=false):∃k,k<x.nd/\(x.gd k).of=(x.gb j).of/\(x.gd k).doom<=now:=by
 rcases h.bl j hj with⟨k,h1,h2⟩|⟨_,h1⟩
 ·unfold lB at hn;rw[lC h1 (decide_eq_true h2)]at hn;cases hn
 exact h1
theorem Bc{f:Nat->Bool}{n:Nat}(b:Bool)(h:f n=b):K1 f (n+1)=K1 f n+bif b then 1 else 0:=by rw[K1,h]
theorem Bd{x y:TenR}{e u:Nat}(h:u=e+K1 (lD x y) j)(b:Bool)(hb:dX y (x.gs j).number=b):(u+bif b then 0 else 1)=e+K1 (lD x y) (j+1):=by
 rw[Bc (!b) (by unfold lD;rw[hb]),h]
 cases b<;>rfl
theorem Be{x y:TenR}{e u:Nat}(h:u=e+K1 (lE x y) j)(b:Bool)(hb:lB y (x.gb j).of=b):(u+bif b then 0 else 1)=e+K1 (lE x y) (j+1):=by
 rw[Bc (!b) (by unfold lE;rw[hb]),h]
 cases b<;>rfl
theorem a0g(t:TenR)(x:Int)(hn:t.ns<=100000):Sat Tryz.prog 9 [B2 t,.i .i64 x] [] (fun out A0=>A0=[]/\(out=.b (dX t x))):=by
 refine cF Tryz.func9 fun X0 w0 hX=>?_
 refine cM hX (fun(k:Nat)=>[(1,.i .i64 x),(2,.pr 16 0 []),(5,.i .i64 (k:Int))]) (fun(k:Nat)=>[(16,B2 t)]) (fun(k:Nat)=>k<=t.ns/\∀j,j<k->decide ((t.gs j).number=x)=false) (fun(k:Nat)=>t.ns-k) [] 208 0 ⟨by simp,fun j hj=>absurd hj (U2 j)⟩ ?_;rintro k hI R hR
 refine cB ((k:Int)<(t.ns:Int)) (fun h1=>?_) fun h1=>?_
 ·refine cC ((0:Int)<=(k:Int)/\(k:Int)<(t.ns:Int)) ?_
  refine cB ((t.gs k).number=x) (fun h2=>?_) fun h2=>?_
  ·exact xW hX (.b true) ⟨rfl,rfl,by first|rw[show dX t x=true from lC (j:=k) zO (decide_eq_true (by assumption))]|rw[show dX t x=false from IG fun j hj=>hI.2 j zO]⟩
  exact cA hX (hR (k+1) ⟨bd,fun j hj=>(nH.1 hj).elim (hI.2 j) fun e=>by rw[e];exact decide_eq_false (by assumption)⟩ zO) (hS:=⟨v0,v0,(vS bd),zT⟩)
 exact xW hX (.b false) ⟨rfl,rfl,by first|rw[show dX t x=true from lC (j:=k) zO (decide_eq_true (by assumption))]|rw[show dX t x=false from IG fun j hj=>hI.2 j zO]⟩
theorem a0h(t:TenR)(x:By)(hn:t.nb<=100000):Sat Tryz.prog 10 [B2 t,.bs 32 x] [] (fun out A0=>A0=[]/\(∃i:Int,out=.i .i64 i/\(i<0->lB t x=false)/\(¬ i<0->lB t x=true))):=by
 refine cF Tryz.func10 fun X0 w0 hX=>?_
 refine cM hX (fun(k:Nat)=>[(2,.pr 16 0 []),(3,.pr 80 0 []),(5,.i .i64 (k:Int))]) (fun(k:Nat)=>[(16,B2 t),(80,.bs 32 x)]) (fun(k:Nat)=>k<=t.nb/\∀j,j<k->decide ((t.gb j).of=x)=false) (fun(k:Nat)=>t.nb-k) [] 272 0 ⟨by simp,fun j hj=>absurd hj (U2 j)⟩ ?_;rintro k hI R hR
 refine cB ((k:Int)<(t.nb:Int)) (fun h1=>?_) fun h1=>?_
 ·refine cC ((0:Int)<=(k:Int)/\(k:Int)<(t.nb:Int)) ?_
  refine cB ((t.gb k).of=x) (fun h2=>?_) fun h2=>?_
  ·exact xW hX (.i .i64 (k:Int)) ⟨rfl,rfl,⟨_,rfl,by first|exact fun h=>absurd h zO|exact fun _=>IG fun j hj=>hI.2 j zO,by first|exact fun h=>absurd h zO|exact fun _=>lC (j:=k) zO (decide_eq_true (by assumption))⟩⟩
  exact cA hX (hR (k+1) ⟨bd,fun j hj=>(nH.1 hj).elim (hI.2 j) fun e=>by rw[e];exact decide_eq_false (by assumption)⟩ zO) (hS:=⟨v0,v0,(vS bd),zT⟩)
 exact xW hX (.i .i64 (-1)) ⟨rfl,rfl,⟨_,rfl,by first|exact fun h=>absurd h zO|exact fun _=>IG fun j hj=>hI.2 j zO,by first|exact fun h=>absurd h zO|exact fun _=>lC (j:=k) zO (decide_eq_true (by assumption))⟩⟩
theorem a0i(n:Nat)(g:Nat->Doo)(x:By)(now:Int)(hn:n<=100000):Sat Tryz.prog 11 [.sl 0 33 n fun i=>D7 (g i),.bs 32 x,.i .i64 now] [] (fun out A0=>A0=[]/\(∃p,out=.b p/\(AscK Doo.of n g->(∃k,k<n/\(g k).of=x/\(g k).doom<=now)->p=true))):=by
 refine cF Tryz.func11 fun X0 w0 hX=>?_
 refine cM hX (fun(k:Nat)=>[(0,.sl 0 33 n fun i=>D7 (g i)),(2,.i .i64 now),(4,.pr 16 0 []),(7,.i .i64 (k:Int))]) (fun(k:Nat)=>[(16,.bs 32 x)]) (fun(k:Nat)=>k<=n/\∀j,j<k->(g j).of≠x) (fun(k:Nat)=>n-k) [] 208 0 ⟨by simp,fun j hj=>absurd hj (U2 j)⟩ ?_;rintro k hI R hR
 refine cB ((k:Int)<(n:Int)) (fun h1=>?_) fun h1=>?_
 ·refine cC ((0:Int)<=(k:Int)/\(k:Int)<(n:Int)) ?_
  refine cB ((g k).of=x) (fun h2=>?_) fun h2=>?_
  ·refine cC ((0:Int)<=(k:Int)/\(k:Int)<(n:Int)) ?_
   exact xW hX (.b (decide ((g k).doom<=now))) ⟨rfl,rfl,⟨_,rfl,fun ha ⟨q,q1,q2,q3⟩=>by first|exact absurd q2 (hI.2 q zO)|(have e:=ha.inj (i:=k) (j:=q) zO q1 (by rw[q2];assumption);subst e;exact decide_eq_true q3)⟩⟩
  exact cA hX (hR (k+1) ⟨bd,fun j hj=>(nH.1 hj).elim (hI.2 j) fun e=>by rw[e];assumption⟩ zO) (hS:=⟨v0,v0,v0,(vS bd),zT⟩)
 exact xW hX (.b false) ⟨rfl,rfl,⟨_,rfl,fun ha ⟨q,q1,q2,q3⟩=>by first|exact absurd q2 (hI.2 q zO)|(have e:=ha.inj (i:=k) (j:=q) zO q1 (by rw[q2];assumption);subst e;exact decide_eq_true q3)⟩⟩
def CJ{α:Type}(n:Nat)(f g:Nat->α):Nat->α:=fun i=>bif blt i n then f i else g (i-n)
theorem a0j{t z n:Nat}{e:α->V}{f g:Nat->α}:VEq (.sl t z (n+m) fun i=>bif blt i n then e (f i) else e (g (i-n))) (.sl t z (n+m) fun i=>e (CJ n f g i)):=.sl _ _ _ _ _ fun i _=>by
 unfold CJ
 cases blt i n<;>rfl
theorem a0k:∀i,i<9->(bJ i).data.length<=4096:=fun i hi=>match i,hi with|0,_=>by decide|1,_=>by decide|2,_=>by decide|3,_=>by decide|4,_=>by decide|5,_=>by decide|6,_=>by decide|7,_=>by decide|8,_=>by decide
theorem a0l{n:Nat}{g:Nat->ActT}(h:∀i,i<n->(g i).data.length<=4096):∀i,i<9+n->(CJ 9 bJ g i).data.length<=4096:=fun i hi=>by
 unfold CJ
 by_cases h9:i<9
 ·rw[GW h9];exact a0k i h9
 rw[jN h9];exact h _ zO
theorem a0m{A B:Prop} [Decidable A] [Decidable B]{k i0 e v cs cb:Nat}(h4:cs+cb<=4/\(decide (k=i0/\A/\B)=false->cs=0/\cb=0))(he:e<=4/\(0<e->(A/\B)/\i0<k))(hv:v=e+cs+cb):v<=4/\(0<v->(A/\B)/\i0<k+1):=by
 by_cases h:k=i0/\A/\B
 ·have h0:e=0:=by
   rcases Nat.eq_zero_or_pos e with q|q
   ·exact q
   exact absurd (he.2 q).2 zO
  exact⟨zO,fun _=>⟨h.2,zO⟩⟩
 have h1:=h4.2 (decide_eq_false h)
 exact⟨zO,fun v7=>⟨(he.2 zO).1,by have:=(he.2 zO).2;omega⟩⟩
theorem Kp.find{z:Bool}{x:TenR}{n2:Nat}{tg2:Nat->TenR}(ha:AscK TenR.name n2 tg2)(hk:∃m,m<n2/\Kp z now x (tg2 m)){i:Int}(hi:i<0\/0<=i/\i<n2)(h1:i<0->∀j,j<n2->(tg2 j).name≠x.name)(h2:0<=i->(tg2 i.toNat).name=x.name):¬ i<0/\Kp z now x (tg2 i.toNat):=by
 obtain⟨m,q1,q2⟩:=hk
 have jY:¬ i<0:=fun h=>h1 h m q1 q2.nm
 refine⟨jY,?_⟩
 have:i.toNat=m:=ha.inj zO q1 ((h2 zO).trans q2.nm.symm)
 rw[this];exact q2
theorem a0n(hB:SatM Tryz.prog false 4 [] [] (fun out ho A0=>out=.b true/\ho=[]/\A0=[]))(d:Int)(n:Nat)(g:Nat->ActT)(hn:n<=9223372036854775807):SatM Tryz.prog true 3 [.i .i64 d,.sl 0 6 n fun i=>M9 (g i)] [] (fun out ho A0=>out=.b true/\ho=[]/\A0=[]):=by
 refine fM true Tryz.func3 fun X0 w0 hX hm=>?_
 refine kO [] (hB) ?_;rintro out ho A0 ⟨rfl,rfl,rfl⟩
 refine kS (true) rfl ?_;refine cK [] (Zn n g 40 bd) ?_;rintro out A0 ⟨rfl,⟨pL,rfl,hL⟩⟩
 refine cn (pL) (fun h1=>?_) fun h1=>?_
 ·exact xW hX (.b true) ⟨rfl,rfl,rfl⟩
 have hL2:=hL (by assumption)
 have hgA:=a0l hL2.2
 refine cK [] (Zu) ?_;rintro out A0 ⟨rfl,rfl⟩
 refine cC ((9+n)*64<=140737488355328) ?_;refine kM (fun _=>hm rfl) [] (pU (ins':=[.i .i64 d,.sl 0 6 (9+n) fun i=>bif blt i 9 then M9 (bJ i) else M9 (g (i-9))]) (Zz d (9+n) (CJ 9 bJ g) zO hgA) ⟨.rfl _,a0j (e:=M9),zT⟩) ?_;rintro out ho A0 ⟨m,gs,go,ga,rfl,rfl,rfl,l4,hQ⟩
 refine cM hX (fun(a0:Nat)=>[(5,.pr 720 0 []),(6,.i .i64 (a0:Int))]) (fun(a0:Nat)=>[(720,A1 [.sl 0 69 (m+1) fun i=>cX (gs i),.sl 0 72 m fun i=>J1 (go i),.sl 0 2 m fun i=>bK (ga i),.uk 1])]) (fun(a0:Nat)=>a0<=m) (fun(a0:Nat)=>m-a0) [] 912 0 zO ?_;rintro a0 hI R hR
 refine cB ((a0:Int)<(m:Int)) (fun h2=>?_) fun h2=>?_
 ·have hw:(i64.wrap ((a0:Int)+1)).toNat=a0+1:=by rw[N4 ⟨zO,zO⟩];omega
  have hq:StpQ (go a0) (gs a0) (gs (i64.wrap ((a0:Int)+1)).toNat) (ga a0):=by rw[hw];exact hQ a0 zO
  obtain⟨i0,aK⟩:=hq.p.kp
  have hS:=hq.ok
  have hS2:=hq.p.ok hq.ok
  have vL:=hS.hn
  refine cM hX (fun(p:Nat×Nat)=>[(5,.pr 720 0 []),(6,.i .i64 (a0:Int)),(7,.i .i64 (p.2:Int)),(8,.i .i64 (p.1:Int))]) (fun(p:Nat×Nat)=>[(720,A1 [.sl 0 69 (m+1) fun i=>cX (gs i),.sl 0 72 m fun i=>J1 (go i),.sl 0 2 m fun i=>bK (ga i),.uk 1])]) (fun(p:Nat×Nat)=>p.1<=(gs a0).n/\p.2<=4/\(0<p.2->((go a0).do=15/\(ga a0).c=200)/\i0<p.1)) (fun(p:Nat×Nat)=>(gs a0).n-p.1) [] 1360 (0,0) ⟨by simp,by simp,fun h=>absurd h (Nat.lt_irrefl _)⟩ ?_;rintro⟨k,e⟩ U6 R1 iN
  dsimp only at U6
  refine cC ((0:Int)<=(a0:Int)/\(a0:Int)<((m+1):Int)) ?_;refine cB ((k:Int)<((gs a0).n:Int)) (fun h3=>?_) fun h3=>?_
  ·refine cC ((0:Int)<=(a0:Int)/\(a0:Int)<((m+1):Int)) ?_
   refine cC ((0:Int)<=(k:Int)/\(k:Int)<((gs a0).n:Int)) ?_;refine cC ((0:Int)<=(i64.wrap ((a0:Int)+1))/\(i64.wrap ((a0:Int)+1))<((m+1):Int)) ?_ bw;refine cK [] (Ay (gs (((i64.wrap ((a0:Int)+1))).toNat)).s (gs (((i64.wrap ((a0:Int)+1))).toNat)).n (gs (((i64.wrap ((a0:Int)+1))).toNat)).tg (((gs a0).tg k).name) (hS2.hn)) ?_;rintro out A0 ⟨rfl,⟨ti,rfl,hti,oC,nO⟩⟩
   have hF:=Kp.find hS2.asc (aK k zO) hti oC nO
   refine cB (ti<0) (fun h4=>?_) fun h4=>?_
   ·exact absurd h4 hF.1
   have hB2:=hS2.hb ti.toNat zO
   have hB2n:=hB2.ns
   have hB2b:=hB2.nb
   have hB1:=hS.hb k zO
   have hB1n:=hB1.ns
   have hB1b:=hB1.nb
   have hB1d:=hB1.nd
   refine cC ((0:Int)<=(i64.wrap ((a0:Int)+1))/\(i64.wrap ((a0:Int)+1))<((m+1):Int)) ?_ bw;refine cC ((0:Int)<=ti/\ti<((gs (((i64.wrap ((a0:Int)+1))).toNat)).n:Int)) ?_ bw;refine cM hX (fun(p:Nat×Nat)=>[(5,.pr 720 0 []),(6,.i .i64 (a0:Int)),(7,.i .i64 (p.2:Int)),(8,.i .i64 (k:Int)),(9,.pr 2512 0 []),(11,.pr 4048 0 []),(12,.i .i64 (p.1:Int))]) (fun(p:Nat×Nat)=>[(720,A1 [.sl 0 69 (m+1) fun i=>cX (gs i),.sl 0 72 m fun i=>J1 (go i),.sl 0 2 m fun i=>bK (ga i),.uk 1]),(2512,B2 ((gs a0).tg k)),(4048,B2 ((gs (((i64.wrap ((a0:Int)+1))).toNat)).tg ((ti).toNat)))]) (fun(p:Nat×Nat)=>p.1<=((gs a0).tg k).ns/\p.2=e+K1 (lD ((gs a0).tg k) ((gs (i64.wrap ((a0:Int)+1)).toNat).tg ti.toNat)) p.1) (fun(p:Nat×Nat)=>((gs a0).tg k).ns-p.1) [] 4240 (0,e) ⟨by simp,rfl⟩ ?_;rintro⟨j,u⟩ hI R2 iO
   dsimp only at hI
   have hj2:=hI.2
   have U5:=OQ (lD ((gs a0).tg k) ((gs (i64.wrap ((a0:Int)+1)).toNat).tg ti.toNat)) j
   refine cB ((j:Int)<(((gs a0).tg k).ns:Int)) (fun h5=>?_) fun h5=>?_
   ·refine cC ((0:Int)<=(j:Int)/\(j:Int)<(((gs a0).tg k).ns:Int)) ?_
    refine cK [] (a0g ((gs (((i64.wrap ((a0:Int)+1))).toNat)).tg ((ti).toNat)) ((((gs a0).tg k).gs j).number) zO) ?_;rintro out A0 ⟨rfl,rfl⟩
    refine cn ((dX ((gs (((i64.wrap ((a0:Int)+1))).toNat)).tg ((ti).toNat)) ((((gs a0).tg k).gs j).number))) (fun h6=>?_) fun h6=>?_
    ·have hd:=hF.2.snD zO h6
     refine cC ((0:Int)<=(j:Int)/\(j:Int)<(((gs a0).tg k).ns:Int)) ?_;refine cB ((((gs a0).tg k).gs j).doom=0) (fun h7=>?_) fun h7=>?_
     ·exact absurd h7 hd.1
     refine cC ((0:Int)<=(j:Int)/\(j:Int)<(((gs a0).tg k).ns:Int)) ?_
     refine cC ((0:Int)<=(a0:Int)/\(a0:Int)<(m:Int)) ?_;refine cB ((go a0).now<(((gs a0).tg k).gs j).doom) (fun h8=>?_) fun h8=>?_
     ·exact absurd hd.2 zO
     exact cA hX (iO (j+1,u+1) ⟨bd,Bd hI.2 false h6⟩ (by dsimp only;omega)) (hS:=⟨v0,v0,(vS bd),v0,v0,v0,(vS bd),zT⟩)
    exact cA hX (iO (j+1,u) ⟨bd,Bd hI.2 true h6⟩ (by dsimp only;omega)) (hS:=⟨v0,v0,v0,v0,v0,v0,(vS bd),zT⟩)
   obtain rfl:j=((gs a0).tg k).ns:=by omega
   refine cM hX (fun(p:Nat×Nat)=>[(5,.pr 720 0 []),(6,.i .i64 (a0:Int)),(7,.i .i64 (p.2:Int)),(8,.i .i64 (k:Int)),(9,.pr 2512 0 []),(11,.pr 4048 0 []),(13,.i .i64 (p.1:Int))]) (fun(p:Nat×Nat)=>[(720,A1 [.sl 0 69 (m+1) fun i=>cX (gs i),.sl 0 72 m fun i=>J1 (go i),.sl 0 2 m fun i=>bK (ga i),.uk 1]),(2512,B2 ((gs a0).tg k)),(4048,B2 ((gs (((i64.wrap ((a0:Int)+1))).toNat)).tg ((ti).toNat)))]) (fun(p:Nat×Nat)=>p.1<=((gs a0).tg k).nb/\p.2=u+K1 (lE ((gs a0).tg k) ((gs (i64.wrap ((a0:Int)+1)).toNat).tg ti.toNat)) p.1) (fun(p:Nat×Nat)=>((gs a0).tg k).nb-p.1) [] 4624 (0,u) ⟨by simp,rfl⟩ ?_;rintro⟨q,v⟩ hI R2 iO
   dsimp only at hI
   have hc3:=OQ (lE ((gs a0).tg k) ((gs (i64.wrap ((a0:Int)+1)).toNat).tg ti.toNat)) q
   refine cB ((q:Int)<(((gs a0).tg k).nb:Int)) (fun h9=>?_) fun h9=>?_
   ·refine cC ((0:Int)<=(q:Int)/\(q:Int)<(((gs a0).tg k).nb:Int)) ?_
    refine cK [] (a0h ((gs (((i64.wrap ((a0:Int)+1))).toNat)).tg ((ti).toNat)) ((((gs a0).tg k).gb q).of) zO) ?_;rintro out A0 ⟨rfl,⟨bi,rfl,N6,S2⟩⟩
    refine cB (bi<0) (fun J7=>?_) fun J7=>?_
    ·refine cC ((0:Int)<=(q:Int)/\(q:Int)<(((gs a0).tg k).nb:Int)) ?_
     refine cC ((0:Int)<=(a0:Int)/\(a0:Int)<(m:Int)) ?_;refine cK [] (a0i (((gs a0).tg k).nd) (fun i=>(((gs a0).tg k).gd i)) ((((gs a0).tg k).gb q).of) ((go a0).now) zO) ?_;rintro out A0 ⟨rfl,⟨du,rfl,hdu⟩⟩
     refine cn (du) (fun P5=>?_) fun P5=>?_
     ·have hdv:=hdu hB1.asc (hF.2.blD zO (N6 J7))
      rw[P5]at hdv
      cases hdv
     exact cA hX (iO (q+1,v+1) ⟨bd,Be hI.2 false (N6 J7)⟩ (by dsimp only;omega)) (hS:=⟨v0,v0,(vS bd),v0,v0,v0,(vS bd),zT⟩)
    exact cA hX (iO (q+1,v) ⟨bd,Be hI.2 true (S2 J7)⟩ (by dsimp only;omega)) (hS:=⟨v0,v0,v0,v0,v0,v0,(vS bd),zT⟩)
   obtain rfl:q=((gs a0).tg k).nb:=by omega
   exact cA hX (iN (k+1,v) ⟨by dsimp only;omega,a0m hF.2.four U6.2 (by rw[hI.2,hj2])⟩ (by dsimp only;omega)) (hS:=⟨v0,v0,v0,(vS bd),zT⟩)
  refine cB (4<(e:Int)) (fun h12=>?_) fun h12=>?_
  ·exact absurd U6.2.1 zO
  refine cB (0<(e:Int)) (fun v8=>?_) fun v8=>?_
  ·refine cC ((0:Int)<=(a0:Int)/\(a0:Int)<(m:Int)) ?_
   refine cB ((go a0).do≠15) (fun bW=>?_) fun bW=>?_
   ·exact absurd (U6.2.2 zO).1.1 bW
   refine cC ((0:Int)<=(a0:Int)/\(a0:Int)<(m:Int)) ?_
   refine cB ((ga a0).c≠200) (fun aR=>?_) fun aR=>?_
   ·exact absurd (U6.2.2 zO).1.2 aR
   exact cA hX (hR (a0+1) zO zO) (hS:=⟨v0,(vS bd),zT⟩)
  exact cA hX (hR (a0+1) zO zO) (hS:=⟨v0,(vS bd),zT⟩)
 exact xW hX (.b true) ⟨rfl,rfl,rfl⟩
def gX(r:By):StaR:=⟨r,5,0,0,fun _=>0,0,fun _=>default,replicate 32 0⟩
def r3:By:=(replicate 32 0).set 0 3
theorem IH{s:StaR}{e:Ent}{h:By}(hg:∀i,i<s.nl->(s.gl i).tenant.length<=100)(he:e.tenant.length<=100):∀i,i<(aG s e h).nl->((aG s e h).gl i).tenant.length<=100:=fun i hi=>uK (p:=fun x:Ent=>x.tenant.length<=100) hg he i hi
theorem gl2{s:StaR}{e:Ent}{h:By}{n:Nat}(hn:s.nl=n)(hs:e.seq=s.nl):((aG s e h).gl n).seq=(n:Int):=by
 subst hn
 show(J8 s.nl s.gl e s.nl).seq=_
 rw[CI,hs]
theorem a0p(r:By):Sat Tryz.prog 12 [.bs 32 r,.i .i64 5] [] (fun out A0=>A0=[]/\(out=I9 (.sl 0 38 0 fun i=>B2 ((fun _=>default) i)) (gX r))):=by
 refine cF Tryz.func12 fun X0 w0 hX=>?_
 exact xW hX (I9 (.sl 0 38 0 fun i=>B2 ((fun _=>default) i)) (gX r)) ⟨rfl,rfl,rfl⟩ (hv:=vT (u:=A1 [.bs 32 r,.i .i64 (if 5<0 then 0 else 5),.i .u64 0,.sl 0 38 0 fun _=>.un,.sl 0 1 0 fun _=>.un,.sl 0 38 0 fun _=>.un,.bs 32 (replicate 32 0)]) (C4 ⟨v0,v0,v0,vN,vN,vN,v0,zT⟩))
theorem a0q  :SatM Tryz.prog false 4 [] [] (fun out ho A0=>out=.b true/\ho=[]/\A0=[]):=by
 refine fM false Tryz.func4 fun X0 w0 hX hm=>?_
 refine cK [] (a0p r3) ?_;rintro out A0 ⟨rfl,rfl⟩
 refine cK [] (Xv r3 rfl) ?_;rintro out A0 ⟨rfl,rfl⟩
 refine cK [] (Ya (S7 r3) Aq) ?_;rintro out A0 ⟨rfl,rfl⟩
 refine kO [] (pU (ins':=[I9 (.sl 0 38 0 fun i=>B2 ((fun _=>default) i)) (gX r3),A1 [.i .i64 17,.s [],.bs 32 (replicate 32 0),.i .i64 0,.i .i64 0,.i .u8 0,.bl 1 [],.bl 0 (mZ (S7 r3)),.i .i64 0,.bs 32 (replicate 32 0)]]) (a0e (gX r3) 0 (fun _=>default) rfl rfl (L8 _) (fun i hi=>absurd hi (U2 i))) ⟨.rfl _,(C4 ⟨.rfl _,.rfl _,.rfl _,.rfl _,.rfl _,.rfl _,.fb _,.rfl _,.rfl _,.rfl _,zT⟩),zT⟩) ?_;rintro out ho A0 ⟨b0,e0,h0,rfl,rfl,rfl,T2,hs0,rE⟩
 have hg1:=IH (s:=gX r3) (h:=h0) (fun i hi=>absurd hi (U2 i)) rE
 have dI:(aG (gX r3) e0 h0).nl<=10:=by show 0+1<=10;decide
 refine gZ 1056 ?_;refine gZ 1057 ?_;refine gZ 1058 ?_;refine kO [] (pU (ins':=[I9 (.sl 0 38 0 fun i=>B2 ((fun _=>default) i)) (aG (gX r3) e0 h0),A1 [.i .i64 17,.s [],.bs 32 (replicate 32 0),.i .i64 0,.i .i64 0,.i .u8 0,.bl 1 [],.bl 1 [],.i .i64 0,.bs 32 (replicate 32 0)]]) (a0f (aG (gX r3) e0 h0) 0 (fun _=>default) rfl rfl dI hg1) ⟨.rfl _,(C4 ⟨.rfl _,.rfl _,.rfl _,.rfl _,.rfl _,.rfl _,.fb _,.fb _,.rfl _,.rfl _,zT⟩),zT⟩) ?_;rintro out ho A0 ⟨b1,e1,h1,rfl,rfl,rfl,N6,lT,oC⟩
 refine gZ 1696 ?_;refine gZ 1697 ?_;refine gZ 1698 ?_;refine O6 ((200:Int)=200) (by decide) ?_;refine O6 ((b0.length:Int)=32) zO ?_;refine O6 (((aG (gX r3) e0 h0).nl:Int)=1) rfl ?_;refine O6 ((401:Int)=401) (by decide) ?_;refine O6 (((aG (aG (gX r3) e0 h0) e1 h1).nl:Int)=2) rfl ?_;refine cC ((0:Int)<=1/\1<((aG (aG (gX r3) e0 h0) e1 h1).nl:Int)) ?_ (hp:=by show(0:Int)<=1/\(1:Int)<((2:Nat):Int);decide);exact xW hX (.b (decide (((aG (aG (gX r3) e0 h0) e1 h1).gl 1).seq=1))) ⟨by rw[gl2 (n:=1) rfl lT];rfl,rfl,rfl⟩
section
open Go Go.ChangeShapes Go.WideShapes Go.ChangeAt Go.RowKit Go.Deep Go.ChangeMaps
def aH(W:World):Cx:=⟨fun b i=>match W.cell? (ad b i) with|some x=>bif x.oneCell' then .fz x else .no|none=>.no,fun _ _=>none,fun _ _ _=>True,0,W.heap.size,true⟩
theorem Bf{W:World}{b:Nat}(h:W.cell? (ad b i)=some x)(h1:x.oneCell'=true):(aH W).G b i=.fz x:=by
 show(match W.cell? (ad b i) with|some x=>bif x.oneCell' then Ow.fz x else .no|none=>.no)=_
 rw[h];simp only[h1,cond_true]
theorem uO{W:World}{b:Nat}{o:Ow}(h:(aH W).G b i=o)(hn:o≠ .no):∃x,W.cell? (ad b i)=some x/\x.oneCell'=true/\o=.fz x:=by
 have h:(match W.cell? (ad b i) with|some x=>bif x.oneCell' then Ow.fz x else .no|none=>.no)=o:=h
 cases hc:W.cell? (ad b i) with
|none=>rw[hc]at h;exact absurd h.symm hn
|some x=>
  rw[hc]at h
  cases h1:x.oneCell' with
 |false=>simp only[h1,cond_false]at h;exact absurd h.symm hn
 |true=>simp only[h1,cond_true]at h;exact⟨x,rfl,h1,h.symm⟩
theorem Bg{W:World}{b:Nat}(h:W.cell? (ad b i)=some x):b<W.heap.size:=by
 unfold World.cell? at h
 cases e:W.heap[b]? with
|none=>simp[e]at h
|some o=>exact(Z4.1 e).1
theorem a0r{W:World}(hT:Lib.TabIs Tryz.prog W "internal/strconv.uint64pow10" .u64 Lib.pow10Tab):∀g,KL g->FzAt (aH W).G g 0 eW/\∃C T fr,W.heap[g]? =some (.cells C T fr)/\C.size=eW.length:=fun g hg=>by
 have hg:Tryz.prog.globalNamed "internal/strconv.uint64pow10" =some g:=hg
 unfold Lib.TabIs World.var? at hT
 rw[hg,CN]at hT
 cases e:W.heap[g]? with
|none=>rw[e]at hT;cases hT
|some o=>
  rw[e]at hT
  cases o with
 |cells C T fr=>
   have hC:C=eW.toArray:=qG hT
   subst hC
   refine⟨fun k x hk=>Bf ?_ ?_,_,_,_,rfl,by simp⟩
   ·simp only[World.cell?, e,J2,Option.isSome_none,zB,if_false,fF]
    exact hk
   unfold eW at hk
   rw[Y5]at hk
   obtain⟨z,_,rfl⟩:=eB.1 hk
   rfl
 |_=>cases hT
theorem a0s(W:World)(hT:Lib.TabIs Tryz.prog W "internal/strconv.uint64pow10" .u64 Lib.pow10Tab):Wd (aH W) (aH W) h0 [] 16 W W where
 kb:=zH W _
 tape:=rfl
 fz0:=fun _ _ _ h=>h
 no0:=fun _ _ _ h=>.inl h
 mp0:=fun _ _ _ h=>h
 ρ0:=fun _ _ _ h=>h
 ex:=fun b i h=>by obtain⟨x,h1,_⟩:=uO rfl h;exact Bg h1
 fz:=fun b i x h=>by obtain⟨y,h1,h2,h3⟩:=uO h (by simp);cases h3;exact .cell h1 h2
 tp:=fun b i t h=>by obtain⟨y,_,_,h3⟩:=uO h (by simp);cases h3
 rt:=fun _ _ _ _ _ h=>(by cases h)
 c2:=by omega
 lvc:=fun _ h=>(by cases h)
 ρc:=fun _ _ _ h=>(by cases h)
 inv:=trivial
 imo:=fun _ _ _ _ _ _ _ h=>h
 κc:=L8 _
 νe:=rfl
 we:=rfl
 gz:=a0r hT
 ν0:=B3 _
 νs:=B3 _
 nf:=fun b hb ⟨i,hi⟩=>by
  obtain⟨x,h1,_⟩:=uO rfl hi
  have:=Bg h1
  have:W.heap.size<=b:=hb
  omega
theorem a0t{f:FuncId}{args:List Value}{W:World}{ins:List V}(hs:SatM Tryz.prog true f ins [] (fun out ho A0=>out=.b true/\ho=[]/\A0=[]))(hT:Lib.TabIs Tryz.prog W "internal/strconv.uint64pow10" .u64 Lib.pow10Tab)(hl:args.length=ins.length)
  (ha:∀(i:Nat) v x,ins[i]? =some v->args[i]? =some x->repv (aH W) [] 16 v x):Ret Tryz.prog f args W fun v w'=>v=.bool true/\Hp W w' [] []:=
 (hs (aH W) W args hl ha ⟨fun _ _=>rfl,rfl,fun _ _ _ _=>trivial⟩ (a0s W hT) fun _=>rfl).mono fun v w' ⟨X',ho,A0,out,⟨h1,_,_⟩,h2,H⟩=>by
  subst h1
  refine⟨pF h2,H.kb.1,H.tape,H.kb.2.1,H.νs,fun b hb _=>Ae H.kb (fun b i h=>?_) (fun b h=>?_) b hb,by simp,by simp,.nil⟩
  ·rcases h with⟨r,j,k,h⟩|⟨t,h⟩
   ·obtain⟨_,_,_,h3⟩:=uO h (by simp);cases h3
   obtain⟨_,_,_,h3⟩:=uO h (by simp);cases h3
  obtain⟨_,t,h⟩:=h
  obtain⟨y,_,h2,h3⟩:=uO h (by simp)
  cases h3
  exact oV h2
section
variable {H:Type} {enc:TypeId×Value->H} {W:World} {P4:Nat} {held:Bool}
theorem a0u{a:Addr}(h:W.cell? a=some x):a.spot=none:=by
 obtain⟨b,o,s⟩:=a
 cases s with
|none=>rfl
|some s=>
  simp only[World.cell?]at h
  split at h
  ·simp at h
  cases h
theorem Bh(b o k:Nat):(⟨b,o,none⟩:Addr).add k=ad b (o+k):=by
 unfold Addr.add
 split
 ·rename_i h;subst h;rfl
 rfl
theorem Bi{t:TypeId}{z:Nat}{x:DataW H×List MemPlace}(ht:Tryz.prog.underlying t=some (.slice e))(hz:Tryz.prog.cellsOf e=z)(h0:0<z)(h:DataW.trod enc Tryz.prog W P4 (fun _=>true) held fuel t cs=some x):
  ∃a n cap,cs=[.slice a n cap]/\n<=cap/\cap<=maxLen/\(cap=0\/∃b o,a=some ⟨b,o,none⟩/\∀i,i<n->∃es m y,es.length=z/\(∀(k:Nat) v,es[k]? =some v->W.cell? (ad b (o+i*z+k))=some v)/\DataW.trod enc Tryz.prog W P4 (fun _=>true) held m e es=some y):=by
 rcases DataW.trod_slice ht h with⟨rfl,_⟩|⟨a,len,cap,elems,rest,m,_,rfl,_,_,hl,hm,D8,hel,fT,_⟩
 ·exact⟨none,0,0,rfl,B3 _,by decide,.inl rfl⟩
 refine⟨some a,len,cap,rfl,hl,hm,?_⟩
 by_cases hc:cap=0
 ·exact .inl hc
 have a0:a.add 0=a:=by unfold Addr.add;rw[if_pos rfl]
 have at0:∀k (y:DataW H×List MemPlace),k=0->(W.cells? P4 (a.add k) (Tryz.prog.cellsOf e)).bind (DataW.trod enc Tryz.prog W P4 (fun _=>true) held m e)=some y->a.spot=none:=fun k y hk hy=>by
  subst hk
  obtain⟨cs,v6,_⟩:=CV.1 hy
  obtain⟨_,lX,hq⟩:=World.cells?_some v6
  have h1:=hq 0 (by rw[hz];exact h0)
  rw[B6 zO,a0,a0]at h1
  exact a0u h1
 have hspot:a.spot=none:=by
  by_cases hn:0<len
  ·have h1:=hel 0 hn
   rw[B6 zO]at h1
   exact at0 _ _ (Nat.zero_mul _) h1
  obtain⟨r1,r2⟩:=fT rfl
  have h1:=r2 0 zO
  rw[B6 zO]at h1
  exact at0 _ _ (by rw[show len+0=0 by omega,Nat.zero_mul]) h1
 obtain⟨b,o,s⟩:=a
 simp only at hspot
 subst hspot
 refine .inr ⟨b,o,rfl,fun i hi=>?_⟩;have h1:=hel i hi
 rw[B6 zO]at h1
 obtain⟨es,iI,hy⟩:=CV.1 h1
 obtain⟨_,lX,hq⟩:=World.cells?_some iI
 rw[hz]at lX hq
 refine⟨es,m,_,lX,fun k v hk=>?_,hy⟩
 have hlt:=(N0.1 hk).1
 have h2:=hq k zO
 rw[hk,Bh,Bh]at h2
 exact h2
theorem Bj{b:Nat}{es:List Value}(h:∀(k:Nat) v,es[k]? =some v->W.cell? (ad b (o+k))=some v)(h1:∀x∈es,x.oneCell'=true):FzAt (aH W).G b o es:=fun k x hk=>Bf (h k x hk) (h1 x (E2 hk))
theorem a0v{x:DataW H×List MemPlace}(h:DataW.trod enc Tryz.prog W P4 (fun _=>true) held fuel 53 cs=some x):∃l:By,∀lv c,2<=c->(∀t,t∈lv->2<=t)->rep (aH W) (.bl 0 l) lv c cs:=by
 obtain⟨a,n,cap,rfl,h1,h2,h3⟩:=Bi Tryz.underlying53 Gm (by decide) h
 rcases h3 with rfl|⟨b,o,rfl,h3⟩
 ·have:n=0:=by omega
  subst this
  exact⟨[],fun lv c hc hl=>⟨a,0,rfl,B3 _,by decide,zO,fun e=>by omega,.inl ⟨.inr rfl,rfl⟩⟩⟩
 have one:∀i,∃u:UInt8,i<n->W.cell? (ad b (o+i))=some (E9 u):=fun i=>by
  by_cases hi:i<n
  ·obtain⟨es,m,y,q1,q2,q3⟩:=h3 i hi
   obtain⟨k,rfl,_,hw⟩:=DataW.trod_int (t:=5) (k:=.u8) Tryz.underlying5 q3
   have hb:=bounds_u8 hw
   have:=q2 0 _ rfl
   rw[j8,s9]at this
   refine⟨UInt8.ofNat k.toNat,fun _=>this.trans ?_⟩
   show some (Value.int .u8 k)=some (Value.int .u8 _)
   rw[UInt8.toNat_ofNat']
   congr 2
   omega
  exact⟨0,fun h=>absurd h hi⟩
 have one':=fun i=>(one i).choose_spec
 refine⟨(List.range n).map fun i=>(one i).choose,fun lv c hc hl=>⟨some ⟨b,o,none⟩,cap,by simp,by simpa using h1,h2,zO,fun e=>by omega,.inr ⟨b,o,rfl,Bj (fun k v hk=>?_) (wS _),fun ht=>by have:=hl 0 ht;omega⟩⟩⟩
 rw[Y5,Y5]at hk
 obtain⟨u,hu,rfl⟩:=eB.1 hk
 obtain⟨i,hi,rfl⟩:=eB.1 hu
 have hlt:k<n:=by have:=(N0.1 hi).1;simpa using this
 rw[IN hlt]at hi
 cases hi
 exact one' k hlt
theorem a0w{α:Type} [Inhabited α]{ec:α->V}{t:TypeId}{z:Nat}{x:DataW H×List MemPlace}(ht:Tryz.prog.underlying t=some (.slice e))(hz:Tryz.prog.cellsOf e=z)(h0:0<z)(hm:∀y,(ec y).mem=true)
  (x6:∀(m:Nat) (es:List Value) (y:DataW H×List MemPlace),DataW.trod enc Tryz.prog W P4 (fun _=>true) held m e es=some y->∃c:α,rep (aH W) (ec c) [] 2 es)
  (h:DataW.trod enc Tryz.prog W P4 (fun _=>true) held fuel t cs=some x):∃(n:Nat) (g:Nat->α),n<=maxLen/\rep (aH W) (.sl 0 z n fun i=>ec (g i)) [] 16 cs:=by
 obtain⟨a,n,cap,rfl,h1,h2,h3⟩:=Bi ht hz h0 h
 rcases h3 with rfl|⟨b,o,rfl,h3⟩
 ·have:n=0:=by omega
  subst this
  exact⟨0,fun _=>default,L8 _,h0,a,0,rfl,B3 _,by decide,zO,fun e=>by omega,.inl ⟨.inr rfl,rfl⟩⟩
 have one:∀i,∃c:α,i<n->∃es,rep (aH W) (ec c) [] 2 es/\es.length=z/\FzAt (aH W).G b (o+i*z) es:=fun i=>by
  by_cases hi:i<n
  ·obtain⟨es,m,y,q1,q2,q3⟩:=h3 i hi
   obtain⟨c,hc⟩:=x6 m es y q3
   exact⟨c,fun _=>⟨es,hc,q1,Bj q2 (o5 (hm c) hc)⟩⟩
  exact⟨default,fun h=>absurd h hi⟩
 refine⟨n,fun i=>(one i).choose,zO,h0,some ⟨b,o,none⟩,cap,rfl,h1,h2,zO,fun e=>by omega,.inr ⟨b,o,rfl,fun i hi=>?_,fun ht=>by cases ht⟩⟩
 obtain⟨es,q1,q2,q3⟩:=(one i).choose_spec hi
 exact⟨es,q1,q2,hm _,q3⟩
theorem a0x(fuel:Nat)(cs:List Value)(x:DataW H×List MemPlace)(h:DataW.trod enc Tryz.prog W P4 (fun _=>true) held fuel 76 cs=some x):∃c:ActT,rep (aH W) (M9 c) [] 2 cs:=by
 obtain⟨xs,n,_,_,hl,hx,hi⟩:=DataW.trod_struct Tryz.underlying76 h
 rw[show Tryz.prog.cellsOf 76=6 by kernel_rfl]at hl
 obtain⟨c0,c1,c2,c3,c4,c5,rfl⟩:∃c0 c1 c2 c3 c4 c5,cs=[c0,c1,c2,c3,c4,c5]:=by
  match cs,hl with
 |[c0,c1,c2,c3,c4,c5],_=>exact⟨c0,c1,c2,c3,c4,c5,rfl⟩
 have hs:∀i,i<6->∃y,xs[i]? =some y:=fun i hi=>⟨_,B6 (by rw[hx];exact hi)⟩
 have num:∀{k:Nat} {t:TypeId} {v:Value} {y:DataW H×List MemPlace},Tryz.prog.underlying t=some (.int .i64)->DataW.trod enc Tryz.prog W P4 (fun _=>true) held k t [v]=some y->∃a:Int,rep (aH W) (.i .i64 a) [] 2 [v]:=fun {k t v y} hu hy=>by
  obtain⟨a,q,_,hw⟩:=DataW.trod_int (k:=.i64) hu hy
  have hb:=bounds_i64 hw
  exact⟨a,q,N4 ⟨zO,zO⟩⟩
 have f3:Tryz.prog.cellsOf 3=1:=by kernel_rfl
 have f2:Tryz.prog.cellsOf 2=1:=by kernel_rfl
 have f5:Tryz.prog.cellsOf 53=1:=by kernel_rfl
 obtain⟨y0,e0⟩:=hs 0 (by decide);obtain⟨y1,e1⟩:=hs 1 (by decide);obtain⟨y2,e2⟩:=hs 2 (by decide)
 obtain⟨y3,e3⟩:=hs 3 (by decide);obtain⟨y4,e4⟩:=hs 4 (by decide);obtain⟨y5,e5⟩:=hs 5 (by decide)
 have h0:DataW.trod enc Tryz.prog W P4 (fun _=>true) held n 3 (([c0,c1,c2,c3,c4,c5].drop 0).take (Tryz.prog.cellsOf 3))=some y0:=(hi 0 _ rfl).trans e0
 have h1:DataW.trod enc Tryz.prog W P4 (fun _=>true) held n 3 (([c0,c1,c2,c3,c4,c5].drop 1).take (Tryz.prog.cellsOf 3))=some y1:=(hi 1 _ rfl).trans e1
 have h2:DataW.trod enc Tryz.prog W P4 (fun _=>true) held n 3 (([c0,c1,c2,c3,c4,c5].drop 2).take (Tryz.prog.cellsOf 3))=some y2:=(hi 2 _ rfl).trans e2
 have h3:DataW.trod enc Tryz.prog W P4 (fun _=>true) held n 3 (([c0,c1,c2,c3,c4,c5].drop 3).take (Tryz.prog.cellsOf 3))=some y3:=(hi 3 _ rfl).trans e3
 have h4:DataW.trod enc Tryz.prog W P4 (fun _=>true) held n 2 (([c0,c1,c2,c3,c4,c5].drop 4).take (Tryz.prog.cellsOf 2))=some y4:=(hi 4 _ rfl).trans e4
 have h5:DataW.trod enc Tryz.prog W P4 (fun _=>true) held n 53 (([c0,c1,c2,c3,c4,c5].drop 5).take (Tryz.prog.cellsOf 53))=some y5:=(hi 5 _ rfl).trans e5
 rw[f3]at h0 h1 h2 h3
 rw[f2]at h4
 rw[f5]at h5
 obtain⟨a0,r0⟩:=num Tryz.underlying3 h0
 obtain⟨a1,r1⟩:=num Tryz.underlying3 h1
 obtain⟨a2,r2⟩:=num Tryz.underlying3 h2
 obtain⟨a3,r3⟩:=num Tryz.underlying3 h3
 obtain⟨a4,r4⟩:=num Tryz.underlying2 h4
 obtain⟨l,r5⟩:=a0v h5
 exact⟨⟨a0,a1,a2,a3,a4,l⟩,[c0,c1,c2,c3,c4],[c5],rfl,⟨[c0,c1,c2,c3],[c4],rfl,⟨[c0,c1,c2],[c3],rfl,⟨[c0,c1],[c2],rfl,⟨[c0],[c1],rfl,⟨[],[c0],rfl,rfl,r0⟩,r1⟩,r2⟩,r3⟩,r4⟩,r5 [] 2 (B3 _) (fun _ h=>by cases h)⟩
theorem a0y{base0:Nat}{v:Value}{d:DataW H}{p:List MemPlace}(hval:Value.okWide Tryz.prog W .any base0 22 v)(h:DataW.Trod enc Tryz.prog W P4 (fun _=>true) held 22 v d p):
  ∃(n:Nat) (g:Nat->ActT),n<=9223372036854775807/\repv (aH W) [] 16 (.sl 0 6 n fun i=>M9 (g i)) v:=by
 obtain⟨a,len,cap,rfl⟩:=okWide_slice Tryz.underlying22 hval
 obtain⟨fuel,hf⟩:=h
 obtain⟨n,g,h1,h2⟩:=a0w (ec:=M9) (z:=6) (e:=76) Tryz.underlying22 zK (by decide) (fun _=>rfl) a0x hf
 have mx:maxLen=9223372036854775807:=rfl
 refine⟨n,g,zO,?_⟩
 show rep (aH W) _ [] 16 [_]
 simpa [Value.cells] using h2
end
end
end Go.Proofs.YtibmfodphlmnfaaGreatDoor
