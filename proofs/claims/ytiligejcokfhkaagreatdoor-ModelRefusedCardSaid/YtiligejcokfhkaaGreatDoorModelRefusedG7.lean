/- Lemmas for the statement ModelRefused, part 7: rules of operations, walks through functions, plain laws. -/
import Derived.Test.YtiligejcokfhkaaGreatDoorModelRefusedG6
set_option maxRecDepth 100000
set_option linter.all false
namespace Go.Proofs.YtiligejcokfhkaaGreatDoor
open Go
open Go.IntKind (i64 u64 u8 u32)
open List (replicate)
open Nat (beq blt)
open BitVec (ofInt)
variable {cs:List Value} {fuel i m o:Nat} {α:Type} {e:TypeId} {x:Value}
def mO(tk:By):OpT:=⟨17,[],replicate 32 0,0,0,0,[],tk,0,replicate 32 0⟩
theorem ZW(s:StaR)(n:Nat)(tg:Nat->TenR)(hn:n=0)(hB:StB s n tg):SatM Tryz.prog false 24 [G1 (.sl 0 38 n fun i=>A7 (tg i)) s] [] (fun out ho A0=>out=yD 16 s/\ho=yE 16 (.ar 38 n fun i=>A7 (tg i)) s/\A0=[16,17,18]):=
 (ZF s n tg 0 hB).mono fun _ _ _ h=>h.elim (fun h=>absurd h.1 zO) fun h=>h.2
theorem Yx  :Sat Tryz.prog 61 [.s []] [] (fun out A0=>A0=[]/\(out=.b false)):=by
 refine cF Tryz.func61 fun X0 w0 hX=>?_
 refine O6 ((0:Int)<1) (by decide) ?_;exact xW hX (.b false) ⟨rfl,rfl,rfl⟩
theorem ZX(tk:By):Sat Tryz.prog 26 [J7 (mO tk)] [] (fun out A0=>A0=[]/\(out=.b true)):=by
 refine cF Tryz.func26 fun X0 w0 hX=>?_
 refine E6 ((17:Int)<1) (by decide) ?_;refine E6 (17<(17:Int)) (by decide) ?_;refine E6 ((0:Int)<0) (by decide) ?_;refine E6 ((0:Int)<0) (by decide) ?_;refine E6 ((0:Int)<0) (by decide) ?_;refine E6 (4096<(0:Int)) (by decide) ?_;refine cK [] (Xj) ?_;rintro out A0 ⟨rfl,rfl⟩
 refine kI (true) rfl ?_;refine E6 ((17:Int)=12) (by decide) ?_;refine E6 ((17:Int)=13) (by decide) ?_;refine E6 ((17:Int)=16) (by decide) ?_;refine cK [] (Yx) ?_;rintro out A0 ⟨rfl,rfl⟩
 refine AQ (false) rfl ?_;refine O6 (([]:By)=[]) (by decide) ?_;exact xW hX (.b true) ⟨rfl,rfl,rfl⟩ (hv:=vT (u:=.b (decide ((17:Int)=17))) v0)
theorem Yy(s:StaR)(m:Int)(n:Nat)(tg:Nat->TenR)(hn:n=0)(hr:s.nr=0)(hk:s.root.length=32):SatHM Tryz.prog false 27 [.pr 2 0 []] [4,5,6] (gS s (mO (mK (S6 s.root))) m n tg) (fun out ho A0=>∃m2,out=A1 [.i .i64 0,.bl 0 []]/\ho=gS s (mO (mK (S6 s.root))) m2 n tg/\A0=[4,5,6]):=by
 refine fH false Tryz.func27 fun X0 w0 hX hm=>?_
 refine E6 (((mK (S6 s.root)).length:Int)=0) (by unfold mK;simp only[D0,I6];omega) ?_;refine cK [] (Xd (S6 s.root) ZO) ?_;rintro out A0 ⟨rfl,rfl⟩
 refine E6 ((0:Int)≠0) (by decide) ?_;refine cK [] (Xf s.root (by assumption)) ?_;rintro out A0 ⟨rfl,rfl⟩
 refine E6 ((0:Int)≠0) (by decide) ?_;refine L5 (BC s.nr s.gr 0 bd) ?_;rintro out A0 ⟨rfl,⟨J9,dE,rfl,nK,iH⟩⟩
 refine⟨rfl,?_⟩
 refine cb (dE) (fun h1=>?_) fun h1=>?_
 ·exact absurd (iH (by assumption)) zO
 ·refine cK [] (Xh) ?_
  rintro out A0 ⟨rfl,rfl⟩
  refine cK [] (ZR (S6 s.root)) ?_;rintro out A0 ⟨rfl,rfl⟩
  refine cK [] (Xi) ?_;rintro out A0 ⟨rfl,rfl⟩
  refine kI (true) rfl ?_;refine FG (([]:By)=[]) (by decide) ?_;refine L5 (MI n tg [] bd) ?_;rintro out A0 ⟨rfl,⟨bp1,rfl,hbp1⟩⟩
  refine⟨rfl,?_⟩
  refine cb (bp1) (fun h2=>?_) fun h2=>?_
  ·exact absurd (hbp1 (by assumption)).1 zO
  ·refine E6 ((17:Int)=10) (by decide) ?_
   refine E6 ((17:Int)=13) (by decide) ?_;refine E6 ((17:Int)=16) (by decide) ?_;refine O6 ((17:Int)=17) (by decide) ?_;refine cK [] (E7 0) ?_;rintro out A0 ⟨rfl,rfl⟩
   exact xW hX (A1 [.i .i64 0,.bl 0 []]) ⟨0,rfl,rfl,rfl⟩
theorem Yz(s:StaR)(m:Int)(n:Nat)(tg:Nat->TenR)(hn:n=0)(hr:s.nr=0)(hk:s.root.length=32):SatHM Tryz.prog false 27 [.pr 2 0 []] [4,5,6] (gS s (mO []) m n tg) (fun out ho A0=>∃m2,out=A1 [.i .i64 401,.bl 0 []]/\ho=gS s (mO []) m2 n tg/\A0=[4,5,6]):=by
 refine fH false Tryz.func27 fun X0 w0 hX hm=>?_
 refine O6 ((0:Int)=0) (by decide) ?_;refine cK [] (E7 401) ?_;rintro out A0 ⟨rfl,rfl⟩
 exact xW hX (A1 [.i .i64 401,.bl 0 []]) ⟨m,rfl,rfl,rfl⟩
theorem Za(s:StaR)(tk:By)(m:Int)(n:Nat)(tg:Nat->TenR)(hh:s.head.length=32):SatHM Tryz.prog false 28 [.pr 2 0 []] [4,5,6] (gS s (mO tk) m n tg) (fun out ho A0=>∃b,out=A1 [.i .i64 200,.bl 0 b]/\ho=gS s (mO tk) m n tg/\A0=[4,5,6]/\b.length=32):=by
 refine fH false Tryz.func28 fun X0 w0 hX hm=>?_
 refine mM fV true ?_;refine E6 ((17:Int)=1) (by decide) ?_;refine E6 ((17:Int)=2) (by decide) ?_;refine E6 ((17:Int)=3) (by decide) ?_;refine E6 ((17:Int)=4) (by decide) ?_;refine E6 ((17:Int)=5) (by decide) ?_;refine E6 ((17:Int)=6) (by decide) ?_;refine E6 ((17:Int)=7) (by decide) ?_;refine E6 ((17:Int)=8) (by decide) ?_;refine E6 ((17:Int)=9) (by decide) ?_;refine E6 ((17:Int)=10) (by decide) ?_;refine E6 ((17:Int)=11) (by decide) ?_;refine E6 ((17:Int)=12) (by decide) ?_;refine E6 ((17:Int)=13) (by decide) ?_;refine E6 ((17:Int)=14) (by decide) ?_;refine E6 ((17:Int)=15) (by decide) ?_;refine E6 ((17:Int)=16) (by decide) ?_;refine kB (HC ((s.head.drop 0).take 32) (by simp only[F7,K4];omega) bd) ?_;rintro out ho A0 ⟨rfl,rfl,rfl⟩
 refine⟨⟨rfl,BN trivial⟩,?_⟩
 refine gZ 2912 ?_;refine cK [] (kL ((s.head.drop 0).take 32)) ?_;rintro out A0 ⟨rfl,rfl⟩
 exact xW hX (A1 [.i .i64 200,.bl 0 ((s.head.drop 0).take 32)]) ⟨_,rfl,rfl,rfl,by simp only[F7,K4];omega⟩
def aF(s:StaR)(e:Ent)(h:By):StaR:=⟨s.root,s.delay,s.serial,s.nr,s.gr,s.nl+1,L6 s.nl s.gl e,h⟩
theorem Zb(s:StaR)(n:Nat)(tg:Nat->TenR)(hn:n=0)(hnr:s.nr=0)(hl:s.nl<=10)(hg:∀i,i<s.nl->(s.gl i).tenant.length<=100):SatM Tryz.prog false 13 [G1 (.sl 0 38 n fun i=>A7 (tg i)) s,J7 (mO (mK (S6 s.root)))] [] (fun out ho A0=>∃(b:By) (e:Ent) (h:By),out=A2 [yD 16 (aF s e h),A1 [.i .i64 200,.bl 0 b]]/\ho=yE 16 (rT n tg) (aF s e h)/\A0=[]/\b.length=32/\e.seq=s.nl/\e.tenant.length<=100):=by
 refine fM false Tryz.func13 fun X0 w0 hX hm=>?_
 refine rS 0 fun hv=>?_
 have hk:s.root.length=32:=hv 0 (show 0<7 by decide)
 have hh:s.head.length=32:=hv 6 (show 6<7 by decide)
 have hB:StB s n tg:=⟨zO,zO,zO,fun i hi=>absurd hi zO,fun i hi=>absurd hi zO⟩
 refine kO [] (ZW s n tg hn hB) ?_;rintro out ho A0 ⟨rfl,rfl,rfl⟩
 refine cB (4096<=(s.nl:Int)) (fun h1=>?_) fun h1=>?_
 ·exact absurd h1 zO
 ·refine cK [] (ZX (mK (S6 s.root))) ?_
  rintro out A0 ⟨rfl,rfl⟩
  refine kI (true) rfl ?_;refine kH [(1232,2),(400,3),(352,4),(353,5),(354,6)] [1232,400,352,353,354] (Yy s 0 n tg hn hnr hk) ?_;rintro out ho A0 ⟨m0,rfl,rfl,rfl⟩
  refine O6 ((0:Int)=0) (by decide) ?_;refine kH [(1232,2),(400,3),(352,4),(353,5),(354,6)] [1232,400,352,353,354] (Za s (mK (S6 s.root)) m0 n tg hh) ?_;rintro out ho A0 ⟨b1,rfl,rfl,rfl,P8⟩
  refine cK [] (pF s.head ⟨(s.nl:Int),0,m0,[],17,200,(replicate 32 0)⟩ bd) ?_;rintro out A0 ⟨rfl,⟨vO,le2,rfl⟩⟩
  refine cC ((s.nl+1)*88<=140737488355328) ?_;refine jA 2 8656 (fun(u:Unit)=>[(4,.pr 144 0 []),(5,.pr 208 0 [])]) (fun(u:Unit)=>[(144,A1 [.bs 32 s.root,.i .i64 s.delay,.i .u64 s.serial,.os 352 38,.os 353 1,.os 4112 38,.bs 32 vO]),(352,rT n tg),(353,rR s),(4112,.ar 38 (s.nl+1) fun i=>bif blt i s.nl then H9 (s.gl i) else A1 [.i .i64 (s.nl:Int),.i .i64 0,.i .u64 m0,.s [],.i .i64 17,.i .i64 200,.bs 32 (replicate 32 0)]),(208,A1 [.i .i64 200,.bl 0 b1])]) (fun(u:Unit)=>True) [352,353,4112] (fun R hR i hi=>?_) ?_
  ·match i,hi with
  |0,_|1,_=>
    exact cA hX (hR () zT)
  ·rintro u hJ
   exact xW hX (A2 [A1 [.bs 32 s.root,.i .i64 s.delay,.i .u64 s.serial,.os 16 38,.os 17 1,.os 18 38,.bs 32 vO],A1 [.i .i64 200,.bl 0 b1]]) ⟨b1,⟨(s.nl:Int),0,m0,[],17,200,(replicate 32 0)⟩,vO,rfl,rfl,rfl,by assumption,rfl,by simp⟩ (hH:=⟨v0,v0,(vT (u:=.ar 38 (s.nl+1) fun i=>bif blt i s.nl then H9 (s.gl i) else A1 [.i .i64 (s.nl:Int),.i .i64 0,.i .u64 m0,.s [],.i .i64 17,.i .i64 200,.bs 32 (replicate 32 0)]) ((jH (e:=H9)))),zT⟩)
theorem Zc(s:StaR)(n:Nat)(tg:Nat->TenR)(hn:n=0)(hnr:s.nr=0)(hl:s.nl<=10)(hg:∀i,i<s.nl->(s.gl i).tenant.length<=100):SatM Tryz.prog false 13 [G1 (.sl 0 38 n fun i=>A7 (tg i)) s,J7 (mO [])] [] (fun out ho A0=>∃(b:By) (e:Ent) (h:By),out=A2 [yD 16 (aF s e h),A1 [.i .i64 401,.bl 0 b]]/\ho=yE 16 (rT n tg) (aF s e h)/\A0=[]/\b=[]/\e.seq=s.nl/\e.tenant.length<=100):=by
 refine fM false Tryz.func13 fun X0 w0 hX hm=>?_
 refine rS 0 fun hv=>?_
 have hk:s.root.length=32:=hv 0 (show 0<7 by decide)
 have hh:s.head.length=32:=hv 6 (show 6<7 by decide)
 have hB:StB s n tg:=⟨zO,zO,zO,fun i hi=>absurd hi zO,fun i hi=>absurd hi zO⟩
 refine kO [] (ZW s n tg hn hB) ?_;rintro out ho A0 ⟨rfl,rfl,rfl⟩
 refine cB (4096<=(s.nl:Int)) (fun h1=>?_) fun h1=>?_
 ·exact absurd h1 zO
 ·refine cK [] (ZX []) ?_
  rintro out A0 ⟨rfl,rfl⟩
  refine kI (true) rfl ?_;refine kH [(1232,2),(400,3),(352,4),(353,5),(354,6)] [1232,400,352,353,354] (Yz s 0 n tg hn hnr hk) ?_;rintro out ho A0 ⟨m0,rfl,rfl,rfl⟩
  refine E6 ((401:Int)=0) (by decide) ?_;refine cK [] (pF s.head ⟨(s.nl:Int),0,m0,[],17,401,(replicate 32 0)⟩ bd) ?_;rintro out A0 ⟨rfl,⟨lm1,le1,rfl⟩⟩
  refine cC ((s.nl+1)*88<=140737488355328) ?_;refine jA 2 8464 (fun(u:Unit)=>[(4,.pr 144 0 []),(5,.pr 208 0 [])]) (fun(u:Unit)=>[(144,A1 [.bs 32 s.root,.i .i64 s.delay,.i .u64 s.serial,.os 352 38,.os 353 1,.os 3920 38,.bs 32 lm1]),(352,rT n tg),(353,rR s),(3920,.ar 38 (s.nl+1) fun i=>bif blt i s.nl then H9 (s.gl i) else A1 [.i .i64 (s.nl:Int),.i .i64 0,.i .u64 m0,.s [],.i .i64 17,.i .i64 401,.bs 32 (replicate 32 0)]),(208,A1 [.i .i64 401,.bl 0 []])]) (fun(u:Unit)=>True) [352,353,3920] (fun R hR i hi=>?_) ?_
  ·match i,hi with
  |0,_|1,_=>
    exact cA hX (hR () zT)
  ·rintro u hJ
   exact xW hX (A2 [A1 [.bs 32 s.root,.i .i64 s.delay,.i .u64 s.serial,.os 16 38,.os 17 1,.os 18 38,.bs 32 lm1],A1 [.i .i64 401,.bl 0 []]]) ⟨[],⟨(s.nl:Int),0,m0,[],17,401,(replicate 32 0)⟩,lm1,rfl,rfl,rfl,rfl,rfl,by simp⟩ (hH:=⟨v0,v0,(vT (u:=.ar 38 (s.nl+1) fun i=>bif blt i s.nl then H9 (s.gl i) else A1 [.i .i64 (s.nl:Int),.i .i64 0,.i .u64 m0,.s [],.i .i64 17,.i .i64 401,.bs 32 (replicate 32 0)]) ((jH (e:=H9)))),zT⟩)
def BW{α:Type}(n:Nat)(f g:Nat->α):Nat->α:=fun i=>bif blt i n then f i else g (i-n)
theorem Zd{t z n:Nat}{e:α->V}{f g:Nat->α}:VEq (.sl t z (n+m) fun i=>bif blt i n then e (f i) else e (g (i-n))) (.sl t z (n+m) fun i=>e (BW n f g i)):=.sl _ _ _ _ _ fun i _=>by
 unfold BW
 cases blt i n<;>rfl
def yH(x:StN):StaR:=⟨x.s.root,x.s.delay,x.s.serial,x.s.nr,x.s.gr,0,fun _=>default,replicate 32 0⟩
def NT(x:StN):V:=G1 (.sl 0 38 x.n fun i=>A7 (x.tg i)) (yH x)
def ZY(x y:StN):Prop:=y.s.serial=x.s.serial/\y.s.nr=x.s.nr/\y.s.gr=x.s.gr/\y.n=x.n/\∀k,k<x.n->y.tg k=x.tg k
theorem ZZ(x y:StN)(hx:SOk x.s x.n x.tg)(h:ZY x y)(e:y.s.root=x.s.root/\y.s.delay=x.s.delay):Sat Tryz.prog 8 [NT x,NT y] [] (fun out A0=>A0=[]/\out=.b true):=by
 obtain⟨h1,h2,h3,h4,h5⟩:=h
 obtain⟨e1,e2⟩:=e
 refine mD (Yo (yH x) x.n x.tg hx.hn hx.hr (by simp[yH]) fun i hi=>⟨N1 (hx.hb i hi).nb (by decide),N1 (hx.hb i hi).ns (by decide),N1 (hx.hb i hi).nd (by decide)⟩) ⟨.rfl _,?_,zT⟩;have h6:yH y=yH x:=by unfold yH;rw[h1,h2,h3,e1,e2]
 unfold NT
 rw[h4,h6]
 exact C4 ⟨.rfl _,.rfl _,.rfl _,.sl _ _ _ _ _ fun i hi=>by rw[h5 i hi],.rfl _,.rfl _,.rfl _,zT⟩
theorem Aa{o:OpT}{x y:StN}{a:AnsT}(h:StpQ o x y a)(hc:a.c≠200)(hd:a.c≠201):ZY x y/\a.b=[]:=by
 rcases h.p.ref with q|q|⟨h1,h2,h3,h4,h5,h6⟩
 ·exact absurd q hc
 ·exact absurd q hd
 ·exact⟨⟨h1,h2,h3,h4,h5⟩,h6⟩
theorem Ze:∀i,i<9->(bC i).data.length<=4096:=fun i hi=>match i,hi with|0,_=>by decide|1,_=>by decide|2,_=>by decide|3,_=>by decide|4,_=>by decide|5,_=>by decide|6,_=>by decide|7,_=>by decide|8,_=>by decide
theorem Zf{n:Nat}{g:Nat->ActT}(h:∀i,i<n->(g i).data.length<=4096):∀i,i<9+n->(BW 9 bC g i).data.length<=4096:=fun i hi=>by
 unfold BW
 by_cases h9:i<9
 ·rw[show blt i 9=true from by rw[B0];exact h9];exact Ze i h9
 ·rw[show blt i 9=false from by rw[<-Bool.not_eq_true,B0];exact h9];exact h _ zO
theorem Zg(hB:SatM Tryz.prog false 4 [] [] (fun out ho A0=>out=.b true/\ho=[]/\A0=[]))(d:Int)(n:Nat)(g:Nat->ActT)(hn:n<=9223372036854775807):SatM Tryz.prog true 3 [.i .i64 d,.sl 0 6 n fun i=>M9 (g i)] [] (fun out ho A0=>out=.b true/\ho=[]/\A0=[]):=by
 refine fM true Tryz.func3 fun X0 w0 hX hm=>?_
 refine kO [] (hB) ?_;rintro out ho A0 ⟨rfl,rfl,rfl⟩
 refine kI (true) rfl ?_;refine cK [] (Yi n g 40 bd) ?_;rintro out A0 ⟨rfl,⟨pL,rfl,hL⟩⟩
 refine cn (pL) (fun h1=>?_) fun h1=>?_
 ·exact xW hX (.b true) ⟨rfl,rfl,rfl⟩
 ·have hL2:=hL (by assumption)
  have hgA:=Zf hL2.2
  refine cK [] (Yr) ?_;rintro out A0 ⟨rfl,rfl⟩
  refine cC ((9+n)*64<=140737488355328) ?_;refine kM (fun _=>hm rfl) [] (mD (ins':=[.i .i64 d,.sl 0 6 (9+n) fun i=>bif blt i 9 then M9 (bC i) else M9 (g (i-9))]) (Yw d (9+n) (BW 9 bC g) zO hgA) ⟨.rfl _,Zd (e:=M9),zT⟩) ?_;rintro out ho A0 ⟨m,gs,go,ga,rfl,rfl,rfl,j8,hQ⟩
  refine cM hX (fun(i:Nat)=>[(5,.pr 720 0 []),(6,.i .i64 (i:Int))]) (fun(i:Nat)=>[(720,A1 [.sl 0 69 (m+1) fun i=>dR (gs i),.sl 0 72 m fun i=>J7 (go i),.sl 0 2 m fun i=>cQ (ga i),.uk 1])]) (fun(i:Nat)=>i<=m) (fun(i:Nat)=>m-i) [] 912 0 zO ?_;rintro i hI R hR
  refine cB ((i:Int)<(m:Int)) (fun h2=>?_) fun h2=>?_
  ·have hw:(i64.wrap ((i:Int)+1)).toNat=i+1:=by rw[N6 ⟨zO,zO⟩];omega
   have hq:StpQ (go i) (gs i) (gs (i64.wrap ((i:Int)+1)).toNat) (ga i):=by rw[hw];exact hQ i zO
   refine cC ((0:Int)<=(i:Int)/\(i:Int)<(m:Int)) ?_;refine jB ((go i).do=2) 5776 (fun(q:Bool)=>[(5,.pr 720 0 []),(6,.i .i64 (i:Int)),(8,.b q)]) (fun(q:Bool)=>[(720,A1 [.sl 0 69 (m+1) fun i=>dR (gs i),.sl 0 72 m fun i=>J7 (go i),.sl 0 2 m fun i=>cQ (ga i),.uk 1])]) (fun(q:Bool)=>q=true->V3 (go i).do) [] (fun R hR=>⟨fun h3=>?_,fun h3=>?_⟩) ?_
   ·exact cA hX (hR true (by intro hq;first|(simp at hq;done)|(unfold V3;simp at hq;omega)|(unfold V3;omega))) (hS:=⟨v0,v0,(vT (.bc true)),zT⟩)
   ·refine cB ((go i).do=4) (fun h4=>?_) fun h4=>?_
    ·exact cA hX (hR true (by intro hq;first|(simp at hq;done)|(unfold V3;simp at hq;omega)|(unfold V3;omega))) (hS:=⟨v0,v0,(vT (.bc true)),zT⟩)
    ·refine cB ((go i).do=5) (fun h5=>?_) fun h5=>?_
     ·exact cA hX (hR true (by intro hq;first|(simp at hq;done)|(unfold V3;simp at hq;omega)|(unfold V3;omega))) (hS:=⟨v0,v0,(vT (.bc true)),zT⟩)
     ·refine cB ((go i).do=6) (fun h6=>?_) fun h6=>?_
      ·exact cA hX (hR true (by intro hq;first|(simp at hq;done)|(unfold V3;simp at hq;omega)|(unfold V3;omega))) (hS:=⟨v0,v0,(vT (.bc true)),zT⟩)
      ·refine cB ((go i).do=9) (fun h7=>?_) fun h7=>?_
       ·exact cA hX (hR true (by intro hq;first|(simp at hq;done)|(unfold V3;simp at hq;omega)|(unfold V3;omega))) (hS:=⟨v0,v0,(vT (.bc true)),zT⟩)
       ·refine cB ((go i).do=16) (fun h8=>?_) fun h8=>?_
        ·exact cA hX (hR true (by intro hq;first|(simp at hq;done)|(unfold V3;simp at hq;omega)|(unfold V3;omega))) (hS:=⟨v0,v0,(vT (.bc true)),zT⟩)
        ·exact cA hX (hR (decide ((go i).do=17)) (by intro hq;first|(simp at hq;done)|(unfold V3;simp at hq;omega)|(unfold V3;omega)))
   ·rintro q hJ
    refine jb (q) 10000 (fun(u:Unit)=>[(5,.pr 720 0 []),(6,.i .i64 (i:Int)),(93,.b false)]) (fun(u:Unit)=>[(720,A1 [.sl 0 69 (m+1) fun i=>dR (gs i),.sl 0 72 m fun i=>J7 (go i),.sl 0 2 m fun i=>cQ (ga i),.uk 1])]) (fun(u:Unit)=>True) [] (fun R hR=>⟨fun h9=>?_,fun h9=>?_⟩) ?_
    ·have hS:=hq.p.rd (hJ (by assumption))
     refine cC ((0:Int)<=(i:Int)/\(i:Int)<((m+1):Int)) ?_;refine cC ((0:Int)<=(i64.wrap ((i:Int)+1))/\(i64.wrap ((i:Int)+1))<((m+1):Int)) ?_ bw;refine cK [] (HK ((gs i)).s ((gs i)).n ((gs i)).tg) ?_;rintro out A0 ⟨rfl,rfl⟩
     refine cK [] (HK ((gs (((i64.wrap ((i:Int)+1))).toNat))).s ((gs (((i64.wrap ((i:Int)+1))).toNat))).n ((gs (((i64.wrap ((i:Int)+1))).toNat))).tg) ?_;rintro out A0 ⟨rfl,rfl⟩
     refine cK [] (ZZ (gs i) (gs (((i64.wrap ((i:Int)+1))).toNat)) hq.ok hS hq.p.eq) ?_;rintro out A0 ⟨rfl,rfl⟩
     exact cA hX (hR () zT)
    ·refine cC ((0:Int)<=(i:Int)/\(i:Int)<(m:Int)) ?_
     refine cB ((ga i).c≠200) (fun I7=>?_) fun I7=>?_
     ·refine cC ((0:Int)<=(i:Int)/\(i:Int)<(m:Int)) ?_
      refine cB ((ga i).c≠201) (fun K8=>?_) fun K8=>?_
      ·have hS:=(Aa hq (by assumption) (by assumption)).1
       refine cC ((0:Int)<=(i:Int)/\(i:Int)<((m+1):Int)) ?_;refine cC ((0:Int)<=(i64.wrap ((i:Int)+1))/\(i64.wrap ((i:Int)+1))<((m+1):Int)) ?_ bw;refine cK [] (HK ((gs i)).s ((gs i)).n ((gs i)).tg) ?_;rintro out A0 ⟨rfl,rfl⟩
       refine cK [] (HK ((gs (((i64.wrap ((i:Int)+1))).toNat))).s ((gs (((i64.wrap ((i:Int)+1))).toNat))).n ((gs (((i64.wrap ((i:Int)+1))).toNat))).tg) ?_;rintro out A0 ⟨rfl,rfl⟩
       refine cK [] (ZZ (gs i) (gs (((i64.wrap ((i:Int)+1))).toNat)) hq.ok hS hq.p.eq) ?_;rintro out A0 ⟨rfl,rfl⟩
       exact cA hX (hR () zT)
      ·exact cA hX (hR () zT) (hS:=⟨v0,v0,(vT (.bc false)),zT⟩)
     ·exact cA hX (hR () zT) (hS:=⟨v0,v0,(vT (.bc false)),zT⟩)
    ·rintro u hJ
     refine AQ (false) rfl ?_;refine cC ((0:Int)<=(i:Int)/\(i:Int)<(m:Int)) ?_;refine cB ((ga i).c≠200) (fun h12=>?_) fun h12=>?_
     ·refine cC ((0:Int)<=(i:Int)/\(i:Int)<(m:Int)) ?_
      refine cB ((ga i).c≠201) (fun U3=>?_) fun U3=>?_
      ·refine cC ((0:Int)<=(i:Int)/\(i:Int)<(m:Int)) ?_
       refine cB ((((ga i).b).length:Int)≠0) (fun j9=>?_) fun j9=>?_
       ·exact absurd (show(((ga i).b).length:Int)=0 by rw[(Aa hq (by assumption) (by assumption)).2];rfl) (by assumption)
       ·exact cA hX (hR (i+1) zO zO) (hS:=⟨v0,(vS bd),zT⟩)
      ·exact cA hX (hR (i+1) zO zO) (hS:=⟨v0,(vS bd),zT⟩)
     ·exact cA hX (hR (i+1) zO zO) (hS:=⟨v0,(vS bd),zT⟩)
  ·exact xW hX (.b true) ⟨rfl,rfl,rfl⟩
def gT(r:By):StaR:=⟨r,5,0,0,fun _=>0,0,fun _=>default,replicate 32 0⟩
def r3:By:=(replicate 32 0).set 0 3
theorem HL{s:StaR}{e:Ent}{h:By}(hg:∀i,i<s.nl->(s.gl i).tenant.length<=100)(he:e.tenant.length<=100):∀i,i<(aF s e h).nl->((aF s e h).gl i).tenant.length<=100:=fun i hi=>mJ (p:=fun x:Ent=>x.tenant.length<=100) hg he i hi
theorem Zh{s:StaR}{e:Ent}{h:By}{n:Nat}(hn:s.nl=n)(hs:e.seq=s.nl):((aF s e h).gl n).seq=(n:Int):=by
 subst hn
 show(L6 s.nl s.gl e s.nl).seq=_
 rw[BV,hs]
theorem Zi(r:By):Sat Tryz.prog 10 [.bs 32 r,.i .i64 5] [] (fun out A0=>A0=[]/\(out=G1 (.sl 0 38 0 fun i=>A7 ((fun _=>default) i)) (gT r))):=by
 refine cF Tryz.func10 fun X0 w0 hX=>?_
 exact xW hX (G1 (.sl 0 38 0 fun i=>A7 ((fun _=>default) i)) (gT r)) ⟨rfl,rfl,rfl⟩ (hv:=vT (u:=A1 [.bs 32 r,.i .i64 (if 5<0 then 0 else 5),.i .u64 0,.sl 0 38 0 fun _=>.un,.sl 0 1 0 fun _=>.un,.sl 0 38 0 fun _=>.un,.bs 32 (replicate 32 0)]) (C4 ⟨v0,v0,v0,vN,vN,vN,v0,zT⟩))
theorem Zj  :SatM Tryz.prog false 4 [] [] (fun out ho A0=>out=.b true/\ho=[]/\A0=[]):=by
 refine fM false Tryz.func4 fun X0 w0 hX hm=>?_
 refine cK [] (Zi r3) ?_;rintro out A0 ⟨rfl,rfl⟩
 refine cK [] (Wp r3 rfl) ?_;rintro out A0 ⟨rfl,rfl⟩
 refine cK [] (Wu (S6 r3) ZO) ?_;rintro out A0 ⟨rfl,rfl⟩
 refine kO [] (mD (ins':=[G1 (.sl 0 38 0 fun i=>A7 ((fun _=>default) i)) (gT r3),A1 [.i .i64 17,.s [],.bs 32 (replicate 32 0),.i .i64 0,.i .i64 0,.i .u8 0,.bl 1 [],.bl 0 (mK (S6 r3)),.i .i64 0,.bs 32 (replicate 32 0)]]) (Zb (gT r3) 0 (fun _=>default) rfl rfl (L8 _) (fun i hi=>absurd hi (x4 i))) ⟨.rfl _,(C4 ⟨.rfl _,.rfl _,.rfl _,.rfl _,.rfl _,.rfl _,.fb _,.rfl _,.rfl _,.rfl _,zT⟩),zT⟩) ?_;rintro out ho A0 ⟨b0,e0,h0,rfl,rfl,rfl,S9,hs0,qH⟩
 have hg1:=HL (s:=gT r3) (h:=h0) (fun i hi=>absurd hi (x4 i)) qH
 have dD:(aF (gT r3) e0 h0).nl<=10:=by show 0+1<=10;decide
 refine gZ 1056 ?_;refine gZ 1057 ?_;refine gZ 1058 ?_;refine kO [] (mD (ins':=[G1 (.sl 0 38 0 fun i=>A7 ((fun _=>default) i)) (aF (gT r3) e0 h0),A1 [.i .i64 17,.s [],.bs 32 (replicate 32 0),.i .i64 0,.i .i64 0,.i .u8 0,.bl 1 [],.bl 1 [],.i .i64 0,.bs 32 (replicate 32 0)]]) (Zc (aF (gT r3) e0 h0) 0 (fun _=>default) rfl rfl dD hg1) ⟨.rfl _,(C4 ⟨.rfl _,.rfl _,.rfl _,.rfl _,.rfl _,.rfl _,.fb _,.fb _,.rfl _,.rfl _,zT⟩),zT⟩) ?_;rintro out ho A0 ⟨b1,e1,h1,rfl,rfl,rfl,P8,lE,vI⟩
 refine gZ 1696 ?_;refine gZ 1697 ?_;refine gZ 1698 ?_;refine O6 ((200:Int)=200) (by decide) ?_;refine O6 ((b0.length:Int)=32) zO ?_;refine O6 (((aF (gT r3) e0 h0).nl:Int)=1) rfl ?_;refine O6 ((401:Int)=401) (by decide) ?_;refine O6 (((aF (aF (gT r3) e0 h0) e1 h1).nl:Int)=2) rfl ?_;refine cC ((0:Int)<=1/\1<((aF (aF (gT r3) e0 h0) e1 h1).nl:Int)) ?_ (hp:=by show(0:Int)<=1/\(1:Int)<((2:Nat):Int);decide);exact xW hX (.b (decide (((aF (aF (gT r3) e0 h0) e1 h1).gl 1).seq=1))) ⟨by rw[Zh (n:=1) rfl lE];rfl,rfl,rfl⟩
section
open Go Go.ChangeShapes Go.WideShapes Go.ChangeAt Go.RowKit Go.Deep Go.ChangeMaps
def aG(W:World):Cx:=⟨fun b i=>match W.cell? (ad b i) with|some x=>bif x.oneCell' then .fz x else .no|none=>.no,fun _ _=>none,fun _ _ _=>True,0,W.heap.size,true⟩
theorem Ab{W:World}{b:Nat}(h:W.cell? (ad b i)=some x)(h1:x.oneCell'=true):(aG W).G b i=.fz x:=by
 show(match W.cell? (ad b i) with|some x=>bif x.oneCell' then Ow.fz x else .no|none=>.no)=_
 rw[h];simp only[h1,cond_true]
theorem tW{W:World}{b:Nat}{o:Ow}(h:(aG W).G b i=o)(hn:o≠ .no):∃x,W.cell? (ad b i)=some x/\x.oneCell'=true/\o=.fz x:=by
 have h:(match W.cell? (ad b i) with|some x=>bif x.oneCell' then Ow.fz x else .no|none=>.no)=o:=h
 cases hc:W.cell? (ad b i) with
|none=>rw[hc]at h;exact absurd h.symm hn
|some x=>
  rw[hc]at h
  cases h1:x.oneCell' with
 |false=>simp only[h1,cond_false]at h;exact absurd h.symm hn
 |true=>simp only[h1,cond_true]at h;exact⟨x,rfl,h1,h.symm⟩
theorem Ac{W:World}{b:Nat}(h:W.cell? (ad b i)=some x):b<W.heap.size:=by
 unfold World.cell? at h
 cases e:W.heap[b]? with
|none=>simp[e]at h
|some o=>exact(Z3.1 e).1
theorem Zk{W:World}(hT:Lib.TabIs Tryz.prog W "internal/strconv.uint64pow10" .u64 Lib.pow10Tab):∀g,JV g->FzAt (aG W).G g 0 eO/\∃C T fr,W.heap[g]? =some (.cells C T fr)/\C.size=eO.length:=fun g hg=>by
 have hg:Tryz.prog.globalNamed "internal/strconv.uint64pow10" =some g:=hg
 unfold Lib.TabIs World.var? at hT
 rw[hg,CA]at hT
 cases e:W.heap[g]? with
|none=>rw[e]at hT;cases hT
|some o=>
  rw[e]at hT
  cases o with
 |cells C T fr=>
   have hC:C=eO.toArray:=pM hT
   subst hC
   refine⟨fun k x hk=>Ab ?_ ?_,_,_,_,rfl,by simp⟩
   ·simp only[World.cell?, e,J3,Option.isSome_none,yM,if_false,eY]
    exact hk
   ·unfold eO at hk
    rw[Y4]at hk
    obtain⟨z,_,rfl⟩:=dW.1 hk
    rfl
 |_=>cases hT
theorem Zl(W:World)(hT:Lib.TabIs Tryz.prog W "internal/strconv.uint64pow10" .u64 Lib.pow10Tab):Wd (aG W) (aG W) h0 [] 16 W W where
 kb:=yS W _
 tape:=rfl
 fz0:=fun _ _ _ h=>h
 no0:=fun _ _ _ h=>.inl h
 mp0:=fun _ _ _ h=>h
 ρ0:=fun _ _ _ h=>h
 ex:=fun b i h=>by obtain⟨x,h1,_⟩:=tW rfl h;exact Ac h1
 fz:=fun b i x h=>by obtain⟨y,h1,h2,h3⟩:=tW h (by simp);cases h3;exact .cell h1 h2
 tp:=fun b i t h=>by obtain⟨y,_,_,h3⟩:=tW h (by simp);cases h3
 rt:=fun _ _ _ _ _ h=>(by cases h)
 c2:=by omega
 lvc:=fun _ h=>(by cases h)
 ρc:=fun _ _ _ h=>(by cases h)
 inv:=trivial
 imo:=fun _ _ _ _ _ _ _ h=>h
 κc:=L8 _
 νe:=rfl
 we:=rfl
 gz:=Zk hT
 ν0:=B5 _
 νs:=B5 _
 nf:=fun b hb ⟨i,hi⟩=>by
  obtain⟨x,h1,_⟩:=tW rfl hi
  have:=Ac h1
  have:W.heap.size<=b:=hb
  omega
theorem Zm{f:FuncId}{args:List Value}{W:World}{A4:List V}(hs:SatM Tryz.prog true f A4 [] (fun out ho A0=>out=.b true/\ho=[]/\A0=[]))(hT:Lib.TabIs Tryz.prog W "internal/strconv.uint64pow10" .u64 Lib.pow10Tab)(hl:args.length=A4.length)
  (ha:∀(i:Nat) v x,A4[i]? =some v->args[i]? =some x->repv (aG W) [] 16 v x):Ret Tryz.prog f args W fun v w'=>v=.bool true/\Hp W w' [] []:=
 (hs (aG W) W args hl ha ⟨fun _ _=>rfl,rfl,fun _ _ _ _=>trivial⟩ (Zl W hT) fun _=>rfl).mono fun v w' ⟨X',ho,A0,out,⟨h1,_,_⟩,h2,H⟩=>by
  subst h1
  refine⟨oO h2,H.kb.1,H.tape,H.kb.2.1,H.νs,fun b hb _=>ZE H.kb (fun b i h=>?_) (fun b h=>?_) b hb,by simp,by simp,.nil⟩
  ·rcases h with⟨r,j,k,h⟩|⟨t,h⟩
   ·obtain⟨_,_,_,h3⟩:=tW h (by simp);cases h3
   ·obtain⟨_,_,_,h3⟩:=tW h (by simp);cases h3
  ·obtain⟨_,t,h⟩:=h
   obtain⟨y,_,h2,h3⟩:=tW h (by simp)
   cases h3
   exact oE h2
section
variable {H:Type} {enc:TypeId×Value->H} {W:World} {P4:Nat} {held:Bool}
theorem Zn{a:Addr}(h:W.cell? a=some x):a.spot=none:=by
 obtain⟨b,o,s⟩:=a
 cases s with
|none=>rfl
|some s=>
  simp only[World.cell?]at h
  split at h
  ·simp at h
  ·cases h
theorem Ad(b o k:Nat):(⟨b,o,none⟩:Addr).add k=ad b (o+k):=by
 unfold Addr.add
 split
 ·rename_i h;subst h;rfl
 ·rfl
theorem Ae{t:TypeId}{z:Nat}{x:DataW H×List MemPlace}(ht:Tryz.prog.underlying t=some (.slice e))(hz:Tryz.prog.cellsOf e=z)(h0:0<z)(h:DataW.trod enc Tryz.prog W P4 (fun _=>true) held fuel t cs=some x):
  ∃a n cap,cs=[.slice a n cap]/\n<=cap/\cap<=maxLen/\(cap=0\/∃b o,a=some ⟨b,o,none⟩/\∀i,i<n->∃es m y,es.length=z/\(∀(k:Nat) v,es[k]? =some v->W.cell? (ad b (o+i*z+k))=some v)/\DataW.trod enc Tryz.prog W P4 (fun _=>true) held m e es=some y):=by
 rcases DataW.trod_slice ht h with⟨rfl,_⟩|⟨a,len,cap,elems,rest,m,_,rfl,_,_,hl,hm,D8,hel,fP,_⟩
 ·exact⟨none,0,0,rfl,B5 _,by decide,.inl rfl⟩
 refine⟨some a,len,cap,rfl,hl,hm,?_⟩
 by_cases hc:cap=0
 ·exact .inl hc
 have a0:a.add 0=a:=by unfold Addr.add;rw[if_pos rfl]
 have at0:∀k (y:DataW H×List MemPlace),k=0->(W.cells? P4 (a.add k) (Tryz.prog.cellsOf e)).bind (DataW.trod enc Tryz.prog W P4 (fun _=>true) held m e)=some y->a.spot=none:=fun k y hk hy=>by
  subst hk
  obtain⟨cs,v6,_⟩:=CI.1 hy
  obtain⟨_,lH,hq⟩:=World.cells?_some v6
  have h1:=hq 0 (by rw[hz];exact h0)
  rw[B7 zO,a0,a0]at h1
  exact Zn h1
 have hspot:a.spot=none:=by
  by_cases hn:0<len
  ·have h1:=hel 0 hn
   rw[B7 zO]at h1
   exact at0 _ _ (Nat.zero_mul _) h1
  ·obtain⟨r1,r2⟩:=fP rfl
   have h1:=r2 0 zO
   rw[B7 zO]at h1
   exact at0 _ _ (by rw[show len+0=0 by omega,Nat.zero_mul]) h1
 obtain⟨b,o,s⟩:=a
 simp only at hspot
 subst hspot
 refine .inr ⟨b,o,rfl,fun i hi=>?_⟩;have h1:=hel i hi
 rw[B7 zO]at h1
 obtain⟨es,iE,hy⟩:=CI.1 h1
 obtain⟨_,lH,hq⟩:=World.cells?_some iE
 rw[hz]at lH hq
 refine⟨es,m,_,lH,fun k v hk=>?_,hy⟩
 have hlt:=(N0.1 hk).1
 have h2:=hq k zO
 rw[hk,Ad,Ad]at h2
 exact h2
theorem Af{b:Nat}{es:List Value}(h:∀(k:Nat) v,es[k]? =some v->W.cell? (ad b (o+k))=some v)(h1:∀x∈es,x.oneCell'=true):FzAt (aG W).G b o es:=fun k x hk=>Ab (h k x hk) (h1 x (E3 hk))
theorem Zo{x:DataW H×List MemPlace}(h:DataW.trod enc Tryz.prog W P4 (fun _=>true) held fuel 36 cs=some x):∃l:By,∀lv c,2<=c->(∀t,t∈lv->2<=t)->rep (aG W) (.bl 0 l) lv c cs:=by
 obtain⟨a,n,cap,rfl,h1,h2,h3⟩:=Ae Tryz.underlying36 Fh (by decide) h
 rcases h3 with rfl|⟨b,o,rfl,h3⟩
 ·have:n=0:=by omega
  subst this
  exact⟨[],fun lv c hc hl=>⟨a,0,rfl,B5 _,by decide,zO,fun e=>by omega,.inl ⟨.inr rfl,rfl⟩⟩⟩
 have one:∀i,∃u:UInt8,i<n->W.cell? (ad b (o+i))=some (F0 u):=fun i=>by
  by_cases hi:i<n
  ·obtain⟨es,m,y,q1,q2,q3⟩:=h3 i hi
   obtain⟨k,rfl,_,hw⟩:=DataW.trod_int (t:=5) (k:=.u8) Tryz.underlying5 q3
   have hb:=bounds_u8 hw
   have:=q2 0 _ rfl
   rw[j6,s9]at this
   refine⟨UInt8.ofNat k.toNat,fun _=>this.trans ?_⟩
   show some (Value.int .u8 k)=some (Value.int .u8 _)
   rw[UInt8.toNat_ofNat']
   congr 2
   omega
  ·exact⟨0,fun h=>absurd h hi⟩
 have one':=fun i=>(one i).choose_spec
 refine⟨(List.range n).map fun i=>(one i).choose,fun lv c hc hl=>⟨some ⟨b,o,none⟩,cap,by simp,by simpa using h1,h2,zO,fun e=>by omega,.inr ⟨b,o,rfl,Af (fun k v hk=>?_) (wD _),fun ht=>by have:=hl 0 ht;omega⟩⟩⟩
 rw[Y4,Y4]at hk
 obtain⟨u,hu,rfl⟩:=dW.1 hk
 obtain⟨i,hi,rfl⟩:=dW.1 hu
 have hlt:k<n:=by have:=(N0.1 hi).1;simpa using this
 rw[HV hlt]at hi
 cases hi
 exact one' k hlt
theorem Zp{α:Type} [Inhabited α]{ec:α->V}{t:TypeId}{z:Nat}{x:DataW H×List MemPlace}(ht:Tryz.prog.underlying t=some (.slice e))(hz:Tryz.prog.cellsOf e=z)(h0:0<z)(hm:∀y,(ec y).mem=true)
  (x5:∀(m:Nat) (es:List Value) (y:DataW H×List MemPlace),DataW.trod enc Tryz.prog W P4 (fun _=>true) held m e es=some y->∃c:α,rep (aG W) (ec c) [] 2 es)
  (h:DataW.trod enc Tryz.prog W P4 (fun _=>true) held fuel t cs=some x):∃(n:Nat) (g:Nat->α),n<=maxLen/\rep (aG W) (.sl 0 z n fun i=>ec (g i)) [] 16 cs:=by
 obtain⟨a,n,cap,rfl,h1,h2,h3⟩:=Ae ht hz h0 h
 rcases h3 with rfl|⟨b,o,rfl,h3⟩
 ·have:n=0:=by omega
  subst this
  exact⟨0,fun _=>default,L8 _,h0,a,0,rfl,B5 _,by decide,zO,fun e=>by omega,.inl ⟨.inr rfl,rfl⟩⟩
 have one:∀i,∃c:α,i<n->∃es,rep (aG W) (ec c) [] 2 es/\es.length=z/\FzAt (aG W).G b (o+i*z) es:=fun i=>by
  by_cases hi:i<n
  ·obtain⟨es,m,y,q1,q2,q3⟩:=h3 i hi
   obtain⟨c,hc⟩:=x5 m es y q3
   exact⟨c,fun _=>⟨es,hc,q1,Af q2 (o5 (hm c) hc)⟩⟩
  ·exact⟨default,fun h=>absurd h hi⟩
 refine⟨n,fun i=>(one i).choose,zO,h0,some ⟨b,o,none⟩,cap,rfl,h1,h2,zO,fun e=>by omega,.inr ⟨b,o,rfl,fun i hi=>?_,fun ht=>by cases ht⟩⟩
 obtain⟨es,q1,q2,q3⟩:=(one i).choose_spec hi
 exact⟨es,q1,q2,hm _,q3⟩
theorem Zq(fuel:Nat)(cs:List Value)(x:DataW H×List MemPlace)(h:DataW.trod enc Tryz.prog W P4 (fun _=>true) held fuel 63 cs=some x):∃c:ActT,rep (aG W) (M9 c) [] 2 cs:=by
 obtain⟨xs,n,_,_,hl,hx,hi⟩:=DataW.trod_struct Tryz.underlying63 h
 rw[show Tryz.prog.cellsOf 63=6 by kernel_rfl]at hl
 obtain⟨c0,c1,c2,c3,c4,c5,rfl⟩:∃c0 c1 c2 c3 c4 c5,cs=[c0,c1,c2,c3,c4,c5]:=by
  match cs,hl with
 |[c0,c1,c2,c3,c4,c5],_=>exact⟨c0,c1,c2,c3,c4,c5,rfl⟩
 have hs:∀i,i<6->∃y,xs[i]? =some y:=fun i hi=>⟨_,B7 (by rw[hx];exact hi)⟩
 have num:∀{k:Nat} {t:TypeId} {v:Value} {y:DataW H×List MemPlace},Tryz.prog.underlying t=some (.int .i64)->DataW.trod enc Tryz.prog W P4 (fun _=>true) held k t [v]=some y->∃a:Int,rep (aG W) (.i .i64 a) [] 2 [v]:=fun {k t v y} hu hy=>by
  obtain⟨a,q,_,hw⟩:=DataW.trod_int (k:=.i64) hu hy
  have hb:=bounds_i64 hw
  exact⟨a,q,N6 ⟨zO,zO⟩⟩
 have f3:Tryz.prog.cellsOf 3=1:=by kernel_rfl
 have f2:Tryz.prog.cellsOf 2=1:=by kernel_rfl
 have f5:Tryz.prog.cellsOf 36=1:=by kernel_rfl
 obtain⟨y0,e0⟩:=hs 0 (by decide);obtain⟨y1,e1⟩:=hs 1 (by decide);obtain⟨y2,e2⟩:=hs 2 (by decide)
 obtain⟨y3,e3⟩:=hs 3 (by decide);obtain⟨y4,e4⟩:=hs 4 (by decide);obtain⟨y5,e5⟩:=hs 5 (by decide)
 have h0:DataW.trod enc Tryz.prog W P4 (fun _=>true) held n 3 (([c0,c1,c2,c3,c4,c5].drop 0).take (Tryz.prog.cellsOf 3))=some y0:=(hi 0 _ rfl).trans e0
 have h1:DataW.trod enc Tryz.prog W P4 (fun _=>true) held n 3 (([c0,c1,c2,c3,c4,c5].drop 1).take (Tryz.prog.cellsOf 3))=some y1:=(hi 1 _ rfl).trans e1
 have h2:DataW.trod enc Tryz.prog W P4 (fun _=>true) held n 3 (([c0,c1,c2,c3,c4,c5].drop 2).take (Tryz.prog.cellsOf 3))=some y2:=(hi 2 _ rfl).trans e2
 have h3:DataW.trod enc Tryz.prog W P4 (fun _=>true) held n 3 (([c0,c1,c2,c3,c4,c5].drop 3).take (Tryz.prog.cellsOf 3))=some y3:=(hi 3 _ rfl).trans e3
 have h4:DataW.trod enc Tryz.prog W P4 (fun _=>true) held n 2 (([c0,c1,c2,c3,c4,c5].drop 4).take (Tryz.prog.cellsOf 2))=some y4:=(hi 4 _ rfl).trans e4
 have h5:DataW.trod enc Tryz.prog W P4 (fun _=>true) held n 36 (([c0,c1,c2,c3,c4,c5].drop 5).take (Tryz.prog.cellsOf 36))=some y5:=(hi 5 _ rfl).trans e5
 rw[f3]at h0 h1 h2 h3
 rw[f2]at h4
 rw[f5]at h5
 obtain⟨a0,r0⟩:=num Tryz.underlying3 h0
 obtain⟨a1,r1⟩:=num Tryz.underlying3 h1
 obtain⟨a2,r2⟩:=num Tryz.underlying3 h2
 obtain⟨a3,r3⟩:=num Tryz.underlying3 h3
 obtain⟨a4,r4⟩:=num Tryz.underlying2 h4
 obtain⟨l,r5⟩:=Zo h5
 exact⟨⟨a0,a1,a2,a3,a4,l⟩,[c0,c1,c2,c3,c4],[c5],rfl,⟨[c0,c1,c2,c3],[c4],rfl,⟨[c0,c1,c2],[c3],rfl,⟨[c0,c1],[c2],rfl,⟨[c0],[c1],rfl,⟨[],[c0],rfl,rfl,r0⟩,r1⟩,r2⟩,r3⟩,r4⟩,r5 [] 2 (B5 _) (fun _ h=>by cases h)⟩
theorem Zr{base0:Nat}{v:Value}{d:DataW H}{p:List MemPlace}(hval:Value.okWide Tryz.prog W .any base0 22 v)(h:DataW.Trod enc Tryz.prog W P4 (fun _=>true) held 22 v d p):
  ∃(n:Nat) (g:Nat->ActT),n<=9223372036854775807/\repv (aG W) [] 16 (.sl 0 6 n fun i=>M9 (g i)) v:=by
 obtain⟨a,len,cap,rfl⟩:=okWide_slice Tryz.underlying22 hval
 obtain⟨fuel,hf⟩:=h
 obtain⟨n,g,h1,h2⟩:=Zp (ec:=M9) (z:=6) (e:=63) Tryz.underlying22 zK (by decide) (fun _=>rfl) Zq hf
 have mx:maxLen=9223372036854775807:=rfl
 refine⟨n,g,zO,?_⟩
 show rep (aG W) _ [] 16 [_]
 simpa [Value.cells] using h2
end
end
end Go.Proofs.YtiligejcokfhkaaGreatDoor
