/- Lemmas for the statement ModelSweeps, part 5: rules of operations, walks through functions, plain laws. -/
import Derived.Test.YtibmfodphlmnfaaGreatDoorModelSweepsG4
import Derived.DeepKeys3
import Derived.Ground.SlsfProg
import Derived.OrdersIn
import Derived.RangeFuncCalls
import Derived.RangeFuncIn
import Derived.RangeFuncLeaves
import Derived.RangeFuncRecord
import Derived.RangeFuncSeq
import Derived.Shelf.SlSortCmp.NoneTotal
import Derived.Shelf.Slices.Delete
import Derived.Shelf.Spec.SlicesInsertGrow
import Derived.TacticsIn
set_option maxRecDepth 100000
set_option linter.all false
namespace Go.Proofs.YtibmfodphlmnfaaGreatDoor
open Go
open Go.IntKind (i64 u64 u8 u32)
open List (replicate)
open Nat (beq blt)
open BitVec (ofInt)
variable {W3:Array TypeId} {X X0:Cx} {fn:Func} {L:List Ch} {S lv lv':List Nat} {cs es vs xs:List Value} {M N c c' cap i m o q r:Nat} {h':Nat->Nat->V} {P:Program} {α:Type} {x:Value} {w w' w0:World}
theorem o8{Q:Prop}(h:Q:=by first|(intro h;cases h;done)|(intro _;omega)):Q:=h
theorem XZ(o:OpT)(ho:o.tenant.length<1000000):Sat Tryz.prog 27 [J1 o] [] (fun out A0=>A0=[]/\(∃p,out=.b p/\(p=true->o.body.length<=4096/\o.tenant.length<=16/\1<=o.do/\o.do<=17))):=by
 refine cF Tryz.func27 fun X0 w0 hX=>?_
 refine cB (o.do<1) (fun h1=>?_) fun h1=>?_
 ·exact xW hX (.b false) ⟨rfl,rfl,⟨_,rfl,o8⟩⟩
 refine cB (17<o.do) (fun h2=>?_) fun h2=>?_
 ·exact xW hX (.b false) ⟨rfl,rfl,⟨_,rfl,o8⟩⟩
 refine cB (o.now<0) (fun h3=>?_) fun h3=>?_
 ·exact xW hX (.b false) ⟨rfl,rfl,⟨_,rfl,o8⟩⟩
 refine cB (o.number<0) (fun h4=>?_) fun h4=>?_
 ·exact xW hX (.b false) ⟨rfl,rfl,⟨_,rfl,o8⟩⟩
 refine cB (o.until<0) (fun h5=>?_) fun h5=>?_
 ·exact xW hX (.b false) ⟨rfl,rfl,⟨_,rfl,o8⟩⟩
 refine cB (4096<(o.body.length:Int)) (fun h6=>?_) fun h6=>?_
 ·exact xW hX (.b false) ⟨rfl,rfl,⟨_,rfl,o8⟩⟩
 refine cK [] (BM o.rights) ?_
 rintro out A0 ⟨rfl,⟨pk0,rfl⟩⟩
 refine cn (pk0) (fun h7=>?_) fun h7=>?_
 ·exact xW hX (.b false) ⟨rfl,rfl,⟨_,rfl,o8⟩⟩
 refine cB (o.do=12) (fun h8=>?_) fun h8=>?_
 ·refine cK [] (BL o.tenant bd) ?_
  rintro out A0 ⟨rfl,⟨pn1,rfl,hpn1⟩⟩
  refine cb (pn1) (fun h9=>?_) fun h9=>?_
  ·have ht:=hpn1 h9
   exact xW hX (.b true) ⟨rfl,rfl,⟨_,rfl,o8⟩⟩
  refine cB (o.tenant=[]) (fun J7=>?_) fun J7=>?_
  ·have ht:o.tenant.length<=16:=by rw[J7];exact L8 _
   exact xW hX (.b true) ⟨rfl,rfl,⟨_,rfl,o8⟩⟩
  exact xW hX (.b false) ⟨rfl,rfl,⟨_,rfl,o8⟩⟩
 refine cB (o.do=13) (fun P5=>?_) fun P5=>?_
 ·refine cK [] (BL o.tenant bd) ?_
  rintro out A0 ⟨rfl,⟨pn2,rfl,hpn2⟩⟩
  refine cb (pn2) (fun h12=>?_) fun h12=>?_
  ·have ht:=hpn2 h12
   exact xW hX (.b true) ⟨rfl,rfl,⟨_,rfl,o8⟩⟩
  refine cB (o.tenant=[]) (fun v8=>?_) fun v8=>?_
  ·have ht:o.tenant.length<=16:=by rw[v8];exact L8 _
   exact xW hX (.b true) ⟨rfl,rfl,⟨_,rfl,o8⟩⟩
  exact xW hX (.b false) ⟨rfl,rfl,⟨_,rfl,o8⟩⟩
 refine cB (o.do=16) (fun bW=>?_) fun bW=>?_
 ·refine cK [] (BL o.tenant bd) ?_
  rintro out A0 ⟨rfl,⟨pn3,rfl,hpn3⟩⟩
  refine cb (pn3) (fun aR=>?_) fun aR=>?_
  ·have ht:=hpn3 aR
   exact xW hX (.b true) ⟨rfl,rfl,⟨_,rfl,o8⟩⟩
  refine cB (o.tenant=[]) (fun K3=>?_) fun K3=>?_
  ·have ht:o.tenant.length<=16:=by rw[K3];exact L8 _
   exact xW hX (.b true) ⟨rfl,rfl,⟨_,rfl,o8⟩⟩
  exact xW hX (.b false) ⟨rfl,rfl,⟨_,rfl,o8⟩⟩
 refine cK [] (BL o.tenant bd) ?_
 rintro out A0 ⟨rfl,⟨pn4,rfl,hpn4⟩⟩
 refine cb (pn4) (fun h17=>?_) fun h17=>?_
 ·have ht:=hpn4 h17
  exact xW hX (.b true) ⟨rfl,rfl,⟨_,rfl,o8⟩⟩
 refine cB (o.tenant=[]) (fun h18=>?_) fun h18=>?_
 ·have ht:o.tenant.length<=16:=by rw[h18];exact L8 _
  exact xW hX (.b (decide (o.do=17))) ⟨rfl,rfl,⟨_,rfl,o8⟩⟩
 exact xW hX (.b false) ⟨rfl,rfl,⟨_,rfl,o8⟩⟩
theorem Sr(x:Snp)(s:StaR)(o:OpT)(t:TenR)(n:Int):Sat Tryz.prog 123 [C8 x,.pz (.pz (mU s o t n))] [] (fun out A0=>A0=[]/\(∃p,out=.b p)):=by
 refine cF Tryz.func123 fun X0 w0 hX=>?_
 exact xW hX (.b (decide (x.number=o.number))) ⟨rfl,rfl,⟨_,rfl⟩⟩
theorem Ss(m:Nat)(g:Nat->Snp)(hm:m<1000000)(s:StaR)(o:OpT)(t:TenR)(n:Int):Sat Tryz.prog 122 [.sl 0 36 m fun i=>C8 (g i),mS 123 [.pz (.pz (mU s o t n))]] [] (fun out A0=>A0=[]/\(∃j:Int,out=.i .i64 j/\ -1<=j/\j<m)):=by
 refine cF Tryz.func122 fun X0 w0 hX=>?_
 refine cM hX (fun(k:Nat)=>[(0,.sl 0 36 m fun i=>C8 (g i)),(1,mS 123 [.pz (.pz (mU s o t n))]),(7,.i .i64 (m:Int)),(8,.i .i64 (k:Int))]) (fun(k:Nat)=>[]) (fun(k:Nat)=>k<=m) (fun(k:Nat)=>m-k) [] 272 0 (by simp) ?_;rintro k hI R hR
 refine cB ((k:Int)<(m:Int)) (fun h1=>?_) fun h1=>?_
 ·refine cC ((0:Int)<=(k:Int)/\(k:Int)<(m:Int)) ?_
  refine cK [] (Sr (g k) s o t n) ?_;rintro out A0 ⟨rfl,⟨rI,rfl⟩⟩
  refine cb (rI) (fun h2=>?_) fun h2=>?_
  ·exact xW hX (.i .i64 (k:Int)) ⟨rfl,rfl,⟨_,rfl,zO,zO⟩⟩
  exact cA hX (hR (k+1) zO zO) (hS:=⟨v0,v0,v0,(vS bd),zT⟩)
 exact xW hX (.i .i64 (-1)) ⟨rfl,rfl,⟨_,rfl,zO,zO⟩⟩
def fD(d n:Int):Int:=if i64.wrap (9223372036854775807-d)<n then 9223372036854775807 else if i64.wrap (n+d)<1 then 1 else i64.wrap (n+d)
theorem NM(s:StaR)(o:OpT)(t:TenR)(n:Int):Sat Tryz.prog 125 [.pz (mU s o t n)] [] (fun out A0=>A0=[]/\(out=.i .i64 (fD s.delay o.now))):=by
 refine cF Tryz.func125 fun X0 w0 hX=>?_
 refine cB ((i64.wrap (9223372036854775807-s.delay))<o.now) (fun h1=>?_) fun h1=>?_
 ·exact xW hX (.i .i64 9223372036854775807) ⟨rfl,rfl,by rw[fD,if_pos h1]⟩
 exact xW hX (.i .i64 (if (i64.wrap (o.now+s.delay))<1 then 1 else (i64.wrap (o.now+s.delay)))) ⟨rfl,rfl,by rw[fD,if_neg h1]⟩
theorem NN(s:StaR)(o:OpT)(t:TenR)(n:Int)(x:By)(hn:t.nb<1000000):Sat Tryz.prog 112 [.pz (mU s o t n),.bs 32 x] [] (fun out A0=>A0=[]/\(∃(j:Nat) (p:Bool),out=A2 [.i .i64 j,.b p]/\j<=t.nb/\BsP t.nb (fun k=>Lib.compareBytes (t.gb k).of x) j p)):=by
 refine cF Tryz.func112 fun X0 w0 hX=>?_
 refine cK [] (Sp t.nb (fun i=>(t.gb i)) x bd) ?_;rintro out A0 ⟨rfl,⟨J9,dJ,rfl,oB,iM⟩⟩
 exact xW hX (A2 [.i .i64 (J9:Int),.b dJ]) ⟨rfl,rfl,⟨_,_,rfl,oB,iM⟩⟩
theorem YA(s:StaR)(o:OpT)(t:TenR)(n:Int)(x:By)(hn:t.nd<1000000):Sat Tryz.prog 133 [.pz (mU s o t n),.bs 32 x] [] (fun out A0=>A0=[]/\(∃(j:Nat) (p:Bool),out=A2 [.i .i64 j,.b p]/\j<=t.nd/\BsP t.nd (fun k=>Lib.compareBytes (t.gd k).of x) j p)):=by
 refine cF Tryz.func133 fun X0 w0 hX=>?_
 refine cK [] (Sq t.nd (fun i=>(t.gd i)) x bd) ?_;rintro out A0 ⟨rfl,⟨J9,dJ,rfl,oB,iM⟩⟩
 exact xW hX (A2 [.i .i64 (J9:Int),.b dJ]) ⟨rfl,rfl,⟨_,_,rfl,oB,iM⟩⟩
theorem YB(t:TenR)(h1:t.nb<=100000)(h2:t.ns<=100000)(hs:∀i,i<t.ns->(t.gs i).mani.label.length<=5000):Sat Tryz.prog 81 [B2 t] [] (fun out A0=>A0=[]/\(∃u,out=.i .i64 u)):=by
 refine cF Tryz.func81 fun X0 w0 hX=>?_
 refine cM hX (fun(p:Nat×Int)=>[(1,.pr 16 0 []),(3,.i .i64 p.2),(11,.sl 0 33 t.nb fun i=>C3 (t.gb i)),(12,.i .i64 (t.nb:Int)),(13,.i .i64 (p.1:Int))]) (fun(p:Nat×Int)=>[(16,B2 t)]) (fun(p:Nat×Int)=>p.1<=t.nb) (fun(p:Nat×Int)=>t.nb-p.1) [] 464 (0,0) (by simp) ?_;rintro⟨k,u⟩ hI R hR
 dsimp only at hI
 refine cB ((k:Int)<(t.nb:Int)) (fun h1=>?_) fun h1=>?_
 ·refine cC ((0:Int)<=(k:Int)/\(k:Int)<(t.nb:Int)) ?_
  exact cA hX (hR (k+1,(i64.wrap (u+(((t.gb k).data).length:Int)))) bd (by dsimp only;omega)) (hS:=⟨v0,v0,v0,v0,(vS bd),zT⟩)
 refine cM hX (fun(p:Nat×Int)=>[(3,.i .i64 p.2),(24,.sl 0 36 t.ns fun i=>C8 (t.gs i)),(25,.i .i64 (t.ns:Int)),(26,.i .i64 (p.1:Int))]) (fun(p:Nat×Int)=>[]) (fun(p:Nat×Int)=>p.1<=t.ns) (fun(p:Nat×Int)=>t.ns-p.1) [] 784 (0,u) (by simp) ?_
 rintro⟨k,u⟩ hI R hR
 dsimp only at hI
 refine cB ((k:Int)<(t.ns:Int)) (fun h2=>?_) fun h2=>?_
 ·have hk:=hs k zO
  refine cC ((0:Int)<=(k:Int)/\(k:Int)<(t.ns:Int)) ?_;refine cK [] (WX ((t.gs k).mani) bd) ?_;rintro out A0 ⟨sb0,se0,rfl,rfl,hsb0⟩
  exact cA hX (hR (k+1,(i64.wrap (u+(sb0.length:Int)))) bd (by dsimp only;omega)) (hS:=⟨v0,v0,v0,(vS bd),zT⟩)
 exact xW hX (.i .i64 u) ⟨rfl,rfl,⟨_,rfl⟩⟩
theorem YC(s:StaR)(o:OpT)(t:TenR)(n:Int)(x:Int)(h1:t.nb<=100000)(h2:t.ns<=100000)(hs:∀i,i<t.ns->(t.gs i).mani.label.length<=5000):Sat Tryz.prog 115 [.pz (mU s o t n),.i .i64 x] [] (fun out A0=>A0=[]/\(∃p,out=.b p)):=by
 refine cF Tryz.func115 fun X0 w0 hX=>?_
 refine cK [] (YB t bd bd hs) ?_;rintro out A0 ⟨rfl,⟨uu0,rfl⟩⟩
 exact xW hX (.b (decide (x<=(i64.wrap (t.quota-uu0))))) ⟨rfl,rfl,⟨_,rfl⟩⟩
theorem YD{a b:List UInt8}(h1:vs.length=2)(h2:∀(i:Nat) v x,([V.s a,.s b]:List V)[i]? =some v->vs[i]? =some x->repv X [] 16 v x):vs=[.string ⟨a.toArray⟩,.string ⟨b.toArray⟩]:=by
 obtain⟨x,y,rfl⟩:∃x y,vs=[x,y]:=by
  match vs,h1 with
 |[x,y],_=>exact⟨x,y,rfl⟩
 obtain⟨e1,_⟩:=h2 0 _ _ rfl rfl
 obtain⟨e2,_⟩:=h2 1 _ _ rfl rfl
 simp only[qE,and_true]at e1 e2
 rw[e1,e2]
theorem YE(s:List UInt8)(c:UInt8):Sat Tryz.prog 236 [.s s,.s [c]] [] (fun out A0=>A0=[]/\out=.b (decide (c∈s))):=tR fun X w vs h1 h2 H=>by
 rw[YD h1 h2]
 exact(Sg w s c).mono fun v w' ⟨hv,hw⟩=>by
  subst hw
  subst hv
  exact⟨⟨_,⟨rfl,rfl⟩,rfl⟩,Hp.refl _ _⟩
theorem Su(s p:List UInt8):Sat Tryz.prog 204 [.s s,.s p] [] (fun out A0=>A0=[]/\out=.b (p.isPrefixOf s)):=tR fun X w vs h1 h2 H=>by
 rw[YD h1 h2]
 exact(Si w s p).mono fun v w' ⟨hv,hw⟩=>by
  subst hw
  subst hv
  exact⟨⟨_,⟨rfl,rfl⟩,rfl⟩,Hp.refl _ _⟩
theorem Sv{p s:List UInt8}(h:p.isPrefixOf s=true):p.length<=s.length:=(List.isPrefixOf_iff_prefix.1 h).length_le
structure Itm where
 name:By
 kind:Int
 of:By
 size:Int
instance:Inhabited Itm:=⟨⟨[],0,[],0⟩⟩
def I3(x:Itm):V:=A1 [.s x.name,.i .i64 x.kind,.bs 32 x.of,.i .i64 x.size]
theorem Sw(l:By):Sat Tryz.prog 221 [.s l] [] (fun out A0=>A0=[]/\(∃p,out=.b p)):=by
 refine cF Tryz.func221 fun X0 w0 hX=>?_
 refine cB (1<=(l.length:Int)) (fun h1=>?_) fun h1=>?_
 ·refine cB ((l.length:Int)<=64) (fun h2=>?_) fun h2=>?_
  ·refine cN (l=[46]) (fun h3=>?_) fun h3=>?_
   ·refine cN (l=[46,46]) (fun h4=>?_) fun h4=>?_
    ·refine cK [] (YE l 47) ?_
     rintro out A0 ⟨rfl,rfl⟩
     refine cN (47∈l) (fun h5=>?_) fun h5=>?_
     ·refine cK [] (YE l 0) ?_
      rintro out A0 ⟨rfl,rfl⟩
      exact xW hX (.b (!(decide (0∈l)))) ⟨rfl,rfl,⟨_,rfl⟩⟩
     exact xW hX (.b false) ⟨rfl,rfl,⟨_,rfl⟩⟩
    exact xW hX (.b false) ⟨rfl,rfl,⟨_,rfl⟩⟩
   exact xW hX (.b false) ⟨rfl,rfl,⟨_,rfl⟩⟩
  exact xW hX (.b false) ⟨rfl,rfl,⟨_,rfl⟩⟩
 exact xW hX (.b false) ⟨rfl,rfl,⟨_,rfl⟩⟩
theorem Sx(n:Nat)(g:Nat->Itm)(hn:n<=100000):Sat Tryz.prog 206 [.sl 0 35 n fun i=>I3 (g i)] [] (fun out A0=>A0=[]/\(∃p,out=.b p)):=by
 refine cF Tryz.func206 fun X0 w0 hX=>?_
 refine cB (64<(n:Int)) (fun h1=>?_) fun h1=>?_
 ·exact xW hX (.b false) ⟨rfl,rfl,⟨_,rfl⟩⟩
 refine cM hX (fun(k:Nat)=>[(0,.sl 0 35 n fun i=>I3 (g i)),(8,.sl 0 35 n fun i=>I3 (g i)),(9,.i .i64 (n:Int)),(10,.i .i64 (k:Int))]) (fun(k:Nat)=>[]) (fun(k:Nat)=>k<=n) (fun(k:Nat)=>n-k) [] 464 0 (by simp) ?_
 rintro k hI R hR
 refine cB ((k:Int)<(n:Int)) (fun h2=>?_) fun h2=>?_
 ·refine cC ((0:Int)<=(k:Int)/\(k:Int)<(n:Int)) ?_
  refine cK [] (Sw ((g k).name)) ?_;rintro out A0 ⟨rfl,⟨rI,rfl⟩⟩
  refine cn (rI) (fun h3=>?_) fun h3=>?_
  ·refine Nf (rI) h3 ?_
   exact xW hX (.b false) ⟨rfl,rfl,⟨_,rfl⟩⟩
  refine cB (0<(k:Int)) (fun h4=>?_) fun h4=>?_
  ·refine cC ((0:Int)<=(i64.wrap ((k:Int)-1))/\(i64.wrap ((k:Int)-1))<(n:Int)) ?_ bw
   refine cb (((Op.bytesLess ((g k).name) ((g (((i64.wrap ((k:Int)-1))).toNat)).name))||decide ((g k).name=(g (((i64.wrap ((k:Int)-1))).toNat)).name))) (fun h5=>?_) fun h5=>?_
   ·refine LO (((Op.bytesLess ((g k).name) ((g (((i64.wrap ((k:Int)-1))).toNat)).name))||decide ((g k).name=(g (((i64.wrap ((k:Int)-1))).toNat)).name))) h5 ?_
    exact xW hX (.b false) ⟨rfl,rfl,⟨_,rfl⟩⟩
   refine cB ((g k).size<0) (fun h6=>?_) fun h6=>?_
   ·exact xW hX (.b false) ⟨rfl,rfl,⟨_,rfl⟩⟩
   refine cB ((g k).kind≠1) (fun h7=>?_) fun h7=>?_
   ·refine cB ((g k).kind≠2) (fun h8=>?_) fun h8=>?_
    ·exact xW hX (.b false) ⟨rfl,rfl,⟨_,rfl⟩⟩
    refine cB ((g k).size≠0) (fun h9=>?_) fun h9=>?_
    ·exact xW hX (.b false) ⟨rfl,rfl,⟨_,rfl⟩⟩
    exact cA hX (hR (k+1) zO zO) (hS:=⟨v0,v0,v0,(vS bd),zT⟩)
   exact cA hX (hR (k+1) zO zO) (hS:=⟨v0,v0,v0,(vS bd),zT⟩)
  refine cB ((g k).size<0) (fun J7=>?_) fun J7=>?_
  ·exact xW hX (.b false) ⟨rfl,rfl,⟨_,rfl⟩⟩
  refine cB ((g k).kind≠1) (fun P5=>?_) fun P5=>?_
  ·refine cB ((g k).kind≠2) (fun h12=>?_) fun h12=>?_
   ·exact xW hX (.b false) ⟨rfl,rfl,⟨_,rfl⟩⟩
   refine cB ((g k).size≠0) (fun v8=>?_) fun v8=>?_
   ·exact xW hX (.b false) ⟨rfl,rfl,⟨_,rfl⟩⟩
   exact cA hX (hR (k+1) zO zO) (hS:=⟨v0,v0,v0,(vS bd),zT⟩)
  exact cA hX (hR (k+1) zO zO) (hS:=⟨v0,v0,v0,(vS bd),zT⟩)
 exact xW hX (.b true) ⟨rfl,rfl,⟨_,rfl⟩⟩
theorem Sz(b:By)(hb:b.length<=100000):Sat Tryz.prog 205 [.bl 0 b] [] (fun out A0=>A0=[]/\(∃x l p,out=A2 [I3 x,.bl 0 l,.b p]/\l.length<=b.length/\x.name.length<=b.length)):=by
 refine cF Tryz.func205 fun X0 w0 hX=>?_
 refine cB ((b.length:Int)=0) (fun h1=>?_) fun h1=>?_
 ·exact xW hX (A2 [I3 ⟨[],0,(replicate 32 0),0⟩,.bl 0 [],.b false]) ⟨rfl,rfl,⟨_,_,_,rfl,bd,bd⟩⟩ (hv:=vT (u:=A2 [A1 [.s [],.i .i64 0,.bs 32 (replicate 32 0),.i .i64 0],.bl 0 [],.b false]) (F3 ⟨C4 ⟨.rfl _,.rfl _,.rfl _,.rfl _,zT⟩,.rfl _,.rfl _,zT⟩))
 refine cC ((0:Int)<=0/\0<(b.length:Int)) ?_
 refine cC ((0:Int)<=1/\1<=(b.length:Int)) ?_;refine cK [] (MJ ((b.drop 1).take (b.length-1)) bd) ?_;rintro out A0 ⟨fR,C5,xe0,rfl,rfl,hxa0,hxs0⟩
 simp only[F6,K5]at hxa0 hxs0
 refine cB (xe0≠0) (fun h2=>?_) fun h2=>?_
 ·exact xW hX (A2 [I3 ⟨[],(i64.wrap ((b.getD 0 0).toNat:Int)),(replicate 32 0),0⟩,.bl 0 [],.b false]) ⟨rfl,rfl,⟨_,_,_,rfl,bd,bd⟩⟩ (hv:=vT (u:=A2 [A1 [.s [],.i .i64 (i64.wrap ((b.getD 0 0).toNat:Int)),.bs 32 (replicate 32 0),.i .i64 0],.bl 0 [],.b false]) (F3 ⟨C4 ⟨.rfl _,.rfl _,.rfl _,.rfl _,zT⟩,.rfl _,.rfl _,zT⟩))
 refine cC ((0:Int)<=(i64.wrap (1+C5))/\(i64.wrap (1+C5))<=(b.length:Int)) ?_ bw
 refine cB ((((b.drop (((i64.wrap (1+C5))).toNat)).take (b.length-((i64.wrap (1+C5))).toNat)).length:Int)<32) (fun h3=>?_) fun h3=>?_
 ·exact xW hX (A2 [I3 ⟨[],(i64.wrap ((b.getD 0 0).toNat:Int)),(replicate 32 0),0⟩,.bl 0 [],.b false]) ⟨rfl,rfl,⟨_,_,_,rfl,bd,bd⟩⟩ (hv:=vT (u:=A2 [A1 [.s [],.i .i64 (i64.wrap ((b.getD 0 0).toNat:Int)),.bs 32 (replicate 32 0),.i .i64 0],.bl 0 [],.b false]) (F3 ⟨C4 ⟨.rfl _,.rfl _,.rfl _,.rfl _,zT⟩,.rfl _,.rfl _,zT⟩))
 refine jA 2 6864 (fun(u:Unit)=>[(0,.bl 0 ((b.drop (((i64.wrap (1+C5))).toNat)).take (b.length-((i64.wrap (1+C5))).toNat))),(2,.pr 16 0 []),(5,.pr 208 0 [])]) (fun(u:Unit)=>[(16,A1 [.s [],.i .i64 0,.bs 32 (replicate 32 0),.i .i64 0]),(208,A1 [.s fR,.i .i64 (i64.wrap ((b.getD 0 0).toNat:Int)),.bs 32 (((((b.drop (((i64.wrap (1+C5))).toNat)).take (b.length-((i64.wrap (1+C5))).toNat)).drop 0).take (32-0)).take 32),.i .i64 0])]) (fun(u:Unit)=>True) [] (fun R hR i hi=>?_) ?_
 ·revert i hi;refine f2 ?_ ?_<;>repeat' (first|refine al 2 (f2 ?_ ?_)|refine cC (e:=eE) ((0:Int)<=0/\(0:Int)<=32/\32<=(((b.drop (((i64.wrap (1+C5))).toNat)).take (b.length-((i64.wrap (1+C5))).toNat)).length:Int)) ?_ bw|refine cC (e:=eE) (32<=((((b.drop (((i64.wrap (1+C5))).toNat)).take (b.length-((i64.wrap (1+C5))).toNat)).drop 0).take (32-0)).length) ?_ bw|exact cA hX (hR () zT))
 rintro u hJ
 refine cC ((0:Int)<=32/\32<=(((b.drop (((i64.wrap (1+C5))).toNat)).take (b.length-((i64.wrap (1+C5))).toNat)).length:Int)) ?_ bw;refine cK [] (MI ((((b.drop (((i64.wrap (1+C5))).toNat)).take (b.length-((i64.wrap (1+C5))).toNat)).drop 32).take (((b.drop (((i64.wrap (1+C5))).toNat)).take (b.length-((i64.wrap (1+C5))).toNat)).length-32)) bd) ?_;rintro out A0 ⟨rfl,⟨wA,lZ,te1,rfl,oC⟩⟩
 refine cB (te1≠0) (fun h4=>?_) fun h4=>?_
 ·exact xW hX (A2 [I3 ⟨fR,(i64.wrap ((b.getD 0 0).toNat:Int)),(((((b.drop (((i64.wrap (1+C5))).toNat)).take (b.length-((i64.wrap (1+C5))).toNat)).drop 0).take (32-0)).take 32),0⟩,.bl 0 [],.b false]) ⟨rfl,rfl,⟨_,_,_,rfl,bd,bd⟩⟩ (hv:=vT (u:=A2 [A1 [.s fR,.i .i64 (i64.wrap ((b.getD 0 0).toNat:Int)),.bs 32 (((((b.drop (((i64.wrap (1+C5))).toNat)).take (b.length-((i64.wrap (1+C5))).toNat)).drop 0).take (32-0)).take 32),.i .i64 0],.bl 0 [],.b false]) (F3 ⟨C4 ⟨.rfl _,.rfl _,.rfl _,.rfl _,zT⟩,.rfl _,.rfl _,zT⟩))
 refine cB (9223372036854775807<wA) (fun h5=>?_) fun h5=>?_
 ·exact xW hX (A2 [I3 ⟨fR,(i64.wrap ((b.getD 0 0).toNat:Int)),(((((b.drop (((i64.wrap (1+C5))).toNat)).take (b.length-((i64.wrap (1+C5))).toNat)).drop 0).take (32-0)).take 32),0⟩,.bl 0 [],.b false]) ⟨rfl,rfl,⟨_,_,_,rfl,bd,bd⟩⟩ (hv:=vT (u:=A2 [A1 [.s fR,.i .i64 (i64.wrap ((b.getD 0 0).toNat:Int)),.bs 32 (((((b.drop (((i64.wrap (1+C5))).toNat)).take (b.length-((i64.wrap (1+C5))).toNat)).drop 0).take (32-0)).take 32),.i .i64 0],.bl 0 [],.b false]) (F3 ⟨C4 ⟨.rfl _,.rfl _,.rfl _,.rfl _,zT⟩,.rfl _,.rfl _,zT⟩))
 refine jA 2 12816 (fun(u:Unit)=>[(2,.pr 16 0 []),(3,.bl 0 ((((((b.drop (((i64.wrap (1+C5))).toNat)).take (b.length-((i64.wrap (1+C5))).toNat)).drop 32).take (((b.drop (((i64.wrap (1+C5))).toNat)).take (b.length-((i64.wrap (1+C5))).toNat)).length-32)).drop ((lZ).toNat)).take (((((b.drop (((i64.wrap (1+C5))).toNat)).take (b.length-((i64.wrap (1+C5))).toNat)).drop 32).take (((b.drop (((i64.wrap (1+C5))).toNat)).take (b.length-((i64.wrap (1+C5))).toNat)).length-32)).length-(lZ).toNat))),(4,.bc true)]) (fun(u:Unit)=>[(16,A1 [.s fR,.i .i64 (i64.wrap ((b.getD 0 0).toNat:Int)),.bs 32 (((((b.drop (((i64.wrap (1+C5))).toNat)).take (b.length-((i64.wrap (1+C5))).toNat)).drop 0).take (32-0)).take 32),.i .i64 (i64.wrap wA)])]) (fun(u:Unit)=>True) [] (fun R hR i hi=>?_) ?_
 ·revert i hi;refine f2 ?_ ?_<;>repeat' (first|refine cC (e:=eE) ((0:Int)<=lZ/\lZ<=(((((b.drop (((i64.wrap (1+C5))).toNat)).take (b.length-((i64.wrap (1+C5))).toNat)).drop 32).take (((b.drop (((i64.wrap (1+C5))).toNat)).take (b.length-((i64.wrap (1+C5))).toNat)).length-32)).length:Int)) ?_ bw|exact cA hX (hR () zT))
 rintro u hJ
 exact xW hX (A2 [I3 ⟨fR,(i64.wrap ((b.getD 0 0).toNat:Int)),(((((b.drop (((i64.wrap (1+C5))).toNat)).take (b.length-((i64.wrap (1+C5))).toNat)).drop 0).take (32-0)).take 32),(i64.wrap wA)⟩,.bl 0 ((((((b.drop (((i64.wrap (1+C5))).toNat)).take (b.length-((i64.wrap (1+C5))).toNat)).drop 32).take (((b.drop (((i64.wrap (1+C5))).toNat)).take (b.length-((i64.wrap (1+C5))).toNat)).length-32)).drop ((lZ).toNat)).take (((((b.drop (((i64.wrap (1+C5))).toNat)).take (b.length-((i64.wrap (1+C5))).toNat)).drop 32).take (((b.drop (((i64.wrap (1+C5))).toNat)).take (b.length-((i64.wrap (1+C5))).toNat)).length-32)).length-(lZ).toNat)),.b true]) ⟨rfl,rfl,⟨_,_,_,rfl,bd,bd⟩⟩ (hv:=vT (u:=A2 [A1 [.s fR,.i .i64 (i64.wrap ((b.getD 0 0).toNat:Int)),.bs 32 (((((b.drop (((i64.wrap (1+C5))).toNat)).take (b.length-((i64.wrap (1+C5))).toNat)).drop 0).take (32-0)).take 32),.i .i64 (i64.wrap wA)],.bl 0 ((((((b.drop (((i64.wrap (1+C5))).toNat)).take (b.length-((i64.wrap (1+C5))).toNat)).drop 32).take (((b.drop (((i64.wrap (1+C5))).toNat)).take (b.length-((i64.wrap (1+C5))).toNat)).length-32)).drop ((lZ).toNat)).take (((((b.drop (((i64.wrap (1+C5))).toNat)).take (b.length-((i64.wrap (1+C5))).toNat)).drop 32).take (((b.drop (((i64.wrap (1+C5))).toNat)).take (b.length-((i64.wrap (1+C5))).toNat)).length-32)).length-(lZ).toNat)),.b true]) (F3 ⟨C4 ⟨.rfl _,.rfl _,.rfl _,.rfl _,zT⟩,.rfl _,.rfl _,zT⟩))
theorem YF(b:By):Sat Tryz.prog 186 [.bl 0 b] [] (fun out A0=>∃(l:List Itm) (e:Int),out=A2 [B4 2 35 I3 l,.i .i64 e]/\A0=[2]/\l.length<=64/\∀x∈l,x.name.length<=4000):=by
 refine cF Tryz.func186 fun X0 w0 hX=>?_
 refine cB (4000<(b.length:Int)) (fun h1=>?_) fun h1=>?_
 ·exact xW hX (A2 [B4 2 35 I3 [],.i .i64 4]) ⟨rfl,_,_,rfl,rfl,bd,by first|(simp;done)|exact hI.2.2.2⟩ (hv:=vT (u:=A2 [.sl 2 35 0 fun _=>.un,.i .i64 4]) (F3 ⟨vN,.rfl _,zT⟩))
 refine cK [] (Su b [68,49]) ?_
 rintro out A0 ⟨rfl,rfl⟩
 refine cn (([68,49]:By).isPrefixOf b) (fun h2=>?_) fun h2=>?_
 ·exact xW hX (A2 [B4 2 35 I3 [],.i .i64 4]) ⟨rfl,_,_,rfl,rfl,bd,by first|(simp;done)|exact hI.2.2.2⟩ (hv:=vT (u:=A2 [.sl 2 35 0 fun _=>.un,.i .i64 4]) (F3 ⟨vN,.rfl _,zT⟩))
 have hp:=Sv h2
 simp only[I4,S1]at hp
 refine cC ((0:Int)<=2/\2<=(b.length:Int)) ?_;refine cK [] (MI ((b.drop 2).take (b.length-2)) bd) ?_;rintro out A0 ⟨rfl,⟨l5,Q4,bY,rfl,rE⟩⟩
 refine cB (bY≠0) (fun h3=>?_) fun h3=>?_
 ·exact xW hX (A2 [B4 2 35 I3 [],.i .i64 4]) ⟨rfl,_,_,rfl,rfl,bd,by first|(simp;done)|exact hI.2.2.2⟩ (hv:=vT (u:=A2 [.sl 2 35 0 fun _=>.un,.i .i64 4]) (F3 ⟨vN,.rfl _,zT⟩))
 refine cB (64<l5) (fun h4=>?_) fun h4=>?_
 ·exact xW hX (A2 [B4 2 35 I3 [],.i .i64 4]) ⟨rfl,_,_,rfl,rfl,bd,by first|(simp;done)|exact hI.2.2.2⟩ (hv:=vT (u:=A2 [.sl 2 35 0 fun _=>.un,.i .i64 4]) (F3 ⟨vN,.rfl _,zT⟩))
 refine cC ((0:Int)<=Q4/\Q4<=(((b.drop 2).take (b.length-2)).length:Int)) ?_ bd
 refine cM hX (fun(p:Nat×By×(List Itm))=>[(0,.bl 0 p.2.1),(7,B4 2 35 I3 p.2.2),(37,.i .u64 l5),(38,.i .u64 (p.1:Int))]) (fun(p:Nat×By×(List Itm))=>[]) (fun(p:Nat×By×(List Itm))=>(p.1:Int)<=l5/\p.2.1.length<=4000/\p.2.2.length=p.1/\∀x∈p.2.2,x.name.length<=4000) (fun(p:Nat×By×(List Itm))=>64-p.1) [2] 2320 (0,((((b.drop 2).take (b.length-2)).drop ((Q4).toNat)).take (((b.drop 2).take (b.length-2)).length-(Q4).toNat)),[]) ⟨zO,bd,rfl,by simp⟩ ?_ (hS:=⟨v0,(vT (vN (g:=fun _=>.un))),v0,v0,zT⟩);rintro⟨k,r,l⟩ hI R hR
 dsimp only at hI
 refine cB ((k:Int)<l5) (fun h5=>?_) fun h5=>?_
 ·refine cK [] (Sz r bd) ?_
  rintro out A0 ⟨rfl,⟨fi1,fr1,fp1,rfl,hfr1,hfn1⟩⟩
  refine cn (fp1) (fun h6=>?_) fun h6=>?_
  ·exact xW hX (A2 [B4 2 35 I3 [],.i .i64 4]) ⟨rfl,_,_,rfl,rfl,bd,by first|(simp;done)|exact hI.2.2.2⟩ (hv:=vT (u:=A2 [.sl 2 35 0 fun _=>.un,.i .i64 4]) (F3 ⟨vN,.rfl _,zT⟩))
  refine cC ((l.length+1)*64<=140737488355328) ?_
  exact cA hX (hR (k+1,fr1,l++[fi1]) ⟨bd,bd,by simp;omega,fun x hx=>by simp only[S0,O9]at hx;rcases hx with h|rfl;exact hI.2.2.2 x h;omega⟩ (by dsimp only;omega)) (hS:=⟨v0,(vT (pQ l _)),v0,vU,zT⟩)
 refine cB (0<(r.length:Int)) (fun h7=>?_) fun h7=>?_
 ·exact xW hX (A2 [B4 2 35 I3 [],.i .i64 4]) ⟨rfl,_,_,rfl,rfl,bd,by first|(simp;done)|exact hI.2.2.2⟩ (hv:=vT (u:=A2 [.sl 2 35 0 fun _=>.un,.i .i64 4]) (F3 ⟨vN,.rfl _,zT⟩))
 refine cK [] (Sx l.length (fun i=>(l.getD i default)) bd) ?_
 rintro out A0 ⟨rfl,⟨pm2,rfl⟩⟩
 refine cn (pm2) (fun h8=>?_) fun h8=>?_
 ·exact xW hX (A2 [B4 2 35 I3 [],.i .i64 4]) ⟨rfl,_,_,rfl,rfl,bd,by first|(simp;done)|exact hI.2.2.2⟩ (hv:=vT (u:=A2 [.sl 2 35 0 fun _=>.un,.i .i64 4]) (F3 ⟨vN,.rfl _,zT⟩))
 exact xW hX (A2 [B4 2 35 I3 l,.i .i64 0]) ⟨rfl,_,_,rfl,rfl,bd,by first|(simp;done)|exact hI.2.2.2⟩
structure Fil where
 path:By
 dir:Bool
 data:By
instance:Inhabited Fil:=⟨⟨[],false,[]⟩⟩
def O7(x:Fil):V:=A1 [.s x.path,.b x.dir,.bl 0 x.data]
def FOk(l:List Fil):Prop:=∀f∈l,f.path.length<=200000/\f.data.length<=1000000
theorem FOk.nil:FOk []:=fun _ h=>by cases h
theorem FOk.snoc{l:List Fil}(h:FOk l){p d:By}{b:Bool}(hp:p.length<=200000:=by simp only[C9,F6,K5]at *;omega)(hd:d.length<=1000000:=by first|omega|(simp;done)):FOk (l++[⟨p,b,d⟩]):=fun f hf=>by
 rcases S0.1 hf with h1|h1
 ·exact h f h1
 rw[O9.1 h1];exact⟨hp,hd⟩
def uC(q:Nat)(K:List By)(a b:Nat)(c:Int)(p:Bool)(l:List Fil)(e:Int):V:=A1 [.mp a 0 ⟨1,K⟩,.mp b 0 ⟨0,K⟩,.i .i64 c,.b p,B4 q 3 O7 l,.i .i64 e]
theorem BT(K:List By)(a b:Nat)(c:Int)(p:Bool)(l:List Fil)(e:Int)(x:Int):SatHM Tryz.prog false 184 [.pr 2 0 [],.i .i64 x] [3] [(2,A1 [.mp a 0 ⟨1,K⟩,.mp b 0 ⟨0,K⟩,.i .i64 c,.b p,B4 3 3 O7 l,.i .i64 e])] (fun out ho A0=>∃e2,out=.b (decide (e2≠0))/\ho=[(2,uC 3 K a b c p l e2)]/\A0=[3]/\(e=0->e2=x)/\(e≠0->e2=e)):=by
 refine fH false Tryz.func184 fun X0 w0 hX hm=>?_
 refine cB (e=0) (fun h1=>?_) fun h1=>?_
 ·exact xW hX (.b (decide (x≠0))) (ho:=[(2,A1 [.mp a 0 ⟨1,K⟩,.mp b 0 ⟨0,K⟩,.i .i64 c,.b p,B4 3 3 O7 l,.i .i64 x])]) ⟨_,by simp,rfl,rfl,zO,zO⟩
 exact xW hX (.b (decide (e≠0))) (ho:=[(2,A1 [.mp a 0 ⟨1,K⟩,.mp b 0 ⟨0,K⟩,.i .i64 c,.b p,B4 3 3 O7 l,.i .i64 e])]) ⟨_,by simp,rfl,rfl,zO,zO⟩
theorem YG(K:List By)(a b:Nat)(c:Int)(p:Bool)(l:List Fil)(e:Int)(x:By)(hc:0<=c/\c<=1024)(he:e=0):SatHM Tryz.prog true 185 [.pr 2 0 [],.bs 32 x] [3] [(2,A1 [.mp a 0 ⟨1,K⟩,.mp b 0 ⟨0,K⟩,.i .i64 c,.b p,B4 3 3 O7 l,.i .i64 e])] (fun out ho A0=>∃d q c2 e2,out=A2 [.bl 0 d,.b q]/\ho=[(2,uC 3 K a b c2 p l e2)]/\A0=[3]/\c2=c+1/\(q=true->c2<=1024/\e2=0)/\(q=false->e2≠0)/\d.length<=1000000):=by
 refine fH true Tryz.func185 fun X0 w0 hX hm=>?_
 have hw:i64.wrap (c+1)=c+1:=N4 ⟨zO,zO⟩
 refine cB (1024<(i64.wrap (c+1))) (fun h1=>?_) fun h1=>?_
 ·refine kH [(2,2),(3,3)] [2] (BT K a b (i64.wrap (c+1)) p l e 2) ?_
  rintro out ho A0 ⟨we0,rfl,rfl,rfl,T2,hB0⟩
  exact xW hX (A2 [.bl 0 [],.b false]) ⟨_,_,_,_,rfl,rfl,rfl,rfl,by first|(simp;done)|(rw[hw]at h1;intro;exact⟨zO,he⟩),by first|(simp;done)|(simp;omega),by first|(simp;done)|omega⟩ (hH:=⟨(vT (u:=A1 [.mp a 0 ⟨1,K⟩,.mp b 0 ⟨0,K⟩,.i .i64 (i64.wrap (c+1)),.b p,B4 3 3 O7 l,.i .i64 we0]) (C4 ⟨.rfl _,.rfl _,(.of_eq (by rw[N4 ⟨zO,zO⟩])),.rfl _,.rfl _,.rfl _,zT⟩)),zT⟩)
 refine mL (t:=228) (kt:=34) (et:=53) (x:=.tmp 26) (y:=.tmp 27) (ok:=true) (d:=28) a ⟨1,K⟩ x gS ?_
 rintro _ mp1 ⟨ml1,hml1,rfl⟩ hmk1
 refine cn (mp1) (fun h2=>?_) fun h2=>?_
 ·refine kH [(2,2),(3,3)] [2] (BT K a b (i64.wrap (c+1)) p l e 15) ?_
  rintro out ho A0 ⟨we2,rfl,rfl,rfl,S2,hB2⟩
  exact xW hX (A2 [.bl 0 [],.b false]) ⟨_,_,_,_,rfl,rfl,rfl,rfl,by first|(simp;done)|(rw[hw]at h1;intro;exact⟨zO,he⟩),by first|(simp;done)|(simp;omega),by first|(simp;done)|omega⟩ (hH:=⟨(vT (u:=A1 [.mp a 0 ⟨1,K⟩,.mp b 0 ⟨0,K⟩,.i .i64 (i64.wrap (c+1)),.b p,B4 3 3 O7 l,.i .i64 we2]) (C4 ⟨.rfl _,.rfl _,(.of_eq (by rw[N4 ⟨zO,zO⟩])),.rfl _,.rfl _,.rfl _,zT⟩)),zT⟩)
 refine jA 2 6608 (fun(u:Unit)=>[(6,.bl 0 ml1)]) (fun(u:Unit)=>[(2,A1 [.mp a 0 ⟨1,K⟩,.mp b 0 ⟨0,K⟩,.i .i64 (i64.wrap (c+1)),.b p,B4 3 3 O7 l,.i .i64 e])]) (fun(u:Unit)=>True) [3] (fun R hR i hi=>?_) ?_
 ·match i,hi with
 |0,_=>
   refine mL (t:=202) (kt:=34) (et:=3) (x:=.tmp 38) (y:=.tmp 39) (ok:=false) (d:=40) b ⟨0,K⟩ x gS ?_;rintro _ mp3 ⟨mn3,rfl⟩ hmk3
   refine mE (t:=202) (kt:=34) (et:=3) (x:=.tmp 38) (y:=.tmp 39) (d:=42) b ⟨0,K⟩ x gS (hm rfl) (hmk1 (by assumption)) ?_;rintro _ ms4 ⟨mn4,rfl⟩
   refine GG (t:=202) (et:=3) (x:=.tmp 38) (y:=.tmp 43) (z:=.tmp 41) b ⟨0,K⟩ ms4 ⟨0,K⟩ (.i .i64 (i64.wrap (mn3+1))) (hm rfl) rfl ?_;exact cA hX (hR () zT)
 |1,_=>
   refine mE (t:=202) (kt:=34) (et:=3) (x:=.tmp 38) (y:=.tmp 39) (d:=42) b ⟨0,K⟩ x gS (hm rfl) (hmk1 (by assumption)) ?_;rintro _ ms5 ⟨mn5,rfl⟩
   refine mL (t:=202) (kt:=34) (et:=3) (x:=.tmp 38) (y:=.tmp 39) (ok:=false) (d:=40) b ⟨0,K⟩ x gS ?_;rintro _ mp6 ⟨mn6,rfl⟩ hmk6
   refine GG (t:=202) (et:=3) (x:=.tmp 38) (y:=.tmp 43) (z:=.tmp 41) b ⟨0,K⟩ ms5 ⟨0,K⟩ (.i .i64 (i64.wrap (mn6+1))) (hm rfl) rfl ?_;exact cA hX (hR () zT)
 rintro u hJ
 exact xW hX (A2 [.bl 0 ml1,.b true]) ⟨_,_,_,_,rfl,rfl,rfl,rfl,by first|(simp;done)|(rw[hw]at h1;intro;exact⟨zO,he⟩),by first|(simp;done)|(simp;omega),by first|(simp;done)|omega⟩ (hH:=⟨(vT (u:=A1 [.mp a 0 ⟨1,K⟩,.mp b 0 ⟨0,K⟩,.i .i64 (i64.wrap (c+1)),.b p,B4 3 3 O7 l,.i .i64 e]) (C4 ⟨.rfl _,.rfl _,(.of_eq (by rw[N4 ⟨zO,zO⟩])),.rfl _,.rfl _,.rfl _,zT⟩)),zT⟩)
theorem Ta(K:List By)(a b:Nat)(c:Int)(p:Bool)(l:List Fil)(e:Int)(x:Itm)(t:By)(hc:0<=c/\c<=1024)(he:e=0)(hl:(l.length:Int)<=c)(ht:t.length<=100000)(hx:x.name.length<=100000):SatHM Tryz.prog true 187 [.pr 2 0 [],I3 x,.s t] [3] [(2,A1 [.mp a 0 ⟨1,K⟩,.mp b 0 ⟨0,K⟩,.i .i64 c,.b p,B4 3 3 O7 l,.i .i64 e])] (fun out ho A0=>∃c2 l2 e2,ho=[(2,uC 16 K a b c2 p l2 e2)]/\A0=[16]/\c2=c+1/\(e2=0->c2<=1024)/\l2.length<=l.length+1/\(FOk l->FOk l2)):=by
 refine fH true Tryz.func187 fun X0 w0 hX hm=>?_
 refine mV 3 ?_;refine gO (fun _=>hm rfl) [(2,2),(16,3)] [2] (YG K a b c p l e x.of bd (by assumption)) ?_;rintro out ho A0 ⟨od0,oq0,oc0,oe0,rfl,rfl,rfl,hoc0,hoq0,hor0,hod0⟩
 refine cn (oq0) (fun h1=>?_) fun h1=>?_
 ·have hr:=hor0 h1
  exact xW hX (A2 []) (ho:=[(2,A1 [.mp a 0 ⟨1,K⟩,.mp b 0 ⟨0,K⟩,.i .i64 oc0,.b p,B4 16 3 O7 l,.i .i64 oe0])]) ⟨_,_,_,rfl,rfl,zO,zO,bd,fun h=>by first|exact h|exact h.snoc⟩
 have hq:=hoq0 h1
 refine cB ((od0.length:Int)≠x.size) (fun h2=>?_) fun h2=>?_
 ·refine kH [(2,2),(16,3)] [2] (BT K a b oc0 p l oe0 9) ?_
  rintro out ho A0 ⟨we1,rfl,rfl,rfl,N6,hB1⟩
  exact xW hX (A2 []) (ho:=[(2,A1 [.mp a 0 ⟨1,K⟩,.mp b 0 ⟨0,K⟩,.i .i64 oc0,.b p,B4 16 3 O7 l,.i .i64 we1])]) ⟨_,_,_,rfl,rfl,zO,zO,bd,fun h=>by first|exact h|exact h.snoc⟩
 refine cb (p) (fun h3=>?_) fun h3=>?_
 ·refine cC (t.length+x.name.length<=maxLen) ?_ bm
  refine cK [] (tZ od0 bd) ?_;rintro out A0 ⟨rfl,rfl⟩
  refine cC ((l.length+1)*48<=140737488355328) ?_;exact xW hX (A2 []) ⟨_,_,_,rfl,rfl,zO,zO,bd,fun h=>by first|exact h|exact h.snoc⟩ (hH:=⟨(vT (u:=A1 [.mp a 0 ⟨1,K⟩,.mp b 0 ⟨0,K⟩,.i .i64 oc0,.b p,.sl 16 3 (l.length+1) fun i=>bif blt i l.length then O7 (l.getD i default) else A1 [.s (t++x.name),.b false,.bl 0 od0],.i .i64 oe0]) (C4 ⟨.rfl _,.rfl _,.rfl _,.rfl _,pQ l ⟨t++x.name,false,od0⟩,.rfl _,zT⟩)),zT⟩)
 exact xW hX (A2 []) (ho:=[(2,A1 [.mp a 0 ⟨1,K⟩,.mp b 0 ⟨0,K⟩,.i .i64 oc0,.b p,B4 16 3 O7 l,.i .i64 oe0])]) ⟨_,_,_,rfl,rfl,zO,zO,bd,fun h=>by first|exact h|exact h.snoc⟩
theorem YH(n:Nat)(g:Nat->Obj)(p:Bool)(hn:n<=100000)(hd:∀i,i<n->(g i).data.length<=100000):SatM Tryz.prog true 162 [.sl 0 33 n fun i=>C3 (g i),.b p] [] (fun out ho A0=>∃a b,out=.pr 2 0 []/\ho=[(2,uC 3 ((List.range n).map fun i=>(g i).of) a b 0 p [] 0)]/\A0=[3]):=by
 refine fM true Tryz.func162 fun X0 w0 hX hm=>?_
 refine MA (t:=228) (d:=11) ⟨1,((List.range n).map fun i=>(g i).of)⟩ fun bZ=>?_
 refine MA (t:=202) (d:=12) ⟨0,((List.range n).map fun i=>(g i).of)⟩ fun mb1=>?_
 refine cM hX (fun(k:Nat)=>[(5,.pr 336 0 []),(15,.sl 0 33 n fun i=>C3 (g i)),(16,.i .i64 (n:Int)),(17,.i .i64 (k:Int))]) (fun(k:Nat)=>[(336,A1 [.mp bZ 0 ⟨1,((List.range n).map fun i=>(g i).of)⟩,.mp mb1 0 ⟨0,((List.range n).map fun i=>(g i).of)⟩,.i .i64 0,.b p,.sl 1 3 0 fun _=>.un,.i .i64 0])]) (fun(k:Nat)=>k<=n) (fun(k:Nat)=>n-k) [] 656 0 (by simp) ?_;rintro k hI R hR
 refine cB ((k:Int)<(n:Int)) (fun h1=>?_) fun h1=>?_
 ·have hk:=hd k zO
  refine cC ((0:Int)<=(k:Int)/\(k:Int)<(n:Int)) ?_;refine mL (t:=228) (kt:=34) (et:=53) (x:=.tmp 25) (y:=.tmp 27) (ok:=true) (d:=28) bZ ⟨1,((List.range n).map fun i=>(g i).of)⟩ ((g k).of) gS ?_;rintro _ mp2 ⟨ml2,hml2,rfl⟩ hmk2
  refine cn (mp2) (fun h2=>?_) fun h2=>?_
  ·refine On (t:=228) (kt:=34) (et:=53) (x:=.tmp 36) (y:=.tmp 38) (z:=.tmp 40) bZ ⟨1,((List.range n).map fun i=>(g i).of)⟩ ((g k).of) (.bl 0 ((g k).data)) gS (hm rfl) (Qz zO) (J3.2 ⟨k,qF.2 zO,rfl⟩) ?_
   exact cA hX (hR (k+1) zO zO) (hS:=⟨v0,v0,v0,(vS bd),zT⟩)
  exact cA hX (hR (k+1) zO zO) (hS:=⟨v0,v0,v0,(vS bd),zT⟩)
 exact xW hX (.pr 2 0 []) ⟨_,_,rfl,rfl,rfl⟩ (hH:=⟨(vT (u:=A1 [.mp bZ 0 ⟨1,((List.range n).map fun i=>(g i).of)⟩,.mp mb1 0 ⟨0,((List.range n).map fun i=>(g i).of)⟩,.i .i64 0,.b p,.sl 3 3 0 fun _=>.un,.i .i64 0]) (C4 ⟨.rfl _,.rfl _,.rfl _,.rfl _,vN,.rfl _,zT⟩)),zT⟩)
theorem bM{p:Prop}(h:p:=by have mx:maxLen=9223372036854775807:=rfl;simp only[C9,I4,S1]at *;omega):p:=h
def YI(R4:Int):Prop:=∀(K:List By) (a b:Nat) (c:Int) (tl:Bool) (l:List Fil) (e:Int) (x t:By),0<=c/\c<=1024->e=0->(l.length:Int)<=c->(t.length:Int)<=5000*R4->(1<R4->1<=t.length)->SatHM Tryz.prog true 163 [.pr 2 0 [],.bs 32 x,.s t,.i .i64 R4] [3] [(2,uC 3 K a b c tl l e)] (fun out ho A0=>∃c2 l2 e2,ho=[(2,uC 16 K a b c2 tl l2 e2)]/\A0=[16]/\(e2=0->0<=c2/\c2<=1024/\(l2.length:Int)<=c2)/\(FOk l->FOk l2))
theorem Tb{l:List Itm}{k:Nat}(h:∀x∈l,x.name.length<=4000):(l.getD k default).name.length<=4000:=by
 by_cases hk:k<l.length
 ·rw[j9,B6 hk];exact h _ (dY hk)
 rw[j9,V6 zO];exact L8 _
theorem Tc(l:List Fil)(n:By):VEq (.sl 20 3 (l.length+1) fun i=>bif blt i l.length then O7 (l.getD i default) else A1 [.s n,.b true,.bl 1 []]) (B4 20 3 O7 (l++[⟨n,true,[]⟩])):=Ot l ⟨n,true,[]⟩ (.st _ _ _ fun i hi=>match i,hi with|0,_=>.rfl _|1,_=>.rfl _|2,_=>.bl _)
theorem YJ(K:List By)(a b:Nat)(c:Int)(tl:Bool)(l:List Fil)(e:Int)(x t:By)(R4:Int)(hd:1<=R4/\R4<=9)(ih:R4<=8->∀d,d=R4+1->YI d)(hc:0<=c/\c<=1024)(he:e=0)(hl:(l.length:Int)<=c)(ht:(t.length:Int)<=5000*R4)(oC:1<R4->1<=t.length):SatHM Tryz.prog true 163 [.pr 2 0 [],.bs 32 x,.s t,.i .i64 R4] [3] [(2,A1 [.mp a 0 ⟨1,K⟩,.mp b 0 ⟨0,K⟩,.i .i64 c,.b tl,B4 3 3 O7 l,.i .i64 e])] (fun out ho A0=>∃c2 l2 e2,ho=[(2,uC 16 K a b c2 tl l2 e2)]/\A0=[16]/\(e2=0->0<=c2/\c2<=1024/\(l2.length:Int)<=c2)/\(FOk l->FOk l2)):=by
 refine fH true Tryz.func163 fun X0 w0 hX hm=>?_
 have hw:i64.wrap (R4+1)=R4+1:=N4 ⟨zO,zO⟩
 refine mV 3 ?_;refine cB (8<R4) (fun h1=>?_) fun h1=>?_
 ·refine kH [(2,2),(16,3)] [2] (BT K a b c tl l e 2) ?_
  rintro out ho A0 ⟨we0,rfl,rfl,rfl,T2,hB0⟩
  refine cB (we0≠0) (fun h2=>?_) fun h2=>?_
  ·exact xW hX (A2 []) (ho:=[(2,A1 [.mp a 0 ⟨1,K⟩,.mp b 0 ⟨0,K⟩,.i .i64 c,.b tl,B4 16 3 O7 l,.i .i64 we0])]) (by refine⟨_,_,_,rfl,rfl,fun q=>?_,fun h=>h⟩;omega)
  exact absurd (T2 he) zO
 refine gO (fun _=>hm rfl) [(2,2),(16,3)] [2] (YG K a b c tl l e x bd (by assumption)) ?_
 rintro out ho A0 ⟨od1,oq1,rJ,oe1,rfl,rfl,rfl,hoc1,hoq1,hor1,hod1⟩
 refine cn (oq1) (fun h3=>?_) fun h3=>?_
 ·have hr:=hor1 h3
  exact xW hX (A2 []) (ho:=[(2,A1 [.mp a 0 ⟨1,K⟩,.mp b 0 ⟨0,K⟩,.i .i64 rJ,.b tl,B4 16 3 O7 l,.i .i64 oe1])]) (by refine⟨_,_,_,rfl,rfl,fun q=>?_,fun h=>h⟩;omega)
 have hq:=hoq1 (by simpa using h3)
 refine cK [] (YF od1) ?_;rintro out A0 ⟨Z6,fe2,rfl,rfl,hfl2,hfn2⟩
 refine kH [(2,2),(16,3)] [2] (BT K a b rJ tl l oe1 fe2) ?_;rintro out ho A0 ⟨we3,rfl,rfl,rfl,x8,hB3⟩
 refine cB (we3≠0) (fun h4=>?_) fun h4=>?_
 ·exact xW hX (A2 []) (ho:=[(2,A1 [.mp a 0 ⟨1,K⟩,.mp b 0 ⟨0,K⟩,.i .i64 rJ,.b tl,B4 16 3 O7 l,.i .i64 we3])]) (by refine⟨_,_,_,rfl,rfl,fun q=>?_,fun h=>h⟩;omega)
 refine jB ((Z6.length:Int)=0) 5904 (fun(q:Bool)=>[(0,.pr 2 0 []),(2,.s t),(3,.i .i64 R4),(10,B4 1234 35 I3 Z6),(48,.b q)]) (fun(q:Bool)=>[(2,A1 [.mp a 0 ⟨1,K⟩,.mp b 0 ⟨0,K⟩,.i .i64 rJ,.b tl,B4 16 3 O7 l,.i .i64 we3])]) (fun(q:Bool)=>q=true->1<R4) [16,1234] (fun R hR=>⟨fun h5=>?_,fun h5=>?_⟩) ?_
 ·refine cB (1<R4) (fun h6=>?_) fun h6=>?_
  ·exact cA hX (hR tl (by first|(simp;done)|(intro;omega)|(intro _;assumption)))
  exact cA hX (hR false (by first|(simp;done)|(intro;omega)|(intro _;assumption))) (hS:=⟨v0,v0,v0,v0,(vT (.bc false)),zT⟩)
 ·exact cA hX (hR false (by first|(simp;done)|(intro;omega)|(intro _;assumption))) (hS:=⟨v0,v0,v0,v0,(vT (.bc false)),zT⟩)
 rintro q hJ
 refine jb (q) 10000 (fun(m:List Fil)=>[(0,.pr 2 0 []),(2,.s t),(3,.i .i64 R4),(10,B4 1234 35 I3 Z6)]) (fun(m:List Fil)=>[(2,A1 [.mp a 0 ⟨1,K⟩,.mp b 0 ⟨0,K⟩,.i .i64 rJ,.b tl,B4 20 3 O7 m,.i .i64 we3])]) (fun(m:List Fil)=>(m.length:Int)<=rJ/\(FOk l->FOk m)) [20,1234] (fun R hR=>⟨fun h7=>?_,fun h7=>?_⟩) ?_
 ·have h1d:=oC (hJ h7)
  refine cC ((0:Int)<=0/\(0:Int)<=(i64.wrap ((t.length:Int)-1))/\(i64.wrap ((t.length:Int)-1))<=(t.length:Int)) ?_ bw;refine cC ((l.length+1)*48<=140737488355328) ?_;exact cA hX (hR (l++[⟨((t.drop 0).take (((i64.wrap ((t.length:Int)-1))).toNat-0)),true,[]⟩]) (by first|exact⟨zO,id⟩|exact⟨by simp only[C9,x4];omega,fun h=>h.snoc⟩)) (hH:=⟨(vT (u:=A1 [.mp a 0 ⟨1,K⟩,.mp b 0 ⟨0,K⟩,.i .i64 rJ,.b tl,.sl 20 3 (l.length+1) fun i=>bif blt i l.length then O7 (l.getD i default) else A1 [.s ((t.drop 0).take (((i64.wrap ((t.length:Int)-1))).toNat-0)),.b true,.bl 1 []],.i .i64 we3]) (C4 ⟨.rfl _,.rfl _,.rfl _,.rfl _,Tc l (((t.drop 0).take (((i64.wrap ((t.length:Int)-1))).toNat-0))),.rfl _,zT⟩)),zT⟩)
 ·exact cA hX (hR l (by first|exact⟨zO,id⟩|exact⟨by simp only[C9,x4];omega,fun h=>h.snoc⟩))
 rintro m dH
 refine cM hX (fun(p:Nat×Int×(List Fil)×Int)=>[(0,.pr 2 0 []),(2,.s t),(3,.i .i64 R4),(64,B4 1234 35 I3 Z6),(65,.i .i64 (Z6.length:Int)),(66,.i .i64 (p.1:Int))]) (fun(p:Nat×Int×(List Fil)×Int)=>[(2,A1 [.mp a 0 ⟨1,K⟩,.mp b 0 ⟨0,K⟩,.i .i64 p.2.1,.b tl,B4 20 3 O7 p.2.2.1,.i .i64 p.2.2.2])]) (fun(p:Nat×Int×(List Fil)×Int)=>p.1<=Z6.length/\p.2.2.2=0/\(0<=p.2.1/\p.2.1<=1024)/\(p.2.2.1.length:Int)<=p.2.1/\(FOk l->FOk p.2.2.1)) (fun(p:Nat×Int×(List Fil)×Int)=>Z6.length-p.1) [20,1234] 10192 (0,rJ,m,we3) (by dsimp only;exact⟨zO,zO,zO,zO,dH.2⟩) ?_;rintro⟨k,c3,l3,e3⟩ hI R hR
 dsimp only at hI
 refine cB ((k:Int)<(Z6.length:Int)) (fun h8=>?_) fun h8=>?_
 ·have hk:=Tb (k:=k) hfn2
  refine cC ((0:Int)<=(k:Int)/\(k:Int)<(Z6.length:Int)) ?_;refine cB ((Z6.getD k default).kind=2) (fun h9=>?_) fun h9=>?_
  ·refine cC (t.length+((Z6.getD k default).name).length<=maxLen) ?_ bm
   refine cC ((t++((Z6.getD k default).name)).length+[47].length<=maxLen) ?_ bM;refine gO (fun _=>hm rfl) [(2,2),(20,3)] [2] (ih zO (i64.wrap (R4+1)) hw K a b c3 tl l3 e3 ((Z6.getD k default).of) ((t++((Z6.getD k default).name))++[47]) bd hI.2.1 bd bM (fun _=>by simp only[C9,x4];omega)) ?_;rintro out ho A0 ⟨gc4,gl4,ge4,rfl,rfl,hgc4,hgf4⟩
   refine cB (ge4≠0) (fun J7=>?_) fun J7=>?_
   ·exact xW hX (A2 []) (ho:=[(2,A1 [.mp a 0 ⟨1,K⟩,.mp b 0 ⟨0,K⟩,.i .i64 gc4,.b tl,B4 16 3 O7 gl4,.i .i64 ge4])]) (by refine⟨_,_,_,rfl,rfl,fun q=>?_,fun h=>hgf4 (hI.2.2.2.2 h)⟩;omega)
   have hg:=hgc4 zO
   exact cA hX (hR (k+1,gc4,gl4,ge4) (by dsimp only;exact⟨zO,zO,zO,zO,fun h=>hgf4 (hI.2.2.2.2 h)⟩) (by dsimp only;omega)) (hS:=⟨v0,v0,v0,v0,v0,(vS bd),zT⟩)
  refine gO (fun _=>hm rfl) [(2,2),(20,3)] [2] (Ta K a b c3 tl l3 e3 (Z6.getD k default) t zO hI.2.1 bd bd bd) ?_
  rintro out ho A0 ⟨gc5,gl5,ge5,rfl,rfl,hgc5,hge5,hgl5,hgf5⟩
  refine cB (ge5≠0) (fun P5=>?_) fun P5=>?_
  ·exact xW hX (A2 []) (ho:=[(2,A1 [.mp a 0 ⟨1,K⟩,.mp b 0 ⟨0,K⟩,.i .i64 gc5,.b tl,B4 16 3 O7 gl5,.i .i64 ge5])]) (by refine⟨_,_,_,rfl,rfl,fun q=>?_,fun h=>hgf5 (hI.2.2.2.2 h)⟩;omega)
  exact cA hX (hR (k+1,gc5,gl5,ge5) (by dsimp only;exact⟨zO,zO,zO,zO,fun h=>hgf5 (hI.2.2.2.2 h)⟩) (by dsimp only;omega)) (hS:=⟨v0,v0,v0,v0,v0,(vS bd),zT⟩)
 exact xW hX (A2 []) (ho:=[(2,A1 [.mp a 0 ⟨1,K⟩,.mp b 0 ⟨0,K⟩,.i .i64 c3,.b tl,B4 16 3 O7 l3,.i .i64 e3])]) (by refine⟨_,_,_,rfl,rfl,fun q=>?_,fun h=>hI.2.2.2.2 h⟩;omega)
structure InsL (P:Program) (ρ:Go.Shelf.Ren) (z q:Nat) (zv:Value):Prop where
 mixed:P.follows .mixedOrders=true
 t0:P.underlying (ρ.t 0)=some (TypeDesc.tuple #[])
 a0:∀w,(isAgg (ρ.t 0)).run P w=.ok false w
 z0:∀w,(Go.sizeOf (ρ.t 0)).run P w=.ok 1 w
 v0:∀w,(zeroValue (ρ.t 0)).run P w=.ok (Value.tuple #[]) w
 t3:P.underlying (ρ.t 3)=some (TypeDesc.int i64)
 a3:∀w,(isAgg (ρ.t 3)).run P w=.ok false w
 z3:∀w,(Go.sizeOf (ρ.t 3)).run P w=.ok 1 w
 v3:∀w,(zeroValue (ρ.t 3)).run P w=.ok (Value.int i64 0) w
 t4:P.underlying (ρ.t 4)=some (TypeDesc.bool)
 a4:∀w,(isAgg (ρ.t 4)).run P w=.ok false w
 z4:∀w,(Go.sizeOf (ρ.t 4)).run P w=.ok 1 w
 v4:∀w,(zeroValue (ρ.t 4)).run P w=.ok (Value.bool false) w
 z9:∀w,(Go.sizeOf (ρ.t 9)).run P w=.ok z w
 t24:P.underlying (ρ.t 24)=some (TypeDesc.slice (ρ.t 9))
 a24:∀w,(isAgg (ρ.t 24)).run P w=.ok false w
 z24:∀w,(Go.sizeOf (ρ.t 24)).run P w=.ok 1 w
 v24:∀w,(zeroValue (ρ.t 24)).run P w=.ok (Value.slice none 0 0) w
 i9:(P.info? (ρ.t 9)).map (fun i=>(i.zero,i.size,i.bytes))=some (some zv,z,q)
 zp:0<z
 zs:zv.cells.size=z
 zo:∀v∈zv.cells.toList,v.oneCell'=true
def uD(P:Program)(f:FuncId)(g:Func):Prop:=∃fn,P.funcs[f]? =some fn/\fn.body=g.body/\fn.ntmps=g.ntmps/\fn.results=g.results
theorem HA{f:FuncId}{g:Func}{c:Code}{args:Array Value}{R:Ending->World->Prop}(hf:uD P f g)(hb:g.body=some c)
  (h:c.wp P (bodyPost P g R) { tmps:=args++Array.replicate (g.ntmps-args.size) undef,defers:=[]} w):Calls P f args w R:=by
 obtain⟨fn,h1,h2,h3,h4⟩:=hf
 have e:bodyPost P fn R=bodyPost P g R:=by funext e a w;unfold bodyPost;cases e<;>simp only[results,h4]
 refine calls_of_wp h1 (h2.trans hb) ?_
 rw[e,h3];exact h
theorem HB(w:World)(dT sT ty elem:TypeId)(b o dLen dCap:Nat)(a:Addr)(sLen sCap:Nat)(cs:List Value){z:Nat}
  (hu:P.underlying dT=some (.slice elem))(hs:(P.info? elem).map (·.size)=some z)(hn:cs.length=Nat.min sLen dLen*z)
  (J6:∀j v,cs[j]? =some v->w.cell? (a.add j)=some v)(hc:∀j,j<cs.length->(w.cell? ⟨b,o+j,none⟩).isSome=true)(hf:∀j,j<cs.length->w.frozen? ⟨b,o+j,none⟩=false)(h1:∀v∈cs,v.oneCell'=true):
  (Builtin.copy_ #[dT,sT] ty #[.slice (some ⟨b,o,none⟩) dLen dCap,.slice (some a) sLen sCap]).run P w=.ok (goInt (Nat.min sLen dLen)) (w.setCells b o cs):=by
 have hl:=run_loadCells_list (P:=P) w a cs J6
 have H9:=run_storeCells_cells (P:=P) b o cs 0 w (by simpa using hc) (by simpa using hf) h1
 cases hq:P.info? elem with
|none=>simp[hq]at hs
|some i=>
  have hi:i.size=z:=by simpa [hq] using hs
  simp[Builtin.copy_,run_underlying hu,Builtin.lenOf,Builtin.firstCells,sizeOf,typeInfo,hq,hi, <-hn,hl,H9]
open Go.Shelf Go.RowKit Go.Lib in
set_option maxHeartbeats 4000000 in
set_option maxRecDepth 100000 in
theorem Td{ρ:Go.Shelf.Ren}{z:Nat}{zv:Value}{f:FuncId}(L:InsL P ρ z q zv)(hF:uD P f (Body2.n22 ρ))(b off n c i vb Z7 vc:Nat)(cs vs:List Value)(w:World)(hi:i<n)(i7:n+1<=c)(hc63:c<=9223372036854775807)
  (bP:cs.length=n*z)(nM:vs.length=z)
  (v6:∀j v,cs[j]? =some v->w.cell? ⟨b,off+j,none⟩=some v)(fT:∀j,j<(n+1)*z->(w.cell? ⟨b,off+j,none⟩).isSome=true)(W5:∀j,j<(n+1)*z->w.frozen? ⟨b,off+j,none⟩=false)
  (X9:∀j v,vs[j]? =some v->w.cell? ⟨vb,Z7+j,none⟩=some v)(lL:∀v∈cs,v.oneCell'=true)(h1v:∀v∈vs,v.oneCell'=true)
  (Y6:vb=b->∀j k,j<z->k<(n+1)*z->Z7+j≠off+k)
  (hov:∀cb,(callFunc (ρ.f 29) #[.slice (some ⟨vb,Z7,none⟩) 1 vc,.slice (some ⟨b,off+(i+1)*z,none⟩) (n-i) cb]).run P w=.ok (.value (.bool false)) w):
  Calls P f #[.slice (some ⟨b,off,none⟩) n c,.int .i64 i,.slice (some ⟨vb,Z7,none⟩) 1 vc] w fun e w'=>
   e=.returned (.slice (some ⟨b,off,none⟩) (n+1) c)/\w'=(w.drew.setCells b (off+(i+1)*z) (cs.drop (i*z))).setCells b (off+i*z) vs:=by
 have t0:=L.t0;have a0:=L.a0;have z0:=L.z0;have v0:=L.v0;have t3:=L.t3;have a3:=L.a3;have z3:=L.z3;have v3:=L.v3;have t4:=L.t4;have a4:=L.a4;have z4:=L.z4;have v4:=L.v4;have z9:=L.z9;have t24:=L.t24;have a24:=L.a24;have z24:=L.z24;have v24:=L.v24
 have u0:=run_underlying L.t0;have u3:=run_underlying L.t3;have u4:=run_underlying L.t4;have u24:=run_underlying L.t24
 have jU:¬ ((i:Int)=(n:Int)):=by omega
 have G2:(P.info? (ρ.t 9)).map (·.size)=some z:=by
  obtain⟨i0,jY,h0,h1,h2⟩:=info_parts L.i9
  rw[jY];simp[h1]
 have rK:=L.zp
 have hIN:i*z+z<=n*z:=by have:=G6 z hi;rw[G7]at this;exact this
 have hn1:(n+1)*z=n*z+z:=G7 n z
 have kF:(i+1)*z=i*z+z:=G7 i z
 have Y0:(cs.drop (i*z)).length=n*z-i*z:=by rw[K5,bP]
 have rM:(n-i)*z=n*z-i*z:=nE n i z
 have mixed:=L.mixed
 have rA:i64.wrap ((i:Int)+1)=(i:Int)+1:=by rw[IntKind.wrap_i64];omega
 have N6:(0:Int)<=(i:Int)+1:=by omega
 have W4:i<=n:=by omega
 have htn:((i:Int)+1).toNat=i+1:=by omega
 have S2:¬ (c=i+1):=by omega
 have x8:(i:Int)<=(n:Int)+1:=by omega
 have hb4:¬ (c=i):=by omega
 have hcp1:∀ty dc sc,(Builtin.copy_ #[(ρ.t 24),(ρ.t 24)] ty #[.slice (some ⟨b,off+(i+1)*z,none⟩) (n-i) dc,.slice (some ⟨b,off+i*z,none⟩) (n+1-i) sc]).run P w.drew=.ok (goInt (Nat.min (n+1-i) (n-i))) (w.drew.setCells b (off+(i+1)*z) (cs.drop (i*z))):=fun ty dc sc=>
  HB w.drew _ _ ty (ρ.t 9) b (off+(i+1)*z) (n-i) dc ⟨b,off+i*z,none⟩ (n+1-i) sc (cs.drop (i*z)) L.t24 G2 (by rw[Y0, <-rM];congr 1;simp only[Nat.min_def];split<;>omega)
   (fun j v hj=>by rw[Addr.add_lit,O8];exact v6 (i*z+j) v (by rwa [Q2]at hj))
   (fun j hj=>by rw[O8];exact fT _ zO) (fun j hj=>by rw[O8];exact W5 _ zO) (fun v hv=>lL v (IT hv))
 obtain⟨W1,w3⟩:∃W1,W1=w.drew.setCells b (off+(i+1)*z) (cs.drop (i*z)):=⟨_,rfl⟩
 have hsp1:∀k,k<(n+1)*z->(W1.cell? ⟨b,off+k,none⟩).isSome=true:=fun k hk=>by
  rw[w3]
  exact isSome_setCells b _ _ _ (fun j hj=>by rw[O8];exact fT _ zO) _ (fT k hk)
 have hcp2:∀(W:World),(∀x,W.cell? x=W1.cell? x)->(∀x,W.frozen? x=W1.frozen? x)->∀ty dc,(Builtin.copy_ #[(ρ.t 24),(ρ.t 24)] ty #[.slice (some ⟨b,off+i*z,none⟩) (n+1-i) dc,.slice (some ⟨vb,Z7,none⟩) 1 vc]).run P W=.ok (goInt (Nat.min 1 (n+1-i))) (W.setCells b (off+i*z) vs):=fun W rN hWf ty dc=>
  HB W _ _ ty (ρ.t 9) b (off+i*z) (n+1-i) dc ⟨vb,Z7,none⟩ 1 vc vs L.t24 G2 (by rw[nM,show Nat.min 1 (n+1-i)=1 by simp only[Nat.min_def];split<;>omega,qL])
   (fun j v hj=>by
    have hjz:j<z:=by have:=(N0.1 hj).1;omega
    rw[Addr.add_lit,rN,w3,nD b _ _ _ _ (fun h _=>by
     show Z7+j<off+(i+1)*z\/off+(i+1)*z+(cs.drop (i*z)).length<=Z7+j
     by_cases h1:Z7+j<off+(i+1)*z
     ·exact .inl h1
     by_cases h2:off+(i+1)*z+(cs.drop (i*z)).length<=Z7+j
     ·exact .inr h2
     exact absurd (show Z7+j=off+(Z7+j-off) by omega) (Y6 h j (Z7+j-off) hjz zO))]
    exact X9 j v hj)
   (fun j hj=>by rw[rN,O8];exact hsp1 _ zO) (fun j hj=>by rw[hWf,w3,jS,O8];exact W5 _ zO) h1v
 rw[<-w3]at hcp1
 clear Y6 hIN hn1 kF Y0 rM
 refine HA hF rfl ?_
 simp only[Body2.n22_ntmps ρ,bL,I4,S1,Nat.reduceAdd,Nat.reduceSub,Array.replicate_succ,Array.replicate_zero,List.push_toArray,List.append_toArray,Y4,t6]
 go_wp2_with (simp only[hov])
 go_region_law_o (refine step_copy_runI rfl _ _ (ρ.t 24) (ρ.t 24) rfl _ _ (by simp[Act.eval,Act.put]) (by simp[Act.eval,Act.put]) (hcp1 _ _ _) ?_)
 go_wp2_with (at_builtin;refine wpList_copy_runI _ rfl _ _ (ρ.t 24) (ρ.t 24) rfl _ _ rfl rfl (hcp2 _ (fun _=>rfl) (fun _=>rfl) _ _) ?_)
 go_ret
 first|exact⟨rfl,rfl⟩|exact⟨rfl,by rw[w3]⟩
open Go.Shelf Go.RowKit Go.Lib in
set_option maxHeartbeats 4000000 in
set_option maxRecDepth 100000 in
theorem Te{ρ:Go.Shelf.Ren}{z:Nat}{zv:Value}{f:FuncId}(L:InsL P ρ z q zv)(hF:uD P f (Body2.n22 ρ))(P4:Option Addr)(n c vb Z7 vc:Nat)(w w':World)(v':Value)(hnil:P4=none->n=0)(hnc:n<=c)
  (I0:∀ty,(Builtin.append_ #[(ρ.t 24),(ρ.t 24)] ty #[.slice P4 n c,.slice (some ⟨vb,Z7,none⟩) 1 vc]).run P w=.ok v' w'):
  Calls P f #[.slice P4 n c,.int .i64 n,.slice (some ⟨vb,Z7,none⟩) 1 vc] w fun e w2=>e=.returned v'/\w2=w':=by
 have t0:=L.t0;have a0:=L.a0;have z0:=L.z0;have v0:=L.v0;have t3:=L.t3;have a3:=L.a3;have z3:=L.z3;have v3:=L.v3;have t4:=L.t4;have a4:=L.a4;have z4:=L.z4;have v4:=L.v4;have z9:=L.z9;have t24:=L.t24;have a24:=L.a24;have z24:=L.z24;have v24:=L.v24
 have u0:=run_underlying L.t0;have u3:=run_underlying L.t3;have u4:=run_underlying L.t4;have u24:=run_underlying L.t24
 have mixed:=L.mixed
 refine HA hF rfl ?_
 simp only[Body2.n22_ntmps ρ,bL,I4,S1,Nat.reduceAdd,Nat.reduceSub,Array.replicate_succ,Array.replicate_zero,List.push_toArray,List.append_toArray,Y4,t6]
 cases P4 with
|none=>
  have h0:=hnil rfl
  subst h0
  go_wp2_with (at_builtin;refine Lib.wpList_append_run _ rfl _ _ _ _ rfl _ _ rfl rfl _ _ (I0 _) ?_)
  all_goals (go_ret;exact⟨rfl,rfl⟩)
|some a=>
  obtain⟨ab,ao,asp⟩:=a
  go_wp2_with (at_builtin;refine Lib.wpList_append_run _ rfl _ _ _ _ rfl _ _ rfl rfl _ _ (I0 _) ?_)
  all_goals (go_ret;exact⟨rfl,rfl⟩)
open Go.Shelf Go.RowKit Go.Lib in
set_option maxHeartbeats 4000000 in
set_option maxRecDepth 100000 in
theorem Tf{ρ:Go.Shelf.Ren}{z:Nat}{zv:Value}{f:FuncId}(L:InsL P ρ z q zv)(hF:uD P f (Body2.n22 ρ))(b off n c i vb Z7 vc:Nat)(cs vs:List Value)(w:World)(hi:i<n)(hnc:n<=c)(i7:c<n+1)(hbig:(n+1)*q<=140737488355328)(hq:0<q)
  (bP:cs.length=n*z)(nM:vs.length=z)
  (v6:∀j v,cs[j]? =some v->w.cell? ⟨b,off+j,none⟩=some v)
  (X9:∀j v,vs[j]? =some v->w.cell? ⟨vb,Z7+j,none⟩=some v)(lL:∀v∈cs,v.oneCell'=true)(h1v:∀v∈vs,v.oneCell'=true):
  Calls P f #[.slice (some ⟨b,off,none⟩) n c,.int .i64 i,.slice (some ⟨vb,Z7,none⟩) 1 vc] w fun e w'=>∃ROW G,ROW.size=G*z/\n+1<=G/\G<=maxLen/\ROW.toList.take (i*z)=cs.take (i*z)/\
   e=.returned (.slice (some ⟨w.heap.size,0,none⟩) (n+1) G)/\
   w'=(((w.alloc (.cells ROW (ρ.t 9))).drew.setCells w.heap.size (i*z) vs).drew).setCells w.heap.size ((i+1)*z) (cs.drop (i*z)):=by
 have t0:=L.t0;have a0:=L.a0;have z0:=L.z0;have v0:=L.v0;have t3:=L.t3;have a3:=L.a3;have z3:=L.z3;have v3:=L.v3;have t4:=L.t4;have a4:=L.a4;have z4:=L.z4;have v4:=L.v4;have z9:=L.z9;have t24:=L.t24;have a24:=L.a24;have z24:=L.z24;have v24:=L.v24
 have u0:=run_underlying L.t0;have u3:=run_underlying L.t3;have u4:=run_underlying L.t4;have u24:=run_underlying L.t24
 have mixed:=L.mixed
 have rK:=L.zp
 have eF:=L.zs
 obtain⟨i0,jY,x7,hzz,hzb⟩:=info_parts L.i9
 have hIN:i*z+z<=n*z:=by have:=G6 z hi;rw[G7]at this;exact this
 have hn1:(n+1)*z=n*z+z:=G7 n z
 have kF:(i+1)*z=i*z+z:=G7 i z
 have rM:(n-i)*z=n*z-i*z:=nE n i z
 have jU:¬ ((i:Int)=(n:Int)):=by omega
 have hz3:(c:Int)<(n:Int)+1:=by omega
 have G2:(P.info? (ρ.t 9)).map (·.size)=some z:=by rw[jY];simp[hzz]
 have jX:b<w.heap.size:=block_lt_of_cell (v6 0 _ (B6 zO))
 have hvw:vb<w.heap.size:=block_lt_of_cell (X9 0 _ (B6 zO))
 have lW:(n:Int)+1-(i:Int)=((n+1-i:Nat):Int):=by omega
 have nY:i+(n+1-i)=n+1:=by omega
 have N1:n+1<=140737488355328:=L6 (uV _ hq) hbig
 have bR:(Builtin.firstCells i0.size i (.slice (some ⟨b,off,none⟩) i c)).run P w.drew=.ok (cs.take (i*z)).toArray w.drew:=by
  rw[hzz]
  exact run_firstCells_some w.drew z i ⟨b,off,none⟩ i c (cs.take (i*z)) (by rw[F6];omega) (fun j v hj=>by
   rw[Addr.add_lit]
   rw[r9]at hj
   split at hj
   ·exact v6 j v hj
   cases hj)
 have hrz:∀ty,(Builtin.append_ #[(ρ.t 24),(ρ.t 3)] ty #[.slice (some ⟨b,off,none⟩) i c,.int .i64 ((n:Int)+1-(i:Int))]).run P w=
   .ok (.slice (some ⟨w.heap.size,0,none⟩) (n+1) (grownCap w (n+1) c (ρ.t 9))) (w.drew.alloc (.cells ((cs.take (i*z)).toArray++Builtin.zeroCells zv.cells (n+1-i)++Builtin.zeroCells zv.cells (grownCap w (n+1) c (ρ.t 9)-(n+1))) (ρ.t 9))):=fun ty=>by
  have h:=Lib.run_append_grow_zeros w (ρ.t 24) (ρ.t 3) ty (ρ.t 9) i0 _ .i64 .i64 L.t24 L.t3 jY x7 (some ⟨b,off,none⟩) i c (cs.take (i*z)) bR (n+1-i) zO zO zO zO (by rw[hzb];exact L6 (G6 _ (by omega:n+1-i<=n+1)) zO) (by rw[hzb,nY];exact growslice_fits i7 hbig)
  rw[nY]at h
  rw[lW]
  exact h
 obtain⟨G,hG⟩:∃G,G=grownCap w (n+1) c (ρ.t 9):=⟨_,rfl⟩
 obtain⟨ROW,hROW⟩:∃ROW:Array Value,ROW=(cs.take (i*z)).toArray++Builtin.zeroCells zv.cells (n+1-i)++Builtin.zeroCells zv.cells (G-(n+1)):=⟨_,rfl⟩
 rw[<-hG]at hrz
 rw[<-hROW]at hrz
 have hGn:n+1<=G:=by rw[hG];exact grownCap_ge w _ _ _
 have hsz0:∀k,(Builtin.zeroCells zv.cells k).size=k*z:=fun k=>by rw[size_zeroCells,eF]
 have hRl:ROW.size=G*z:=by
  rw[hROW,zF,zF,hsz0,hsz0,bL,F6,jQ zO, <-V9, <-V9]
  congr 1;omega
 have hGz:(n+1)*z<=G*z:=G6 _ hGn
 have hRt:ROW.toList.take (i*z)=cs.take (i*z):=by
  rw[hROW,Array.toList_append,Array.toList_append,H8,lF (by rw[F6];omega),List.take_take,Nat.min_self]
 obtain⟨W1,w3⟩:∃W1,W1=w.drew.alloc (.cells ROW (ρ.t 9)):=⟨_,rfl⟩
 rw[<-w3]at hrz
 have hN:∀j,j<(n+1)*z->(W1.cell? ⟨w.heap.size,j,none⟩).isSome=true:=fun j hj=>by
  rw[w3,World.cell?_alloc_at (w:=w.drew) ROW _ w.heap.size j rfl,zG zO];rfl
 have hNf:∀j,W1.frozen? ⟨w.heap.size,j,none⟩=false:=fun j=>by rw[w3];exact World.frozen?_alloc_at (w:=w.drew) ROW _ w.heap.size j rfl
 have hOb:∀j v,w.cell? ⟨b,j,none⟩=some v->W1.cell? ⟨b,j,none⟩=some v:=fun j v h=>by rw[w3,World.cell?_alloc_past (w:=w.drew) _ b j jX];exact h
 have hOv:∀j v,w.cell? ⟨vb,j,none⟩=some v->W1.cell? ⟨vb,j,none⟩=some v:=fun j v h=>by rw[w3,World.cell?_alloc_past (w:=w.drew) _ vb j hvw];exact h
 have Y0:(cs.drop (i*z)).length=n*z-i*z:=by rw[K5,bP]
 have hcpA:∀(W:World),(∀x,W.cell? x=W1.cell? x)->(∀x,W.frozen? x=W1.frozen? x)->∀ty dc,(Builtin.copy_ #[(ρ.t 24),(ρ.t 24)] ty #[.slice (some ⟨w.heap.size,i*z,none⟩) (n+1-i) dc,.slice (some ⟨vb,Z7,none⟩) 1 vc]).run P W=.ok (goInt (Nat.min 1 (n+1-i))) (W.setCells w.heap.size (i*z) vs):=fun W rN hWf ty dc=>
  HB W _ _ ty (ρ.t 9) w.heap.size (i*z) (n+1-i) dc ⟨vb,Z7,none⟩ 1 vc vs L.t24 G2 (by rw[nM,show Nat.min 1 (n+1-i)=1 by simp only[Nat.min_def];split<;>omega,qL])
   (fun j v hj=>by rw[Addr.add_lit,rN];exact hOv _ v (X9 j v hj))
   (fun j hj=>by rw[rN];exact hN _ zO) (fun j hj=>by rw[hWf];exact hNf _) h1v
 have hG63:G<=9223372036854775807:=by
  have:=grownCap_le_maxLen w (n+1) c (ρ.t 9) (by unfold maxLen;omega)
  rw[<-hG]at this
  unfold maxLen at this
  omega
 have hGi:¬ (G=i):=by omega
 have hGim:¬ (G=i+1):=by omega
 have hci:¬ (c=i):=by omega
 have hbN:b≠w.heap.size:=by omega
 have hcpB:∀(W:World),(∀x,W.cell? x=(W1.setCells w.heap.size (i*z) vs).cell? x)->(∀x,W.frozen? x=(W1.setCells w.heap.size (i*z) vs).frozen? x)->∀ty dc sc,(Builtin.copy_ #[(ρ.t 24),(ρ.t 24)] ty #[.slice (some ⟨w.heap.size,(i+1)*z,none⟩) (n-i) dc,.slice (some ⟨b,off+i*z,none⟩) (n-i) sc]).run P W=.ok (goInt (Nat.min (n-i) (n-i))) (W.setCells w.heap.size ((i+1)*z) (cs.drop (i*z))):=fun W rN hWf ty dc sc=>
  HB W _ _ ty (ρ.t 9) w.heap.size ((i+1)*z) (n-i) dc ⟨b,off+i*z,none⟩ (n-i) sc (cs.drop (i*z)) L.t24 G2 (by rw[Y0, <-rM];congr 1;simp only[Nat.min_def];split<;>omega)
   (fun j v hj=>by
    rw[Addr.add_lit,rN,nD _ _ _ _ _ (fun h _=>absurd h hbN),O8]
    exact hOb _ v (v6 (i*z+j) v (by rwa [Q2]at hj)))
   (fun j hj=>by rw[rN];exact isSome_setCells _ _ _ _ (fun t ht=>hN _ zO) _ (hN _ zO))
   (fun j hj=>by rw[hWf,jS];exact hNf _) (fun v hv=>lL v (IT hv))
 subst w3
 have hE1:∀x,((w.alloc (.cells ROW (ρ.t 9))).drew).cell? x=(w.drew.alloc (.cells ROW (ρ.t 9))).cell? x:=fun x=>rfl
 have hE2:∀x,((w.alloc (.cells ROW (ρ.t 9))).drew).frozen? x=(w.drew.alloc (.cells ROW (ρ.t 9))).frozen? x:=fun x=>rfl
 have hF1:∀x,(((w.alloc (.cells ROW (ρ.t 9))).drew.setCells w.heap.size (i*z) vs).drew).cell? x=((w.drew.alloc (.cells ROW (ρ.t 9))).setCells w.heap.size (i*z) vs).cell? x:=fun x=>rfl
 have hF2:∀x,(((w.alloc (.cells ROW (ρ.t 9))).drew.setCells w.heap.size (i*z) vs).drew).frozen? x=((w.drew.alloc (.cells ROW (ρ.t 9))).setCells w.heap.size (i*z) vs).frozen? x:=fun x=>rfl
 have rA:i64.wrap ((i:Int)+1)=(i:Int)+1:=by rw[IntKind.wrap_i64];omega
 have N6:(0:Int)<=(i:Int)+1:=by omega
 have W4:i<=n:=by omega
 have htn:((i:Int)+1).toNat=i+1:=by omega
 have x8:(i:Int)<=(n:Int):=by omega
 have fin:Calls P f #[.slice (some ⟨b,off,none⟩) n c,.int .i64 i,.slice (some ⟨vb,Z7,none⟩) 1 vc] w fun e w'=>e=.returned (.slice (some ⟨w.heap.size,0,none⟩) (n+1) G)/\
   w'=(((w.alloc (.cells ROW (ρ.t 9))).drew.setCells w.heap.size (i*z) vs).drew).setCells w.heap.size ((i+1)*z) (cs.drop (i*z)):=by
  clear lW nY bR hROW hG hRl hRt hGz hsz0 hIN hn1 kF Y0 rM hN hNf hOb hOv
  refine HA hF rfl ?_
  simp only[Body2.n22_ntmps ρ,bL,I4,S1,Nat.reduceAdd,Nat.reduceSub,Array.replicate_succ,Array.replicate_zero,List.push_toArray,List.append_toArray,Y4,t6]
  go_wp2_with (first
  |(at_builtin;refine Lib.wpList_append_run _ rfl _ _ _ _ rfl _ _ rfl rfl _ _ (hrz _) ?_)
  |(at_builtin;refine wpList_copy_runI _ rfl _ _ (ρ.t 24) (ρ.t 24) rfl _ _ rfl rfl (hcpA _ hE1 hE2 _ _) ?_)
  |(at_builtin;refine wpList_copy_runI _ rfl _ _ (ρ.t 24) (ρ.t 24) rfl _ _ rfl rfl (hcpB _ (fun _=>rfl) (fun _=>rfl) _ _ _) ?_))
  go_region_law_o (refine step_copy_runI rfl _ _ (ρ.t 24) (ρ.t 24) rfl (.slice (some ⟨w.heap.size,(i+1)*z,none⟩) (n-i) (G-(i+1))) (.slice (some ⟨b,off+i*z,none⟩) (n-i) (c-i)) (by simp[Act.eval,Act.put]) (by simp[Act.eval,Act.put]) (hcpB _ hF1 hF2 (ρ.t 3) (G-(i+1)) (c-i)) ?_)
  go_wp2
  go_ret
  exact⟨rfl,rfl⟩
 exact fin.mono fun e w' ⟨h1,h2⟩=>⟨ROW,G,hRl,hGn,by unfold maxLen;omega,hRt,h1,h2⟩
theorem Tg(c:Array Value):(Builtin.zeroCells c 1).toList=c.toList:=by
 apply List.ext_getElem
 ·simp[Builtin.zeroCells]
 intro i h1 h2
 have h3:i<c.size:=by simpa using h2
 simp[Builtin.zeroCells,Nat.mod_eq_of_lt h3,getElem!_pos c i h3]
theorem Th(w:World)(t e ty:TypeId)(z:Value)(ht:P.underlying t=some (.slice e))(hv:∀w,(zeroValue e).run P w=.ok z w)(h1:∀v∈z.cells.toList,v.oneCell'=true)(b o c:Nat)
  (hc:∀j,j<z.cells.size->(w.cell? ⟨b,o+j,none⟩).isSome=true)(hf:∀j,j<z.cells.size->w.frozen? ⟨b,o+j,none⟩=false):
  (Builtin.clear_ #[t] ty #[.slice (some ⟨b,o,none⟩) 1 c]).run P w=.ok (.tuple #[]) (w.setCells b o z.cells.toList):=by
 have H9:=run_storeCells_cells (P:=P) b o z.cells.toList 0 w (by simpa using hc) (by simpa using hf) h1
 simp only[s9]at H9
 simp[Builtin.clear_,run_underlying ht,hv,Tg,H9]
open Go.Shelf Go.RowKit Go.Lib Go.Sort in
set_option maxHeartbeats 4000000 in
set_option maxRecDepth 1000000 in
theorem Ti{ρ:Go.Shelf.Ren}{z:Nat}{zv:Value}{f:FuncId}(L:InsL P ρ z q zv)(hF:uD P f (Body2.n24 ρ))(b off n c i:Nat)(cs:List Value)(w:World)(hi:i<n)(hnc:n<=c)(hc63:c<=9223372036854775807)
  (bP:cs.length=n*z)(v6:∀j v,cs[j]? =some v->w.cell? ⟨b,off+j,none⟩=some v)(W5:∀j,j<n*z->w.frozen? ⟨b,off+j,none⟩=false)(lL:∀v∈cs,v.oneCell'=true):
  Calls P f #[.slice (some ⟨b,off,none⟩) n c,.int .i64 (i:Int),.int .i64 ((i:Int)+1)] w fun e w'=>e=.returned (.slice (some ⟨b,off,none⟩) (n-1) c)/\w'=(w.drew.setCells b (off+i*z) (cs.drop ((i+1)*z))).setCells b (off+(n-1)*z) zv.cells.toList:=by
 have mixed:=L.mixed;have t0:=L.t0;have a0:=L.a0;have z0:=L.z0;have v0:=L.v0;have t3:=L.t3;have a3:=L.a3;have z3:=L.z3;have v3:=L.v3;have t4:=L.t4;have a4:=L.a4;have z4:=L.z4;have v4:=L.v4;have z9:=L.z9;have t24:=L.t24;have a24:=L.a24;have z24:=L.z24;have v24:=L.v24
 have u0:=run_underlying L.t0;have u3:=run_underlying L.t3;have u4:=run_underlying L.t4;have u24:=run_underlying L.t24
 have eF:=L.zs
 obtain⟨i0,jY,x7,qP,jU⟩:=info_parts L.i9
 have v9:∀w,(zeroValue (ρ.t 9)).run P w=.ok zv w:=fun w=>by simp[zeroValue,typeInfo,jY,x7]
 have hIN:i*z+z<=n*z:=by have:=G6 z hi;rw[G7]at this;exact this
 have kF:(i+1)*z=i*z+z:=G7 i z
 have P0:(n-1)*z=n*z-z:=by rw[nE,qL]
 have rM:(n-(i+1))*z=n*z-(i+1)*z:=nE n (i+1) z
 obtain⟨news,fL⟩:∃news,news=cs.drop ((i+1)*z):=⟨_,rfl⟩
 have D8:news.length=n*z-(i+1)*z:=by rw[fL,K5,bP]
 obtain⟨A,hA,J6⟩:∃A:Addr,(if c=i+1 then some (⟨b,off,none⟩:Addr) else some ⟨b,off+(i+1)*z,none⟩)=some A/\Hid (∀t u,news[t]? =some u->w.drew.cell? (A.add t)=some u):=by
  by_cases h:c=i+1
  ·refine⟨⟨b,off,none⟩,by simp[h],fun t u hu=>?_⟩
   have h0:news.length=0:=by rw[D8,show n=i+1 by omega,bN]
   rw[j7.1 h0]at hu
   simp at hu
  refine⟨⟨b,off+(i+1)*z,none⟩,by simp[h],fun t u hu=>?_⟩
  rw[Addr.add_lit,O8]
  exact v6 _ u (by rw[fL,Q2]at hu;exact hu)
 have s1:Hid (news.length=(n-(i+1))*z):=by rw[rM];exact D8
 have s2:Hid (∀u∈news,u.oneCell'=true):=by intro u hu;rw[fL]at hu;exact lL u (IT hu)
 have cell:∀t,t<n*z->(w.drew.cell? ⟨b,off+t,none⟩).isSome=true/\w.drew.frozen? ⟨b,off+t,none⟩=false:=fun t ht=>by
  refine⟨?_,W5 t ht⟩
  have:=v6 t _ (B6 zO)
  show(w.cell? _).isSome=true
  rw[this];rfl
 have s3:Hid (∀t,t<news.length->(w.drew.cell? ⟨b,off+i*z+t,none⟩).isSome=true/\w.drew.frozen? ⟨b,off+i*z+t,none⟩=false):=by
  intro t ht
  rw[O8];exact cell _ zO
 obtain⟨W1,w3⟩:∃W1,W1=w.drew.setCells b (off+i*z) news:=⟨_,rfl⟩
 have cell1:∀t,t<n*z->(W1.cell? ⟨b,off+t,none⟩).isSome=true/\W1.frozen? ⟨b,off+t,none⟩=false:=fun t ht=>by
  rw[w3]
  refine⟨isSome_setCells b _ _ _ (fun j hj=>by rw[O8];exact(cell _ zO).1) _ (cell t ht).1,?_⟩
  rw[jS];exact(cell t ht).2
 have hin2:i+(n-(i+1))=n-1:=by omega
 have hcle:∀ty d,(Builtin.clear_ #[ρ.t 24] ty #[.slice (some ⟨b,off+(i+(n-(i+1)))*z,none⟩) (n-(i+(n-(i+1)))) d]).run P W1=.ok (.tuple #[]) (W1.setCells b (off+(n-1)*z) zv.cells.toList):=fun ty d=>by
  rw[show n-(i+(n-(i+1)))=1 by omega,hin2]
  exact Th W1 _ _ ty _ t24 v9 L.zo b (off+(n-1)*z) _ (fun t ht=>by rw[O8];exact(cell1 _ zO).1) (fun t ht=>by rw[O8];exact(cell1 _ zO).2)
 have hW:Hid (W1=w.drew.setCells b (off+i*z) news):=w3
 have hic:i<=c:=by omega
 have hjc:i+1<=c:=by omega
 have dA:i<=i+1:=by omega
 have hj:i+1<=n:=by omega
 have N6:(0:Int)<=(i:Int)+1:=by omega
 have htn:((i:Int)+1).toNat=i+1:=by omega
 have x8:(i:Int)<=(i:Int)+1:=by omega
 have hb5:(i:Int)+1<=(n:Int):=by omega
 have hb6:¬ ((i:Int)=(i:Int)+1):=by omega
 have hb7:(i:Int)+1<=(c:Int):=by omega
 obtain⟨Z,hZ⟩:∃Z,Z=zv.cells.toList:=⟨_,rfl⟩
 rw[<-hZ]at hcle ⊢
 have fin:Calls P f #[.slice (some ⟨b,off,none⟩) n c,.int .i64 (i:Int),.int .i64 ((i:Int)+1)] w fun e w'=>e=.returned (.slice (some ⟨b,off,none⟩) (i+(n-(i+1))) c)/\w'=W1.setCells b (off+(n-1)*z) Z:=by
  clear hZ hIN kF P0 rM D8 fL v6 W5 cell cell1 w3 hin2 bP
  refine HA hF rfl ?_
  simp only[Body2.n24_ntmps ρ,bL,I4,S1,Nat.reduceAdd,Nat.reduceSub,Array.replicate_succ,Array.replicate_zero,List.push_toArray,List.append_toArray,Y4,t6]
  go_wp2_with fail
  go_region_law_o (refine step_append_room rfl (.tmp 22) (.tmp 25) (ρ.t 24) rfl (ρ.t 9) i0 z t24 jY qP b off i c (by simp[Act.eval,Act.put]) A (n-(i+1)) (c-(i+1)) news (by simp[Act.eval,Act.put]) s1.out J6.out s2.out zO s3.out ?_;rw[<-hW.out])
  go_wp2
  go_ret
  exact⟨rfl,rfl⟩
 refine fin.mono fun e w' ⟨h1,h2⟩=>⟨by rw[h1,hin2],by rw[h2,w3,fL]⟩
def V5:Array Value->Nat->List Value->Array Value
|c,_,[]=>c
|c,o,v::r=>V5 (c.setIfInBounds o v) (o+1) r
theorem uE:∀(vs:List Value) (c:Array Value) (o:Nat),(V5 c o vs).size=c.size
|[],_,_=>rfl
|v::r,c,o=>by rw[V5,uE r];simp
theorem BU:∀(vs:List Value) (c:Array Value) (o j:Nat),(V5 c o vs)[j]? =if o<=j/\j<o+vs.length/\j<c.size then vs[j-o]? else c[j]?
|[],c,o,j=>by
  rw[V5,if_neg (by simp only[S1];omega)]
|v::r,c,o,j=>by
  rw[V5,BU r]
  simp only[Array.size_setIfInBounds,I4]
  by_cases h:o+1<=j/\j<o+1+r.length/\j<c.size
  ·rw[if_pos h,if_pos zO,show j-o=(j-(o+1))+1 by omega,CP]
  rw[if_neg h,IR]
  by_cases e:o=j
  ·subst e
   by_cases hs:o<c.size
   ·rw[if_pos rfl,if_pos hs,if_pos zO,bN];rfl
   rw[if_pos rfl,if_neg hs,if_neg zO,CT zO]
  rw[if_neg e,if_neg zO]
def uF(F:Array Value->Array Value):Go.Obj->Go.Obj
|.cells c e fr=>.cells (F c) e fr
|o=>o
theorem Tj(h:Array Go.Obj)(b:Nat)(f:Go.Obj->Go.Obj)(hf:∀o,f o=o):h.modify b f=h:=by
 apply Array.ext
 ·simp
 intro i h1 h2
 rw[Array.getElem_modify]
 split
 ·exact hf _
 rfl
theorem NO(h:Array Go.Obj)(b:Nat)(f g k:Go.Obj->Go.Obj)(hk:∀o,g (f o)=k o):(h.modify b f).modify b g=h.modify b k:=by
 apply Array.ext
 ·simp
 intro i h1 h2
 simp only[Array.getElem_modify]
 split
 ·exact hk _
 rfl
theorem yM(b:Nat):∀(vs:List Value) (o:Nat) (w:World),w.setCells b o vs={ w with heap:=w.heap.modify b (uF fun c=>V5 c o vs)}
|[],o,w=>by
  rw[World.setCells,Tj _ _ _ fun o=>by cases o<;>rfl]
|v::r,o,w=>by
  rw[World.setCells,yM b r]
  unfold World.setCell
  simp only[World.mk.injEq,and_self,and_true]
  exact NO _ _ _ _ _ fun o=>by cases o<;>rfl
theorem Tk{h:Array Go.Obj}{b:Nat}{C:Array Value}{T:TypeId}{fr:Nat×Nat}(hb:h[b]? =some (.cells C T fr))(F F':Array Value->Array Value)(e:F C=F' C):h.modify b (uF F)=h.modify b (uF F'):=by
 apply Array.ext
 ·simp
 intro i h1 h2
 simp only[Array.getElem_modify]
 split
 ·rename_i hi
  subst hi
  have:h[b]'(by simpa using h1)=.cells C T fr:=by
   rw[zG (by simpa using h1)]at hb;exact qG hb
  rw[this];simp only[uF,e]
 rfl
theorem YK{b:Nat}{C:Array Value}{T:TypeId}{fr:Nat×Nat}(hb:w.heap[b]? =some (.cells C T fr))(o1 o2 p1 p2:Nat)(x1 x2 y1 y2:List Value)(e:∀j:Nat,(V5 (V5 C o1 x1) o2 x2)[j]? =(V5 (V5 C p1 y1) p2 y2)[j]?):(w.setCells b o1 x1).setCells b o2 x2=(w.setCells b p1 y1).setCells b p2 y2:=by
 rw[yM b x2,yM b x1,yM b y2,yM b y1]
 simp only[World.mk.injEq,and_self,and_true]
 rw[NO _ _ _ _ (uF fun c=>V5 (V5 c o1 x1) o2 x2) fun o=>by cases o<;>rfl,NO _ _ _ _ (uF fun c=>V5 (V5 c p1 y1) p2 y2) fun o=>by cases o<;>rfl]
 exact Tk hb _ _ (IS e)
theorem YL(w:World)(C:Array Value)(T:TypeId)(fr:Nat×Nat)(o:Nat)(xs:List Value):(w.alloc (.cells C T fr)).setCells w.heap.size o xs=w.alloc (.cells (V5 C o xs) T fr):=by
 rw[yM]
 unfold World.alloc
 simp only[World.mk.injEq,and_self,and_true]
 apply Array.ext
 ·simp
 intro i h1 h2
 simp only[Array.getElem_modify]
 split
 ·rename_i hi
  subst hi
  simp[uF]
 rename_i hi
 simp only[Array.size_modify,Array.size_push]at h1
 rw[Array.getElem_push_lt zO,Array.getElem_push_lt zO]
theorem HC{b:Nat}(h:(w.cell? (ad b i)).isSome=true):∃C T fr,w.heap[b]? =some (.cells C T fr)/\i<C.size:=by
 unfold World.cell? at h
 cases hb:w.heap[b]? with
|none=>simp[hb]at h
|some ob=>
  cases ob<;>simp only[hb]at h<;>try (cases h;done)
  rename_i C T fr
  refine⟨C,T,fr,rfl,?_⟩
  rcases Nat.lt_or_ge i C.size with h'|h'
  ·exact h'
  simp[CT h']at h
def T9(g:Nat->V)(i:Nat)(v:V):Nat->V:=fun k=>bif blt k i then g k else bif beq k i then v else g (k-1)
def gU(g:Nat->V)(i:Nat):Nat->V:=fun k=>bif blt k i then g k else g (k+1)
section
variable {P:Program} {X0 X:Cx} {h:Nat->Nat->V} {lv:List Nat} {c:Nat} {w0 w:World} {z n i:Nat} {g:Nat->V} {v:V} {cs es:List Value}
theorem YM(hi:i<=n)(h1:rep X (.ar z n g) [] 2 cs)(h2:rep X v [] 2 es)(hm:v.mem=true)(hl:es.length=z):rep X (.ar z (n+1) (T9 g i v)) [] 2 (cs.take (i*z)++es++cs.drop (i*z)):=by
 obtain⟨e1,e2⟩:=h1
 have lU:i*z<=n*z:=G6 _ hi
 have ht:(cs.take (i*z)).length=i*z:=by rw[F6];omega
 refine⟨by simp only[C9,K5,ht,hl,e1];rw[G7];omega,fun k hk=>?_⟩
 unfold T9
 rw[H8]
 by_cases aK:k<i
 ·rw[dS aK]
  have h5:k*z+z<=i*z:=by have:=G6 z aK;rw[G7]at this;exact this
  rw[qD zO,lF (by rw[K5];omega),List.drop_take,List.take_take,jQ zO]
  exact e2 k zO
 rw[jI zO]
 simp only[cond_false]
 have h5:i*z<=k*z:=G6 _ zO
 rw[uQ,eA zO,Y4,ht]
 by_cases hke:k=i
 ·subst hke
  rw[P7]
  simp only[cond_true,bN,qC]
  rw[lF zO, <-hl,List.take_length]
  exact⟨h2,hm⟩
 rw[show beq k i=false by (cases hb:beq k i;rfl;exact absurd (A5 hb) hke)]
 simp only[cond_false]
 have h6:k*z=(k-1)*z+z:=by rw[<-G7];congr 1;omega
 have h7:i*z<=(k-1)*z:=G6 _ zO
 rw[uQ,eA zO,Y4,hl,List.drop_drop,show i*z+(k*z-i*z-z)=(k-1)*z by omega]
 exact e2 (k-1) zO
theorem Tl(hi:i<n)(h1:rep X (.ar z n g) [] 2 cs):rep X (.ar z (n-1) (gU g i)) [] 2 (cs.take (i*z)++cs.drop ((i+1)*z)):=by
 obtain⟨e1,e2⟩:=h1
 have lU:i*z+z<=n*z:=by have:=G6 z hi;rw[G7]at this;exact this
 have kF:(i+1)*z=i*z+z:=G7 i z
 have hnz:(n-1)*z=n*z-z:=by rw[nE,qL]
 have ht:(cs.take (i*z)).length=i*z:=by rw[F6];omega
 refine⟨by simp only[C9,K5,ht,e1];omega,fun k hk=>?_⟩
 unfold gU
 by_cases aK:k<i
 ·rw[dS aK]
  have h5:k*z+z<=i*z:=by have:=G6 z aK;rw[G7]at this;exact this
  rw[qD zO,lF (by rw[K5];omega),List.drop_take,List.take_take,jQ zO]
  exact e2 k zO
 rw[jI zO]
 simp only[cond_false]
 have h5:i*z<=k*z:=G6 _ zO
 rw[uQ,eA zO,Y4,ht,List.drop_drop,show(i+1)*z+(k*z-i*z)=(k+1)*z by (have nK:(k+1)*z=k*z+z:=G7 k z;omega)]
 exact e2 (k+1) zO
theorem Wd.unh(H:Wd X0 X h lv c w0 w){h2:Nat->Nat->V}(hh:∀r j,h2 r j=h r j\/h2 r j=.un):Wd X0 X h2 lv c w0 w:={ H with rt:=fun r j b o N hr=>(by
 rcases hh r j with e|e
 ·rw[e];exact H.rt r j b o N hr
 rw[e];trivial)}
end
section
variable {P:Program} {ρ:Go.Shelf.Ren} {z q:Nat} {zv:Value} {f:FuncId}
theorem InsL.ty(L:InsL P ρ z q zv):SlTy P (ρ.t 24) (ρ.t 9) z q:=⟨L.t24,by
 have:=L.i9
 cases hi:P.info? (ρ.t 9) with
|none=>rw[hi]at this;cases this
|some i=>
  rw[hi]at this
  simp only[X7,F1,G5]at this
  exact⟨i,zv,rfl,this.1,this.2.1,this.2.2,L.zs⟩⟩
def yN(P:Program)(ρ:Go.Shelf.Ren):Prop:=∀args w,(callFunc (ρ.f 29) args).run P w=((Extern.SlicesOverlaps.overlaps #[ρ.t 24,ρ.t 24] #[ρ.t 4] args).run P w).andThen fun v w'=>.ok (.value v) w'
theorem Tm(L:InsL P ρ z q zv)(hO:yN P ρ){vb vo b lb vc cb:Nat}(h1:(w.cell? (ad vb vo)).isSome=true)(h2:(w.cell? (ad b 0)).isSome=true)(hf:∀j,w.frozen? (ad b j)=false)(Y6:vb=b->¬ (vo<o+lb*z/\o<vo+z)):
  (callFunc (ρ.f 29) #[.slice (some ⟨vb,vo,none⟩) 1 vc,.slice (some ⟨b,o,none⟩) lb cb]).run P w=.ok (.value (.bool false)) w:=by
 obtain⟨C,T,fr,c1,c2⟩:=HC h1
 obtain⟨D,U,gr,d1,d2⟩:=HC h2
 have s1:w.shape? vb=some (T,C.size):=by simp[World.shape?, c1]
 have s2:w.shape? b=some (U,D.size):=by simp[World.shape?, d1]
 have hfo:w.frozen? ⟨b,o,none⟩=false:=hf o
 have hfe:w.frozen? ⟨b,D.size,none⟩=false:=hf _
 have nK:¬ C.size=0:=by omega
 have hk2:¬ D.size=0:=by omega
 rw[hO]
 have key:(Extern.SlicesOverlaps.overlaps #[ρ.t 24,ρ.t 24] #[ρ.t 4] #[.slice (some ⟨vb,vo,none⟩) 1 vc,.slice (some ⟨b,o,none⟩) lb cb]).run P w=.ok (.bool false) w:=by
  change Sem.run P (α:=Value) (do
   let some t:=(#[ρ.t 24,ρ.t 24]:Array TypeId)[0]?|stuck "slices.overlaps: no parameter types"
   let .slice elem <-underlying t|stuck "slices.overlaps: slice type expected"
   let size <-sizeOf elem
   match (some ⟨vb,vo,none⟩:Option Addr),(some ⟨b,o,none⟩:Option Addr) with
  |some a,some b=>
    if 1=0\/lb=0\/size=0 then pure (Value.bool false)
    else if a.block != b.block&&(<-frozen a)&&(<-frozen b) then unsupported .addressObserved
    else do
     if a.block != b.block then do
      noView a;noView b
      if <-mayBeOne a b then return Value.bool ((<-choose (.extern "sameAddr.stringBytes" 2))==1)
     pure (Value.bool (a.block==b.block&&a.off<b.off+lb*size&&b.off<a.off+1*size))
  |_,_=>pure (Value.bool false)) w=_
  have rK:=L.zp
  by_cases h0:lb=0
  ·simp[run_underlying L.t24,L.z9,h0]
  have qU:¬ ((1:Nat)=0\/lb=0\/z=0):=by omega
  by_cases O3:vb=b
  ·subst O3
   have:=Y6 rfl
   simp[run_underlying L.t24,L.z9,qU,frozen,Sem.run]
   intros
   omega
  have e1:(vb != b)=true:=by simpa using O3
  have e2:(vb==b)=false:=by simpa using O3
  cases hC:C.size with
  |zero=>omega
  |succ k=>
   cases hD:D.size with
  |zero=>omega
  |succ m=>
    rw[hC]at s1;rw[hD]at s2 hfe
    cases ha:w.frozen? ⟨vb,vo,none⟩<;>cases hae:w.frozen? ⟨vb,k+1,none⟩<;>
     simp[run_underlying L.t24,L.z9,qU,e1,e2,frozen,noView,viewAt,mayBeOne,stringish,shape,Sem.run,s1,s2,hfo,hfe,ha,hae]
 rw[key];rfl
end
section
variable {P:Program} {ρ:Go.Shelf.Ren} {z q:Nat} {zv:Value} {f:FuncId}
theorem NP{X':Cx}{G:Nat->V}(HW:Wd X0 X' h' lv' 17 w w')(hl:lv'=[16])(hh:h' 16 0=.ar z N G)(hr:rep X' (.os 16 z) lv' 17 [x]):
  ∃X' ho A0 out,(out=.os 16 z/\ho=[(16,.ar z N G)]/\A0=[16])/\repv X' A0 64 out x/\Wd X0 X' (S5 ho) A0 64 w w':=by
 subst hl
 refine⟨X',_,_,_,⟨rfl,rfl,rfl⟩,rep.mono (Cx.le.rfl' X' [16] 17) zO hr,(HW.up zO).unh fun r j=>?_⟩
 cases j with
|succ j=>exact .inr rfl
|zero=>
  show lk _ r=_\/lk _ r=_
  by_cases e:r=16
  ·subst e;exact .inl hh.symm
  right
  simp only[lk]
  rw[show beq r 16=false by (cases hb:beq r 16;rfl;exact absurd (A5 hb) e)];rfl
theorem Tn{A B C:List Value}(c:Array Value)(o:Nat)(hc:o+A.length+B.length<=c.size)(j:Nat)(hB:True:=trivial):(V5 (V5 c (o+A.length) B) o A)[j]? =(V5 c o (A++B))[j]? :=by
 simp only[BU,uE,C9]
 by_cases h1:o<=j/\j<o+A.length/\j<c.size
 ·rw[if_pos h1,if_pos zO,N5 zO]
 rw[if_neg h1]
 by_cases h2:o+A.length<=j/\j<o+A.length+B.length/\j<c.size
 ·rw[if_pos h2,if_pos zO,L7 zO];congr 1;omega
 rw[if_neg h2,if_neg zO]
theorem HD(L:InsL P ρ z q zv)(hF:uD P f (Body2.n22 ρ))(hO:yN P ρ)(n i:Nat)(g:Nat->V)(v:V)(hi:i<=n)(hm:v.mem=true)(hb:(n+1)*q<=140737488355328)(hq:0<q):
  SatHM P false f [.os 2 z,.i .i64 (i:Int),.sl 1 z 1 fun _=>v] [2] [(2,.ar z n g)] (fun out ho A0=>out=.os 16 z/\ho=[(16,.ar z (n+1) (T9 g i v))]/\A0=[16]):=by
 intro X w vs D8 aQ H _
 match vs,D8 with
|[x0,x1,x2],_=>
 have r0:repv X [2] 16 (.os 2 z) x0:=aQ 0 _ _ rfl rfl
 have r1:repv X [2] 16 (.i .i64 (i:Int)) x1:=aQ 1 _ _ rfl rfl
 have r2:repv X [2] 16 (.sl 1 z 1 fun _=>v) x2:=aQ 2 _ _ rfl rfl
 have rK:=L.zp
 have x6:bA (S5 [(2,V.ar z n g)]) 2 z=some n:=by
  unfold bA G9
  rw[show S5 [(2,V.ar z n g)] 2 0=.ar z n g from rfl]
  simp[V.row,V.mem]
 obtain⟨_,_,_,b,o,a,cap,e1,e2,e3,e4,eo,esp,e5⟩:=tB H r0 x6
 subst eo
 have e1x:x1=.int .i64 (i:Int):=(M0 r1).1
 have hR:RtR X [2] 16 w 2 0 b 0 (n*z) (.ar z n g):=H.rt 2 0 b 0 _ e1
 obtain⟨cs,c1,c2,c3,c4⟩:=hR
 obtain⟨_,av,vc,y1,y2,y3,_,y5,y6⟩:=r2
 have y1:x2=.slice av 1 vc:=by simpa using y1
 rcases y6 with⟨_,h0⟩|⟨vb,vo,rfl,hw,_⟩
 ·omega
 obtain⟨es,v1,v2,v3,v4⟩:=hw 0 zO
 rw[Nat.zero_mul,s9]at v4
 have es1:=o5 v3 v1
 have rO:=o5 (v:=.ar z n g) (lv:=[]) (c:=2) c2 c1
 have hvc:∀j u,es[j]? =some u->w.cell? (ad vb (vo+j))=some u:=fun j u hj=>H.cell (v4 j u hj) (es1 u (E2 hj))
 have J6:∀u,(∀x,u.cell? x=w.cell? x)->Src P z (ρ.t 24) x2 1 es u:=fun u hu=>by
  rw[y1]
  exact Src.ofSlice u L.t24 ⟨vb,vo,none⟩ 1 vc es (by rw[v2,qL]) (fun j x hj=>by rw[Addr.add_lit,hu];exact hvc j x hj) es1
 have N1:n+1<=maxLen:=by
  have:n+1<=(n+1)*q:=uV _ hq
  have:maxLen=9223372036854775807:=rfl
  omega
 have wC:rep X (.ar z (n+1) (T9 g i v)) [] 2 (cs.take (i*z)++es++cs.drop (i*z)):=YM hi c1 v1 hm v2
 have xF:∀(u:World),(∀x,u.cell? x=w.cell? x)->Wd (X.ent [2]) X (S5 [(2,V.ar z n g)]) [2] 16 w u->Q7 X u 2 0 b 0 cs->∀(ty:TypeId) (V2:V),V2.mem=true->rep X V2 [] 2 (cs++es)->_:=fun u hu HU hL ty V2 fQ aM=>
  EQ (ty:=ty) (u:=ρ.t 24) (tx:=ρ.t 24) (y:=x2) (nm:=16) (r:=2) (n:=n) (m:=1) (cap:=cap) (a:=a) (v:=V2) HU (B3 16) zO rK c3 e3 e4 (e5.imp (fun⟨h0,h1⟩=>⟨h0,h1 (by simp)⟩) fun⟨h0,h1,h2⟩=>⟨b,0,rfl,h0,e1,hL,.inr ⟨h1,h2 (by simp)⟩⟩) L.ty (J6 u hu) esp hb N1 rO fQ aM
 by_cases W4:i=n
 ·subst W4
  have hd:cs.take (i*z)++es++cs.drop (i*z)=cs++es:=by rw[W0 zO,eA zO,Z5]
  rw[hd]at wC
  obtain⟨a',M4,w',X',q1,q2,q3,q4,q5⟩:=xF w (fun _=>rfl) H c4 0 _ rfl wC
  rw[y1]at q1
  have key:=Te L hF a i cap vb vo vc w w' _ (fun e=>by
   rcases e5 with⟨h,_⟩|⟨_,h,_⟩
   ·exact h
   rw[h]at e;cases e) e3 (fun ty=>q1)
  rw[e2,e1x,y1]
  exact x5 key fun e w2 ⟨h1,h2⟩=>⟨_,h1,by subst h2;exact NP q3 rfl (j5 _ _ _ _) q4⟩
 have hlt:i<n:=by omega
 have vL:0<n:=by omega
 rcases e5 with⟨h0,_⟩|⟨_,rfl,P8⟩
 ·omega
 have P8:=P8 (by simp)
 have lU:i*z+z<=n*z:=by have:=G6 z hlt;rw[G7]at this;exact this
 have hn1:(n+1)*z=n*z+z:=G7 n z
 have kF:(i+1)*z=i*z+z:=G7 i z
 have P2:∀j x,cs[j]? =some x->w.cell? (ad b (0+j))=some x:=fun j x hj=>(c4 j x hj).2.1
 have qW:=c4 0 _ (B6 zO)
 have vI:∀j,w.frozen? (ad b j)=false:=qW.2.2.2 rfl
 have hcell0:(w.cell? (ad b 0)).isSome=true:=by have:=qW.2.1;rw[J2]at this;rw[this];rfl
 have hvcell:(w.cell? (ad vb vo)).isSome=true:=by
  have:=hvc 0 _ (B6 zO);rw[s9]at this;rw[this];rfl
 by_cases i7:n+1<=cap
 ·have hcz:(n+1)*z<=cap*z:=G6 _ i7
  have hG:∀k,k<(n+1)*z->(∃r j k',X.G b k=.rt r j k')\/∃t,X.G b k=.tp t:=fun k hk=>by
   by_cases hk2:k<n*z
   ·have:=(c4 k _ (B6 zO)).1
    rw[J2]at this;exact .inl ⟨_,_,_,this⟩
   have:=P8 k zO zO
   rw[J2]at this;exact .inr ⟨_,this⟩
  have Y6:vb=b->∀j k,j<z->k<(n+1)*z->vo+j≠0+k:=fun e j k hj hk he=>by
   subst e
   have W5:=v4 j _ (B6 zO)
   rw[he,J2]at W5
   rcases hG k hk with⟨r,j',k',h⟩|⟨t,h⟩<;>rw[h]at W5<;>cases W5
  have fT:∀j,j<(n+1)*z->(w.cell? ⟨b,0+j,none⟩).isSome=true:=fun j hj=>by
   by_cases hj2:j<n*z
   ·rw[P2 j _ (B6 zO)];rfl
   exact(H.tp _ _ _ (P8 j zO zO)).1
  have hov:∀cb,(callFunc (ρ.f 29) #[.slice (some ⟨vb,vo,none⟩) 1 vc,.slice (some ⟨b,0+(i+1)*z,none⟩) (n-i) cb]).run P w=.ok (.value (.bool false)) w:=fun cb=>Tm L hO hvcell hcell0 vI fun e h=>by
   have hd:(n-i)*z=n*z-i*z:=nE n i z
   have h3:vo<(n+1)*z:=by omega
   exact Y6 e 0 vo zO h3 zO
  have key:=Td L hF b 0 n cap i vb vo vc cs es w hlt i7 (by have:maxLen=9223372036854775807:=rfl;omega) c3 v2 P2 fT (fun j _=>vI _) hvc rO es1 Y6 hov
  obtain⟨a',M4,w1,X1,q1,q2,q3,q4,q5⟩:=xF w.drew (fun _=>rfl) H.drew c4 0 (.ar z (n+1) (T9 g n v)) rfl (by
   have:=YM (B3 n) c1 v1 hm v2
   rwa [W0 zO,eA zO,Z5]at this)
  obtain⟨S9,zv',dC,hzv,K7,fI,eF⟩:=L.ty.row
  have hr:=run_append_room_src (P:=P) w.drew (ρ.t 24) (ρ.t 24) 0 (ρ.t 9) S9 L.t24 dC b 0 n cap x2 1 es (by rw[K7];exact J6 w.drew fun _=>rfl) i7 (fun j hj=>by rw[K7,J2];have:=fT (n*z+j) zO;rw[J2]at this;exact this) (fun j hj=>vI _)
  rw[K7]at hr
  rw[hr]at q1
  simp only[Result.ok.injEq,Value.slice.injEq]at q1
  obtain⟨⟨rfl,_,rfl⟩,rfl⟩:=q1
  obtain⟨_,_,b',n',p1,p2,_⟩:=q4
  obtain⟨a2,cap2,p3,p4,p5,p6,p7,p8⟩:=p2
  simp only[qE,Value.slice.injEq,and_true]at p3
  obtain⟨rfl,hn',rfl⟩:=p3
  subst hn'
  rcases p8 with⟨h0,_⟩|⟨b2,o2,p9,p10,p11⟩
  ·rcases h0 with h0|h0<;>cases h0
  simp only[F1,Addr.mk.injEq,and_true]at p9
  obtain⟨rfl,rfl⟩:=p9
  obtain⟨rfl,_⟩:=p10 zO
  have iN:=q3.rt 16 0 b 0 _ p1
  rw[j5]at iN
  obtain⟨ds,d1,d2,d3,d4⟩:=iN
  have hws:∀j x,(cs++es)[j]? =some x->ds[j]? =some x:=fun j x hj=>by
   have hlt2:=(N0.1 hj).1
   rw[C9]at hlt2
   have h1:=(d4 j _ (B6 zO)).2.1
   rw[B6 zO]
   rw[<-h1]
   show(w.drew.setCells b (0+n*z) es).cell? (ad b (0+j))=some x
   by_cases hjc:j<cs.length
   ·rw[N5 hjc]at hj
    rw[nD b es _ _ _ (fun _ _=>.inl (by show 0+j<0+n*z;omega))]
    exact P2 j x hj
   rw[L7 zO]at hj
   have:=zC b es (0+n*z) w.drew (fun k hk=>by have:=fT (n*z+k) zO;rw[<-O8]at this;exact this) (j-cs.length) zO
   rw[show 0+n*z+(j-cs.length)=0+j by omega]at this
   rw[this, <-hj,B6 zO]
  have hds:ds=cs++es:=by
   apply V7
   intro j
   by_cases hj:j<(cs++es).length
   ·rw[hws j _ (B6 hj),B6 hj]
   rw[V6 (by rw[C9]at hj;omega),V6 zO]
  subst hds
  have Y0:(cs.drop (i*z)).length=n*z-i*z:=by rw[K5,c3]
  have hins:ins (cs++es) (i*z) (es++cs.drop (i*z))=cs.take (i*z)++es++cs.drop (i*z):=by
   have B1:(cs++es).length<=i*z+(es++cs.drop (i*z)).length:=by simp only[C9,Y0];omega
   unfold ins
   rw[lF zO,eA B1,Z5,H8]
  have HS:=q3.store (off:=i*z) (xs:=es++cs.drop (i*z)) p1 d4 d3 (by simp only[C9,Y0];omega) (v:=.ar z (n+1) (T9 g i v)) rfl (by
   rw[hins]
   exact((wC.mono q2.nil (B3 2)).out (fun t ht=>(q3.lvc t ht).1) zO:rep X1 (.ar z (n+1) (T9 g i v)) _ 17 _))
  rw[e2,e1x,y1]
  refine x5 key fun e w2 ⟨h1,h2⟩=>⟨_,h1,?_⟩
  obtain⟨C,T,fr,k1,k2⟩:=HC (fT ((n+1)*z-1) zO)
  have hwe:w2=((w.drew.setCells b (0+n*z) es).setCells b (0+i*z) (es++cs.drop (i*z))):=by
   rw[h2]
   refine YK (w:=w.drew) k1 _ _ _ _ _ _ _ _ fun j=>?_
   have hp:=Tn (A:=es) (B:=cs.drop (i*z)) (C:=[]) C (0+i*z) (by rw[Y0];omega) j
   rw[show 0+i*z+es.length=0+(i+1)*z by omega]at hp
   rw[hp]
   simp only[BU,uE,C9,Y0]
   by_cases h3:0+i*z<=j/\j<0+i*z+(es.length+(n*z-i*z))/\j<C.size
   ·rw[if_pos h3,if_pos h3]
   rw[if_neg h3,if_neg h3,if_neg zO]
  rw[hwe]
  refine NP HS rfl (j5 _ _ _ _) ⟨zO,rK,b,n+1,p1,⟨_,cap,rfl,p4,p5,p6,p7,.inr ⟨b,0,rfl,p10,p11⟩⟩,fun h _=>by omega⟩
 have key:=Tf L hF b 0 n cap i vb vo vc cs es w hlt e3 zO hb hq c3 v2 P2 hvc rO es1
 rw[e2,e1x,y1]
 refine x5 key fun e w2 ⟨ROW,G,g1,g2,g3,g4,g5,g6⟩=>⟨_,g5,?_⟩
 have hGz:(n+1)*z<=G*z:=G6 _ g2
 have Y0:(cs.drop (i*z)).length=n*z-i*z:=by rw[K5,c3]
 have kD:w2=(w.drew.drew).alloc (.cells (V5 (V5 ROW (i*z) es) ((i+1)*z) (cs.drop (i*z))) (ρ.t 9)):=by
  rw[g6,show(w.alloc (.cells ROW (ρ.t 9))).drew=w.drew.alloc (.cells ROW (ρ.t 9)) from rfl]
  have h1:w.heap.size=w.drew.heap.size:=rfl
  rw[h1,YL w.drew ROW (ρ.t 9) (0,0),show((w.drew.alloc (.cells (V5 ROW (i*z) es) (ρ.t 9))).drew)=w.drew.drew.alloc (.cells (V5 ROW (i*z) es) (ρ.t 9)) from rfl]
  exact YL w.drew.drew _ (ρ.t 9) (0,0) _ _
 generalize hC:V5 (V5 ROW (i*z) es) ((i+1)*z) (cs.drop (i*z))=C at kD
 have qV:C.size=G*z:=by rw[<-hC,uE,uE,g1]
 have hCt:C.toList.take ((n+1)*z)=cs.take (i*z)++es++cs.drop (i*z):=by
  apply V7
  intro j
  have ht:(cs.take (i*z)).length=i*z:=by rw[F6];omega
  by_cases hj:j<(n+1)*z
  ·rw[dZ hj,uU, <-hC]
   simp only[BU,uE,Y0,g1]
   rw[H8]
   by_cases h1:j<i*z
   ·rw[if_neg zO,if_neg zO,N5 zO, <-g4,dZ h1,uU]
   rw[L7 zO,ht]
   by_cases h2:j<(i+1)*z
   ·rw[if_neg zO,if_pos zO,N5 zO]
   rw[if_pos zO,L7 zO,v2];congr 1;omega
  rw[V6 (by rw[F6];omega),V6 (by simp only[C9,ht,Y0];omega)]
 obtain⟨k1,k2,k3⟩:=H.drew.drew.newOwn (nm:=16) (B3 16) C (ρ.t 9) hGz (by rw[qV];exact B3 _) (v:=.ar z (n+1) (T9 g i v)) rfl (by rw[hCt];exact wC)
 have k4:=(k2.relv (lv':=[16]) (B3 17) (fun t ht _=>by simp at ht;subst ht;simp) (fun t ht=>by simp at ht;omega)).2
 rw[kD]
 have hws:w.drew.drew.heap.size=w.heap.size:=rfl
 refine NP (x:=.slice (some ⟨w.heap.size,0,none⟩) (n+1) G) (k4.unh (h2:=S5 [(16,.ar z (n+1) (T9 g i v))]) fun r j=>?_) rfl rfl ⟨zO,rK,w.heap.size,n+1,by simp only[Cx.ownS,and_self,if_true,hws],⟨_,G,rfl,g2,g3,zO,fun h=>by omega,.inr ⟨w.heap.size,0,rfl,fun _=>⟨rfl,rfl⟩,fun _ k hk i6=>?_⟩⟩,fun h _=>by omega⟩
 ·cases j with
 |succ j=>exact .inr rfl
 |zero=>
   by_cases e:r=16
   ·subst e;exact .inl (j5 _ _ _ _).symm
   right
   show lk _ r=_
   simp only[lk]
   rw[show beq r 16=false by (cases hb:beq r 16;rfl;exact absurd (A5 hb) e)];rfl
 simp only[Cx.ownS,hws,if_true,J2]
 rw[if_neg zO,if_pos i6]
end
def Cx.cutD(X:Cx)(nm b N n:Nat):Cx:=⟨fun b' i=>if b'=b/\i<n then (if i<N then .rt nm 0 i else .tp nm) else X.G b' i,fun r j=>if r=nm/\j=0 then some (b,0,N) else X.ρ r j,X.Φ,X.κ,X.ν,X.wr⟩
section
variable {P:Program} {ρ:Go.Shelf.Ren} {z q:Nat} {zv:Value} {f:FuncId}
theorem YN(L:InsL P ρ z q zv)(hF:uD P f (Body2.n24 ρ))(lvi:List Nat)(n i:Nat)(g:Nat->V)(hi:i<n):
  SatHM P false f [.os 2 z,.i .i64 (i:Int),.i .i64 ((i:Int)+1)] lvi [(2,.ar z n g)] (fun out ho A0=>out=.os 16 z/\ho=[(16,.ar z (n-1) (gU g i))]/\A0=[]):=by
 intro X w vs D8 aQ H _
 match vs,D8 with
|[x0,x1,x2],_=>
 have r0:repv X lvi 16 (.os 2 z) x0:=aQ 0 _ _ rfl rfl
 have r1:repv X lvi 16 (.i .i64 (i:Int)) x1:=aQ 1 _ _ rfl rfl
 have r2:repv X lvi 16 (.i .i64 ((i:Int)+1)) x2:=aQ 2 _ _ rfl rfl
 have rK:=L.zp
 have x6:bA (S5 [(2,V.ar z n g)]) 2 z=some n:=by
  unfold bA G9
  rw[show S5 [(2,V.ar z n g)] 2 0=.ar z n g from rfl]
  simp[V.row,V.mem]
 obtain⟨_,_,_,b,o,a,cap,e1,e2,e3,e4,eo,esp,e5⟩:=tB H r0 x6
 subst eo
 have e1x:x1=.int .i64 (i:Int):=(M0 r1).1
 have e2x:x2=.int .i64 ((i:Int)+1):=(M0 r2).1
 have hR:RtR X lvi 16 w 2 0 b 0 (n*z) (.ar z n g):=H.rt 2 0 b 0 _ e1
 obtain⟨cs,c1,c2,c3,c4⟩:=hR
 rcases e5 with⟨h0,_⟩|⟨vL,rfl,_⟩
 ·omega
 have rO:=o5 (v:=.ar z n g) (lv:=[]) (c:=2) c2 c1
 have P2:∀j x,cs[j]? =some x->w.cell? (ad b (0+j))=some x:=fun j x hj=>(c4 j x hj).2.1
 have lU:i*z+z<=n*z:=by have:=G6 z hi;rw[G7]at this;exact this
 have kF:(i+1)*z=i*z+z:=G7 i z
 have hnz:(n-1)*z=n*z-z:=by rw[nE,qL]
 have vI:∀j,w.frozen? (ad b j)=false:=(c4 0 _ (B6 zO)).2.2.2 rfl
 have key:=Ti L hF b 0 n cap i cs w hi e3 (by have:maxLen=9223372036854775807:=rfl;omega) c3 P2 (fun j _=>vI _) rO
 rw[e2,e1x,e2x]
 refine x5 key fun e w2 ⟨h1,h2⟩=>⟨_,h1,?_⟩
 have Y0:(cs.drop ((i+1)*z)).length=n*z-(i+1)*z:=by rw[K5,c3]
 have rH:zv.cells.toList.length=z:=by rw[t1,L.zs]
 obtain⟨C,T,fr,k1,k2⟩:=HC (show(w.cell? (ad b (n*z-1))).isSome=true by
  have:=P2 (n*z-1) _ (B6 zO)
  rw[J2]at this;rw[this];rfl)
 have kD:w2=w.drew.setCells b (0+i*z) (cs.drop ((i+1)*z)++zv.cells.toList):=by
  have:w.drew.setCells b (0+i*z) (cs.drop ((i+1)*z)++zv.cells.toList)=(w.drew.setCells b (0+i*z) (cs.drop ((i+1)*z)++zv.cells.toList)).setCells b 0 []:=rfl
  rw[h2,this]
  refine YK (w:=w.drew) k1 _ _ _ _ _ _ _ _ fun j=>?_
  simp only[BU,uE,C9,S1,Y0,rH]
  by_cases h3:0+(n-1)*z<=j/\j<0+(n-1)*z+z/\j<C.size
  ·rw[if_pos h3,if_neg zO,if_pos zO,L7 zO];congr 1;omega
  rw[if_neg h3,if_neg (show ¬ (0<=j/\j<0+0/\j<C.size) by omega)]
  by_cases h4:0+i*z<=j/\j<0+i*z+(n*z-(i+1)*z)/\j<C.size
  ·rw[if_pos h4,if_pos zO,N5 zO]
  rw[if_neg h4,if_neg zO]
 have hinl:(ins cs (i*z) (cs.drop ((i+1)*z)++zv.cells.toList)).length=n*z:=by rw[n9 (by simp only[C9,Y0,rH];omega),c3]
 have HS:=H.drew.store (off:=i*z) (xs:=cs.drop ((i+1)*z)++zv.cells.toList) e1 c4 c3 (by simp only[C9,Y0,rH];omega) (v:=.uk (n*z)) rfl ⟨hinl,fun x hx=>by
  unfold ins at hx
  rcases S0.1 hx with hx|hx
  ·rcases S0.1 hx with hx|hx
   ·exact rO x (List.mem_of_mem_take hx)
   rcases S0.1 hx with hx|hx
   ·exact rO x (IT hx)
   exact L.zo x hx
  exact rO x (IT hx)⟩
 rw[<-kD]at HS
 have iO:=HS.rt 2 0 b 0 _ e1
 rw[j5]at iO
 obtain⟨ds,d1,d2,d3,d4⟩:=iO
 have dB:∀j x,(ins cs (i*z) (cs.drop ((i+1)*z)++zv.cells.toList))[j]? =some x->w2.cell? (ad b (0+j))=some x:=fun j x hj=>by
  have hjl:=(N0.1 hj).1
  have hins:∀m,m<(cs.drop ((i+1)*z)++zv.cells.toList).length->(w.drew.cell? ⟨b,0+i*z+m,none⟩).isSome=true:=fun m hm=>by
   simp only[C9,Y0,rH]at hm
   have:=P2 (i*z+m) _ (B6 zO)
   rw[O8];show(w.cell? _).isSome=true;rw[this];rfl
  rw[kD]
  unfold ins at hj
  have ht:(cs.take (i*z)).length=i*z:=by rw[F6];omega
  have hdn:cs.drop (i*z+(cs.drop ((i+1)*z)++zv.cells.toList).length)=[]:=eA (by simp only[C9,Y0,rH];omega)
  rw[hdn,Z5]at hj
  by_cases h3:j<i*z
  ·rw[N5 zO,dZ h3]at hj
   rw[nD b _ _ _ _ (fun _ _=>.inl (by show 0+j<0+i*z;omega))]
   exact P2 j x hj
  rw[L7 zO,ht]at hj
  have vP:=(N0.1 hj).1
  have:=zC b (cs.drop ((i+1)*z)++zv.cells.toList) (0+i*z) w.drew hins (j-i*z) vP
  rw[show 0+i*z+(j-i*z)=0+j by omega]at this
  rw[this, <-hj,B6 vP]
 have wC:=Tl hi c1
 have hlr:(cs.take (i*z)++cs.drop ((i+1)*z)).length=(n-1)*z:=wC.1
 have vE:∀j x,(cs.take (i*z)++cs.drop ((i+1)*z))[j]? =some x->w2.cell? (ad b (0+j))=some x:=fun j x hj=>dB j x (by
  have hjl:=(N0.1 hj).1
  unfold ins
  have hdn:cs.drop (i*z+(cs.drop ((i+1)*z)++zv.cells.toList).length)=[]:=eA (by simp only[C9,Y0,rH];omega)
  rw[hdn,Z5, <-H8,N5 hjl];exact hj)
 have hG2:∀k,k<n*z->X.G b k=.rt 2 0 k/\(w2.cell? (ad b k)).isSome=true/\FrN w2 b k:=fun k hk=>by
  obtain⟨g1,g2,g3⟩:=d4 k _ (B6 zO)
  rw[J2]at g1 g2 g3
  exact⟨g1,by rw[g2];rfl,g3⟩
 have hR:∀r' j p,(X.cutD 16 b ((n-1)*z) (n*z)).ρ r' j=some p->X.ρ r' j=some p\/(r'=16/\j=0):=fun r' j p h=>by
  simp only[Cx.cutD]at h
  split at h
  ·right;assumption
  exact .inl h
 have iH:∀r' j p,X.ρ r' j=some p->(X.cutD 16 b ((n-1)*z) (n*z)).ρ r' j=some p:=fun r' j p h=>by
  simp only[Cx.cutD]
  rw[if_neg (fun e=>by have:=HS.ρc _ _ _ h;omega)];exact h
 obtain⟨B1,HW⟩:=HS.regh (X':=X.cutD 16 b ((n-1)*z) (n*z)) (h':=E0 (E0 (E0 (S5 [(2,V.ar z n g)]) 2 0 (.uk (n*z))) 2 0 .un) 16 0 (.ar z (n-1) (gU g i))) (lv':=[]) (c':=17) (r:=2) (nm:=16) (B3 16) zO (fun b' k=>by
  simp only[Cx.cutD]
  by_cases hc:b'=b/\k<n*z
  ·obtain⟨rfl,hk⟩:=hc
   obtain⟨g1,g2,g3⟩:=hG2 k hk
   refine .inr ⟨.inr (.inl ⟨k,g1⟩),?_⟩
   rw[if_pos ⟨rfl,hk⟩]
   by_cases h3:k<(n-1)*z
   ·rw[if_pos h3];exact .inr ⟨k,rfl⟩
   rw[if_neg h3];exact .inl ⟨rfl,g2,g3.1⟩
  rw[if_neg hc];exact .inl rfl) hR iH AJ (AK zO) (fun t ht=>by simp at ht) (fun b' o' N B1 hp=>by
  rw[j5]
  simp only[Cx.cutD,and_self,if_true,F1,G5]at hp
  obtain⟨rfl,rfl,rfl⟩:=hp
  refine dN rfl ((wC.mono B1.nil (B3 2)).out (fun t ht=>by simp at ht) zO) hlr fun k x hk=>?_
  have hkl:=(N0.1 hk).1
  rw[hlr]at hkl
  obtain⟨g1,g2,g3⟩:=hG2 k zO
  refine⟨by simp only[Cx.cutD,J2];rw[if_pos ⟨zT,zO⟩,if_pos hkl],vE k x hk,by rw[J2];exact g3⟩)
 refine⟨_,_,_,_,⟨rfl,rfl,rfl⟩,rep.mono (v:=.os 16 z) (Cx.le.rfl' _ [] 17) (by omega:17<=64) ⟨zO,rK,b,n-1,by simp only[Cx.cutD,and_self,if_true],⟨_,cap,rfl,zO,e4,zO,fun h=>by omega,.inr ⟨b,0,rfl,fun _=>⟨rfl,rfl⟩,fun h=>by simp at h⟩⟩,fun _ h=>by simp at h⟩,(HW.up zO).unh fun r j=>?_⟩
 cases j with
|succ j=>exact .inr rfl
|zero=>
  show lk _ r=_\/lk _ r=_
  by_cases e:r=16
  ·subst e;exact .inl (j5 _ _ _ _).symm
  right
  simp only[lk]
  rw[show beq r 16=false by (cases hb:beq r 16;rfl;exact absurd (A5 hb) e)];rfl
end
def ρi(tS tE fo fr:Nat):Go.Shelf.Ren:=⟨fun f=>bif beq f 29 then fo else bif beq f 30 then fr else f,fun t=>bif beq t 24 then tS else bif beq t 9 then tE else t,fun g=>g⟩
noncomputable def pY (P:Program) (t:Nat):Value:=((P.info? t).bind (·.zero)).getD undef
theorem YO:InsL Tryz.prog (ρi 41 58 159 160) 33 56 (pY Tryz.prog 58) where
 mixed:=by kernel_rfl
 t0:=by kernel_rfl
 t3:=by kernel_rfl
 t4:=by kernel_rfl
 t24:=by kernel_rfl
 i9:=by kernel_rfl
 zs:=by kernel_rfl
 a0:=fun w=>by kernel_rfl
 z0:=fun w=>by kernel_rfl
 v0:=fun w=>by kernel_rfl
 a3:=fun w=>by kernel_rfl
 z3:=fun w=>by kernel_rfl
 v3:=fun w=>by kernel_rfl
 a4:=fun w=>by kernel_rfl
 z4:=fun w=>by kernel_rfl
 v4:=fun w=>by kernel_rfl
 z9:=fun w=>by kernel_rfl
 a24:=fun w=>by kernel_rfl
 z24:=fun w=>by kernel_rfl
 v24:=fun w=>by kernel_rfl
 zp:=by decide
 zo:=fun v hv=>Q8.1 (show((pY Tryz.prog 58).cells.toList.all fun v=>v.oneCell')=true by kernel_rfl) v hv
theorem To:yN Tryz.prog (ρi 41 58 159 160):=fun args w=>run_callFunc_extern Tryz.func159 zK zK zK (e:=Extern.SlicesOverlaps.overlaps #[41,41] #[4]) zK args w
theorem NQ(n i:Nat)(g:Nat->V)(v:V)(hi:i<=n)(hn:n<=1000000000)(hm:v.mem=true):SatHM Tryz.prog false 116 [.os 2 33,.i .i64 (i:Int),.sl 1 33 1 fun _=>v] [2] [(2,.ar 33 n g)] (fun out ho A0=>out=.os 16 33/\ho=[(16,.ar 33 (n+1) (T9 g i v))]/\A0=[16]):=HD YO ⟨Tryz.f116,Tryz.func116,by kernel_rfl,by kernel_rfl,by kernel_rfl⟩ To n i g v hi hm zO (by decide)
theorem Tp(lvi:List Nat)(n i:Nat)(g:Nat->V)(hi:i<n):SatHM Tryz.prog false 136 [.os 2 33,.i .i64 (i:Int),.i .i64 ((i:Int)+1)] lvi [(2,.ar 33 n g)] (fun out ho A0=>out=.os 16 33/\ho=[(16,.ar 33 (n-1) (gU g i))]/\A0=[]):=YN YO ⟨Tryz.f136,Tryz.func136,by kernel_rfl,by kernel_rfl,by kernel_rfl⟩ lvi n i g hi
theorem YP:InsL Tryz.prog (ρi 43 86 176 177) 33 40 (pY Tryz.prog 86) where
 mixed:=by kernel_rfl
 t0:=by kernel_rfl
 t3:=by kernel_rfl
 t4:=by kernel_rfl
 t24:=by kernel_rfl
 i9:=by kernel_rfl
 zs:=by kernel_rfl
 a0:=fun w=>by kernel_rfl
 z0:=fun w=>by kernel_rfl
 v0:=fun w=>by kernel_rfl
 a3:=fun w=>by kernel_rfl
 z3:=fun w=>by kernel_rfl
 v3:=fun w=>by kernel_rfl
 a4:=fun w=>by kernel_rfl
 z4:=fun w=>by kernel_rfl
 v4:=fun w=>by kernel_rfl
 z9:=fun w=>by kernel_rfl
 a24:=fun w=>by kernel_rfl
 z24:=fun w=>by kernel_rfl
 v24:=fun w=>by kernel_rfl
 zp:=by decide
 zo:=fun v hv=>Q8.1 (show((pY Tryz.prog 86).cells.toList.all fun v=>v.oneCell')=true by kernel_rfl) v hv
theorem Tq:yN Tryz.prog (ρi 43 86 176 177):=fun args w=>run_callFunc_extern Tryz.func176 zK zK zK (e:=Extern.SlicesOverlaps.overlaps #[43,43] #[4]) zK args w
theorem NR(n i:Nat)(g:Nat->V)(v:V)(hi:i<=n)(hn:n<=1000000000)(hm:v.mem=true):SatHM Tryz.prog false 134 [.os 2 33,.i .i64 (i:Int),.sl 1 33 1 fun _=>v] [2] [(2,.ar 33 n g)] (fun out ho A0=>out=.os 16 33/\ho=[(16,.ar 33 (n+1) (T9 g i v))]/\A0=[16]):=HD YP ⟨Tryz.f134,Tryz.func134,by kernel_rfl,by kernel_rfl,by kernel_rfl⟩ Tq n i g v hi hm zO (by decide)
theorem Tr(lvi:List Nat)(n i:Nat)(g:Nat->V)(hi:i<n):SatHM Tryz.prog false 158 [.os 2 33,.i .i64 (i:Int),.i .i64 ((i:Int)+1)] lvi [(2,.ar 33 n g)] (fun out ho A0=>out=.os 16 33/\ho=[(16,.ar 33 (n-1) (gU g i))]/\A0=[]):=YN YP ⟨Tryz.f158,Tryz.func158,by kernel_rfl,by kernel_rfl,by kernel_rfl⟩ lvi n i g hi
theorem Ts:InsL Tryz.prog (ρi 36 45 168 169) 38 136 (pY Tryz.prog 45) where
 mixed:=by kernel_rfl
 t0:=by kernel_rfl
 t3:=by kernel_rfl
 t4:=by kernel_rfl
 t24:=by kernel_rfl
 i9:=by kernel_rfl
 zs:=by kernel_rfl
 a0:=fun w=>by kernel_rfl
 z0:=fun w=>by kernel_rfl
 v0:=fun w=>by kernel_rfl
 a3:=fun w=>by kernel_rfl
 z3:=fun w=>by kernel_rfl
 v3:=fun w=>by kernel_rfl
 a4:=fun w=>by kernel_rfl
 z4:=fun w=>by kernel_rfl
 v4:=fun w=>by kernel_rfl
 z9:=fun w=>by kernel_rfl
 a24:=fun w=>by kernel_rfl
 z24:=fun w=>by kernel_rfl
 v24:=fun w=>by kernel_rfl
 zp:=by decide
 zo:=fun v hv=>Q8.1 (show((pY Tryz.prog 45).cells.toList.all fun v=>v.oneCell')=true by kernel_rfl) v hv
theorem Tt:yN Tryz.prog (ρi 36 45 168 169):=fun args w=>run_callFunc_extern Tryz.func168 zK zK zK (e:=Extern.SlicesOverlaps.overlaps #[36,36] #[4]) zK args w
theorem HE(n i:Nat)(g:Nat->V)(v:V)(hi:i<=n)(hn:n<=1000000000)(hm:v.mem=true):SatHM Tryz.prog false 128 [.os 2 38,.i .i64 (i:Int),.sl 1 38 1 fun _=>v] [2] [(2,.ar 38 n g)] (fun out ho A0=>out=.os 16 38/\ho=[(16,.ar 38 (n+1) (T9 g i v))]/\A0=[16]):=HD Ts ⟨Tryz.f128,Tryz.func128,by kernel_rfl,by kernel_rfl,by kernel_rfl⟩ Tt n i g v hi hm zO (by decide)
theorem Tu:InsL Tryz.prog (ρi 37 35 170 171) 1 8 (pY Tryz.prog 35) where
 mixed:=by kernel_rfl
 t0:=by kernel_rfl
 t3:=by kernel_rfl
 t4:=by kernel_rfl
 t24:=by kernel_rfl
 i9:=by kernel_rfl
 zs:=by kernel_rfl
 a0:=fun w=>by kernel_rfl
 z0:=fun w=>by kernel_rfl
 v0:=fun w=>by kernel_rfl
 a3:=fun w=>by kernel_rfl
 z3:=fun w=>by kernel_rfl
 v3:=fun w=>by kernel_rfl
 a4:=fun w=>by kernel_rfl
 z4:=fun w=>by kernel_rfl
 v4:=fun w=>by kernel_rfl
 z9:=fun w=>by kernel_rfl
 a24:=fun w=>by kernel_rfl
 z24:=fun w=>by kernel_rfl
 v24:=fun w=>by kernel_rfl
 zp:=by decide
 zo:=fun v hv=>Q8.1 (show((pY Tryz.prog 35).cells.toList.all fun v=>v.oneCell')=true by kernel_rfl) v hv
theorem Tv:yN Tryz.prog (ρi 37 35 170 171):=fun args w=>run_callFunc_extern Tryz.func170 zK zK zK (e:=Extern.SlicesOverlaps.overlaps #[37,37] #[4]) zK args w
theorem HF(n i:Nat)(g:Nat->V)(v:V)(hi:i<=n)(hn:n<=1000000000)(hm:v.mem=true):SatHM Tryz.prog false 130 [.os 2 1,.i .i64 (i:Int),.sl 1 1 1 fun _=>v] [2] [(2,.ar 1 n g)] (fun out ho A0=>out=.os 16 1/\ho=[(16,.ar 1 (n+1) (T9 g i v))]/\A0=[16]):=HD Tu ⟨Tryz.f130,Tryz.func130,by kernel_rfl,by kernel_rfl,by kernel_rfl⟩ Tv n i g v hi hm zO (by decide)
structure It where
 name:List UInt8
 kind:Int
 of:A6
 size:Int
deriving DecidableEq
def It.num(x:It):Prop:=(0<=x.kind/\x.kind<256)/\0<=x.size
def It.fits(x:It):Prop:=x.num/\x.name.length<=65536/\x.size<=9223372036854775807
section
structure Ob where
 of:A6
 data:Sl
structure RO where
 data:Sl
 hit:Bool
def Z3(l:List Ob)(k:A6):Option Sl:=(l.find? fun o=>o.of=k).map (·.data)
theorem yO{l:List Ob}{k:A6}{s:Sl}(h:Z3 l k=some s):∃o∈l,o.of=k/\o.data=s:=by
 rw[Z3]at h
 cases hf:l.find? fun o=>o.of=k with
|none=>rw[hf]at h;cases h
|some o=>
  rw[hf]at h
  have h2:=List.find?_some hf
  simp only[decide_eq_true_eq]at h2
  exact⟨o,List.mem_of_find?_eq_some hf,h2,qG h⟩
theorem YQ(l:List Ob)(o:Ob)(k:A6):Z3 (l++[o]) k=if (Z3 l k).isSome then Z3 l k else if k=o.of then some o.data else none:=by
 rw[Z3,Z3,List.find?_append]
 cases hf:l.find? fun o=>o.of=k with
|some x=>rfl
|none=>
  simp only[Option.none_or,Option.map_none,Option.isSome_none,zB,if_false,List.find?_cons,List.find?_nil]
  by_cases h:o.of=k
  ·simp[h]
  have:k≠o.of:=fun e=>h e.symm
  simp[h,this]
def cU(l:List Ob)(k:A6):Option RO:=(Z3 l k).map fun s=>⟨s,false⟩
theorem YR(l:List Ob)(k:A6):(cU l k).isSome=(Z3 l k).isSome:=by rw[cU];cases Z3 l k<;>rfl
variable {l:List Ob} {F:A6->Option RO}
def FD(l:List Ob)(F:A6->Option RO):Prop:=∀k,(F k).map (·.data)=Z3 l k
theorem HG(h:FD l F){k:A6}{v:RO}(hv:F k=some v):Z3 l k=some v.data:=by rw[<-h k,hv];rfl
theorem FD.start:FD l (cU l):=fun k=>by rw[cU];cases Z3 l k<;>rfl
theorem FD.hit{x:A6}{v:RO}(h:FD l F)(hv:F x=some v):FD l (bG F x ⟨v.data,true⟩):=fun k=>by
 rw[bG]
 by_cases e:k=x
 ·rw[if_pos e,e,HG h hv];rfl
 rw[if_neg e];exact h k
def dW(F:A6->Option RO)(o:Ob):Bool:=match F o.of with|some v=> !v.hit|none=>false
def unh(l:List Ob)(F:A6->Option RO):Nat:=(l.filter (dW F)).length
theorem Tw{x:A6}{v:RO}(h:FD l F)(hv:F x=some v)(hh:v.hit=false):unh l (bG F x ⟨v.data,true⟩)<unh l F:=by
 obtain⟨o,ho,e1,_⟩:=yO (HG h hv)
 have:∀m:List Ob,(m.filter (dW (bG F x ⟨v.data,true⟩))).length<=(m.filter (dW F)).length/\(o∈m->(m.filter (dW (bG F x ⟨v.data,true⟩))).length<(m.filter (dW F)).length):=by
  intro m
  induction m with
 |nil=>exact⟨B3 _,fun h=>(by cases h)⟩
 |cons y m ih=>
   by_cases e:y.of=x
   ·have a1:dW (bG F x ⟨v.data,true⟩) y=false:=by rw[dW,bG,if_pos e];rfl
    have a2:dW F y=true:=by rw[dW,e,hv];simp[hh]
    rw[OX (by rw[a1];simp),OY a2,I4]
    exact⟨zO,fun _=>by omega⟩
   have a1:dW (bG F x ⟨v.data,true⟩) y=dW F y:=by rw[dW,bG,if_neg e];rfl
   have hoy:o∈y::m->o∈m:=fun h=>by
    rcases K6.1 h with h|h
    ·rw[<-h]at e;exact absurd e1 e
    exact h
   by_cases hb:dW F y=true
   ·rw[OY (by rw[a1];exact hb),OY hb,I4,I4]
    exact⟨zO,fun h=>by have:=ih.2 (hoy h);omega⟩
   rw[OX (by rw[a1];exact hb),OX hb]
   exact⟨ih.1,fun h=>ih.2 (hoy h)⟩
 exact(this l).2 ho
end
section
open Go Go.Shelf
def Tryz.sortA_ren:Go.Shelf.Ren:=⟨fun|6=>189|15=>209|14=>208|28=>230|29=>231|20=>222|21=>223|22=>224|23=>225|24=>226|25=>227|26=>228|27=>229|46=>237|47=>238|48=>239|49=>240|50=>241|57=>245|n=>n,fun|22=>182|24=>34|25=>220|3=>3|39=>173|0=>0|53=>248|55=>35|4=>4|46=>293|45=>292|50=>134|5=>5|9=>9|66=>303|70=>307|76=>310|77=>311|n=>n,fun|n=>n⟩
theorem Tryz.sortA:Go.Proofs.SlLaysF0.n6 Tryz.prog Tryz.sortA_ren:={
 mixed:=by kernel_rfl
 f6:=⟨Tryz.f189.name,by decide,Tryz.func189.trans (congrArg some zK)⟩
 f14:=⟨Tryz.f208.name,by decide,Tryz.func208.trans (congrArg some zK)⟩
 f15:=Tryz.func209.trans (congrArg some zK)
 f20:=⟨Tryz.f222.name,by decide,Tryz.func222.trans (congrArg some zK)⟩
 f21:=⟨Tryz.f223.name,by decide,Tryz.func223.trans (congrArg some zK)⟩
 f22:=⟨Tryz.f224.name,by decide,Tryz.func224.trans (congrArg some zK)⟩
 f23:=⟨Tryz.f225.name,by decide,Tryz.func225.trans (congrArg some zK)⟩
 f24:=⟨Tryz.f226.name,by decide,Tryz.func226.trans (congrArg some zK)⟩
 f25:=⟨Tryz.f227.name,by decide,Tryz.func227.trans (congrArg some zK)⟩
 f26:=⟨Tryz.f228.name,by decide,Tryz.func228.trans (congrArg some zK)⟩
 f27:=⟨Tryz.f229.name,by decide,Tryz.func229.trans (congrArg some zK)⟩
 f28:=Tryz.func230.trans (congrArg some zK)
 f29:=Tryz.func231.trans (congrArg some zK)
 f46:=⟨Tryz.f237.name,by decide,Tryz.func237.trans (congrArg some zK)⟩
 f47:=Tryz.func238.trans (congrArg some zK)
 f48:=Tryz.func239.trans (congrArg some zK)
 f49:=⟨Tryz.f240.name,by decide,Tryz.func240.trans (congrArg some zK)⟩
 f50:=⟨Tryz.f241.name,by decide,Tryz.func241.trans (congrArg some zK)⟩
 f57:=⟨Tryz.f245.name,by decide,Tryz.func245.trans (congrArg some zK)⟩
 t0:=Tryz.underlying0
 a0:=Tryz.isAgg0
 z0:=Tryz.sizeOf0
 v0:=Tryz.zeroValue0
 t3:=Tryz.underlying3
 a3:=Tryz.isAgg3
 z3:=Tryz.sizeOf3
 v3:=Tryz.zeroValue3
 t4:=Tryz.underlying4
 a4:=Tryz.isAgg4
 z4:=Tryz.sizeOf4
 v4:=Tryz.zeroValue4
 t5:=Tryz.underlying5
 a5:=Tryz.isAgg5
 z5:=Tryz.sizeOf5
 v5:=Tryz.zeroValue5
 t9:=Tryz.underlying9
 a9:=Tryz.isAgg9
 z9:=Tryz.sizeOf9
 v9:=Tryz.zeroValue9
 t22:=Tryz.underlying182
 a22:=Tryz.isAgg182
 z22:=Tryz.sizeOf182
 v22:=Tryz.zeroValue182
 t25:=Tryz.underlying220
 a25:=Tryz.isAgg220
 z25:=Tryz.sizeOf220
 v25:=Tryz.zeroValue220
 t39:=Tryz.underlying173
 a39:=Tryz.isAgg173
 z39:=Tryz.sizeOf173
 v39:=Tryz.zeroValue173
 t45:=Tryz.underlying292
 a45:=Tryz.isAgg292
 z45:=Tryz.sizeOf292
 v45:=Tryz.zeroValue292
 t46:=Tryz.underlying293
 a46:=Tryz.isAgg293
 z46:=Tryz.sizeOf293
 v46:=Tryz.zeroValue293
 t50:=Tryz.underlying134
 a50:=Tryz.isAgg134
 z50:=Tryz.sizeOf134
 v50:=Tryz.zeroValue134
 t53:=Tryz.underlying248
 a53:=Tryz.isAgg248
 z53:=Tryz.sizeOf248
 v53:=Tryz.zeroValue248
 t55:=Tryz.underlying35
 a55:=Tryz.isAgg35
 z55:=Tryz.sizeOf35
 v55:=Tryz.zeroValue35
 t66:=Tryz.underlying303
 a66:=Tryz.isAgg303
 z66:=Tryz.sizeOf303
 v66:=Tryz.zeroValue303
 t70:=Tryz.underlying307
 a70:=Tryz.isAgg307
 z70:=Tryz.sizeOf307
 v70:=Tryz.zeroValue307
 t76:=Tryz.underlying310
 a76:=Tryz.isAgg310
 z76:=Tryz.sizeOf310
 v76:=Tryz.zeroValue310
 t77:=Tryz.underlying311
 a77:=Tryz.isAgg311
 z77:=Tryz.sizeOf311
 v77:=Tryz.zeroValue311}
end
section
open Go Go.MapKept
def kA(x:A6):Value:=.agg (x.1.map V8).toArray
theorem Tx(e:Bool)(l:List UInt8)(hl:l.length=32)(w:World)(n:Nat):(Instr.checkKey e (n+2) 34 (.agg (l.map V8).toArray)).run Tryz.prog w=.ok () w:=by
 obtain⟨i,hi⟩:∃i,Tryz.prog.info? 5=some i:=info_of_underlying (by kernel_rfl:Tryz.prog.underlying 5=some (.int .u8))
 have hs:Tryz.prog.cellsOf 5=1:=by kernel_rfl
 rw[show n+2=(n+1)+1 from rfl,Instr.checkKey]
 simp only[D0,run_underlying (by kernel_rfl:Tryz.prog.underlying 34=some (.array 32 5)),F5]
 simp only[Std.Legacy.Range.forIn_eq_forIn_range',Std.Legacy.Range.size,qH,Nat.add_one_sub_one,Nat.div_one]
 have vY:∀j∈List.range' 0 32,j<32:=by intro j hj;simpa using hj
 generalize List.range' 0 32=is at vY
 induction is with
|nil=>simp
|cons j is ih=>
  have hj:=vY j (by simp)
  have p1:(part 5 (l.map V8).toArray (j*Tryz.prog.cellsOf 5)).run Tryz.prog w=.ok (V8 (l.getD j 0)) w:=by
   rw[hs,j8]
   exact Rn zK (by rw[fF,Sl.get l j zO])
  have p2:(Instr.checkKey e (n+1) 5 (V8 (l.getD j 0))).run Tryz.prog w=.ok () w:=run_checkKey (d:=.int .u8) zK (by simp[IsKey]) e n
  simp only[List.forIn_cons,D0,run_sizeOf w hi,F5,p1,p2,hP]
  exact ih (fun y hy=>vY y (by simp[hy]))
theorem Ty(p q:A6)(w:World):(Op.equal 34 (kA p) (kA q)).run Tryz.prog w=.ok (decide (p=q)) w:=by
 have h:=Ro (P:=Tryz.prog) (t:=34) (m:=32) zK (e:=5) zK zK 9998 p.1 q.1 p.2 q.2 (w:=w)
 have e:decide (p.1=q.1)=decide (p=q):=by
  rw[uR]
  simp only[decide_eq_true_eq]
  exact⟨fun h=>Subtype.ext h,fun h=>by rw[h]⟩
 rw[<-e]
 exact h
theorem Tz(p:A6):Instr.sameBits 10000 (kA p) (kA p)=true:=by
 show Instr.sameBits (9999+1) (.agg _) (.agg _)=true
 simp only[Instr.sameBits,beq_self_eq_true,Bool.true_and,Q8]
 intro x hx
 obtain⟨i,hi,e⟩:=IP hx
 rw[List.getElem_zip]at e
 rw[<-e]
 have hm:=dY (l:=p.1.map V8) (n:=i) (by simpa using hi)
 simp only at hm ⊢
 generalize (p.1.map V8)[i]'(by simpa using hi)=v at hm
 obtain⟨u,_,rfl⟩:=J3.1 hm;exact sameBits_self (d:=.int .u8) (by simp[IsKey]) _
theorem BV:KeyOf Tryz.prog 34 kA:=KeyOf.ask zK (fun e p w=>Tx e p.1 p.2 w 9998) Ty Tz
end
theorem Hp.shrinkV(H:Hp w0 w S L){n sz:Nat}{a:Option Nat}{T:TypeId}(hi:L[i]? =some (.own a n c xs T sz))(hm:m<=n):Hp w0 w S (L.set i (.own a m c (xs.take (m*sz)) T sz)):=by
 have h:=H.has _ (E2 hi)
 refine H.turn hi (c':=.own a m c (xs.take (m*sz)) T sz) ?_ (fun b hb=>.inl ?_) rfl rfl rfl (B3 _) (fun _ _ _=>rfl)
 ·cases a with
 |none=>
   obtain⟨h1,h2,h3⟩:=h
   exact⟨zO,h2,by rw[h3];simp⟩
 |some b=>
   obtain⟨q1,q2,q3,rest,hw,q5⟩:=h
   refine⟨?_,zO,q3,xs.drop (m*sz)++rest,?_,?_⟩
   ·rw[F6,q1];exact jQ (G6 sz hm)
   ·rw[<-H8,uP];exact hw
   rw[<-H8,uP];exact q5
 cases a with
 |none=>cases hb
 |some b'=>exact hb
theorem YS{α:Type}{enc:α->List Value}{sz:Nat}(hk:∀x,(enc x).length=sz):∀(l:List α) (m:Nat),(l.flatMap enc).take (m*sz)=(l.take m).flatMap enc
|[],m=>by simp
|x::l,0=>by simp
|x::l,m+1=>by
  rw[iA,List.take_succ_cons,iA, <-YS hk l m,V9,qL,List.take_append,hk]
  rw[W0 (by rw[hk];omega),Nat.add_sub_cancel]
theorem Hp.shrink{enc:α->List Value}(H:Hp w0 w S L){n sz:Nat}(m:Nat){a:Option Nat}{l:List α}{T:TypeId}(hi:L[i]? =some (.own a n c (l.flatMap enc) T sz))(hk:∀x,(enc x).length=sz)(hm:m<=n):Hp w0 w S (L.set i (.own a m c ((l.take m).flatMap enc) T sz)):=by
 rw[<-YS hk];exact H.shrinkV hi hm
section
variable {P:Program} {Q:Exit->Act->World->Prop} {n:Nat} {σ:Nat->Value} {w w0:World} {K:Act->World->Prop}
 {ty:TypeId} {pos:String} {aft:Array Edge} {g:Option (Nat×Bool)} {d:Nat} {t:TypeId} {x y:Operand} {S:List Nat} {L:List Ch}
end
section
variable {P:Program} {Q:Exit->Act->World->Prop} {n:Nat} {σ:Nat->Value} {w w0:World} {K:Act->World->Prop}
 {ty:TypeId} {pos:String} {aft:Array Edge} {g:Option (Nat×Bool)} {d:Nat} {t:TypeId} {S:List Nat} {L:List Ch}
end
theorem Ua{a:Addr}{v:Value}(h:w.cell? a=some v):(load a).run P w=.ok v w:=by simp[load,Sem.run,h]
theorem YT{P:Program}{w:World}{b:Nat}{C:Array Value}{T fr}(hb:w.heap[b]? =some (.cells C T fr)):∀(l:List UInt8) (o:Nat) (K8:ByteArray),(∀i v,(l.map V8)[i]? =some v->C[o+i]? =some v)->
  (Extern.Bytes.loadBytes ⟨b,o,none⟩ l.length K8).run P w=.ok ⟨(K8.data.toList++l).toArray⟩ w
|[],o,K8,_=>by simp[Extern.Bytes.loadBytes]
|c::l,o,K8,h=>by
  have h0:C[o]? =some (V8 c):=by simpa using h 0 (V8 c) (by simp)
  have hc:w.cell? ⟨b,o,none⟩=some (V8 c):=by simp[World.cell?, hb,h0]
  have ih:=YT (P:=P) hb l (o+1) (K8.push c) (fun i v hv=>by
   have:=h (i+1) v (by simpa using hv)
   rw[show o+1+i=o+(i+1) by omega];exact this)
  rw[I4,Extern.Bytes.loadBytes]
  simp only[D0,Ua hc,F5,V8]
  have e1:((c.toNat:Int)).toNat.toUInt8=c:=by simp
  rw[e1]
  have e2:(⟨b,o,none⟩:Addr).add 1=⟨b,o+1,none⟩:=rfl
  rw[e2,ih]
  simp[ByteArray.push]
theorem YU{s:Sl}(hs:s.ok w):(Extern.Bytes.bytesOf s.v).run P w=.ok ⟨s.l.toArray⟩ w:=by
 have hl:=hs.ln
 rcases hs.rd with h|⟨b,o,C,T,fr,ha,hb,hc⟩
 ·have h0:s.l=[]:=by simpa using h
  rw[h0]at hl ⊢
  have aP:s.len=0:=hl.symm
  unfold Sl.v
  rw[aP]
  cases s.a with
 |none=>simp[Extern.Bytes.bytesOf];rfl
 |some a=>simp[Extern.Bytes.bytesOf,Extern.Bytes.loadBytes];rfl
 unfold Sl.v
 rw[ha, <-hl]
 have:=YT (P:=P) hb s.l o .empty hc
 simpa [Extern.Bytes.bytesOf] using this
theorem Ub{s u:Sl}(hs:s.ok w)(hu:u.ok w):(Extern.BytealgCompare.compare #[s.v,u.v]).run P w=.ok (.int .i64 (Lib.compareBytes s.l u.l)) w:=by
 change Sem.run P (do pure (goInt (Extern.BytealgCompare.cmp (<-Extern.Bytes.bytesOf s.v) (<-Extern.Bytes.bytesOf u.v)))) w=_
 simp only[D0,YU hs,YU hu,F5,hP,Lib.cmp_eq]
 rfl
open Go.Proofs in
set_option maxHeartbeats 1000000 in
theorem YV(w:World)(s u:Sl)(hs:s.ok w)(hu:u.ok w):Ret Tryz.prog 72 [s.v,u.v] w fun v w'=>v=VI (Lib.compareBytes s.l u.l)/\w'=w:=by
 have hc:=Ub (P:=Tryz.prog) hs hu
 unfold Sl.v at hc ⊢
 have h:Calls Tryz.prog 72 #[.slice s.a s.len s.cap,.slice u.a u.len u.cap] w fun e w'=>e=.returned (VI (Lib.compareBytes s.l u.l))/\w'=w:=by
  go_enter Tryz.func72,Tryz.ntmps72
  go_wp2
  rw[run_callFunc_extern Tryz.func111 zK zK zK (e:=Extern.BytealgCompare.compare) zK,hc]
  simp only[Result.andThen]
  rw[CK]
  go_wp2
  go_ret
  exact⟨rfl,rfl⟩
 exact x5 h fun e w' ⟨he,hw⟩=>⟨_,he,rfl,hw⟩
section
variable {α:Type} [Inhabited α] {enc:α->List Value} {k:Nat}
theorem YW(hk:∀x,(enc x).length=k)(h0:0<k):∀(l:List α) (t:Nat),t<l.length*k->(l.flatMap enc)[t]? =(enc (l[t / k]!))[t % k]?
|[],t,h=>by simp at h
|x::l,t,h=>by
  rw[iA]
  by_cases ht:t<k
  ·rw[N5 (by rw[hk];exact ht),Nat.div_eq_of_lt ht,Nat.mod_eq_of_lt ht];rfl
  have h2:t-k<l.length*k:=by rw[I4,V9,qL]at h;omega
  have e1:t / k=(t-k) / k+1:=Nat.div_eq_sub_div h0 zO
  have e2:t % k=(t-k) % k:=Nat.mod_eq_sub_mod zO
  rw[L7 (by rw[hk];omega),hk,YW hk h0 l (t-k) h2,e1,e2]
  rfl
theorem BW(hk:∀x,(enc x).length=k):∀l:List α,(l.flatMap enc).length=l.length*k
|[]=>by simp
|x::l=>by rw[iA,C9,hk,BW hk l,I4,V9,qL,Nat.add_comm]
open Go.Sort in
theorem YX(hk:∀x,(enc x).length=k)(h0:0<k)(l:List α):flatK enc k l.toArray=(l.flatMap enc).toArray:=by
 refine ext_get! (by simp[BW hk]) fun t ht=>?_
 have ht':t<l.length*k:=by simpa using ht
 rw[get_flatK enc k _ t (by simpa using ht')]
 have hl:=YW hk h0 l t ht'
 have hlt:t<(l.flatMap enc).length:=by rw[BW hk];exact ht'
 rw[B6 hlt]at hl
 have e1:(l.flatMap enc).toArray[t]! =(l.flatMap enc)[t]:=by
  rw[getElem!_pos _ t (by simpa using hlt)];simp
 rw[e1]
 have hm:t % k<(enc l[t / k]!).length:=by rw[hk];exact Nat.mod_lt _ h0
 rw[B6 hm]at hl
 have e2:l.toArray[t / k]! =l[t / k]! :=by simp
 rw[e2,getElem!_pos (enc l[t / k]!) (t % k) hm]
 exact(qG hl).symm
open Go.Sort in
theorem Uc(d xs rest:List Value)(h:d.length=xs.length):putCells id 0 d.toArray (xs++rest).toArray=(d++rest).toArray:=by
 apply IS
 intro k
 simp only[putCells,Array.getElem?_mapIdx,fF,J2,qH,L8,true_and,bL,id]
 by_cases hk:k<d.length
 ·rw[N5 zO,N5 (by simpa using hk),B6 zO,B6 hk]
  simp[hk]
 rw[L7 zO,L7 (by simpa using hk),h]
 have hk2:¬ k<xs.length:=by omega
 cases rest[k-xs.length]? <;>simp[hk,hk2]
open Go.Sort in
theorem Ud{b n:Nat}{l d:List α}{T:TypeId}{os:Array Go.Obj}(hk:∀x,(enc x).length=k)(h0:0<k)(H:Hp w0 w S L)(hi:L[i]? =some (.own (some b) n c (l.flatMap enc) T k))(hd:d.length=l.length):
  Hp w0 (sortWorldK enc k w b 0 m d.toArray os) S (L.set i (.own (some b) n c (d.flatMap enc) T k)):=by
 obtain⟨q1,q2,q3,rest,hw,q5⟩:=H.has _ (E2 hi)
 have hlt:b<w.heap.size:=(Z4.1 hw).1
 have Y0:(d.flatMap enc).length=(l.flatMap enc).length:=by rw[BW hk,BW hk,hd]
 have e0:sortWorldK enc k w b 0 m d.toArray os=grow (putRow id (Sort.ahead w m) b 0 (d.flatMap enc).toArray) os:=by
  unfold sortWorldK putRowK;rw[YX hk h0]
 rw[e0]
 have G2:(putRow id (Sort.ahead w m) b 0 (d.flatMap enc).toArray).heap.size=w.heap.size:=by rw[size_putRow];rfl
 have bR:∀k,k<w.heap.size->(grow (putRow id (Sort.ahead w m) b 0 (d.flatMap enc).toArray) os).heap[k]? =(w.heap.modify b (onCells (putCells id 0 (d.flatMap enc).toArray)))[k]? :=fun k hk=>by
  show((putRow id (Sort.ahead w m) b 0 (d.flatMap enc).toArray).heap++os)[k]? =_
  rw[OU (by rw[G2];exact hk)];rfl
 refine H.turn hi (c':=.own (some b) n c (d.flatMap enc) T k) ⟨by rw[Y0];exact q1,q2,q3,rest,?_,by rw[C9,Y0, <-C9];exact q5⟩ (fun b' I1=>.inl I1) rfl rfl rfl (by show w.heap.size<=((putRow id (Sort.ahead w m) b 0 (d.flatMap enc).toArray).heap++os).size;rw[zF,G2];omega) fun b' aJ D5=>?_
 ·rw[bR b hlt,IQ,if_pos rfl,hw]
  simp only[X7,onCells,Uc _ _ rest Y0]
 rw[bR b' aJ,IQ,if_neg (fun e=>D5 (by rw[<-e];rfl))]
open Go.Sort in
theorem Ue{b n:Nat}{l:List α}{T:TypeId}(hk:∀x,(enc x).length=k)(h0:0<k)(h:(Ch.own (some b) n c (l.flatMap enc) T k).ok w):HoldsK enc k w b 0 l.toArray:=by
 obtain⟨q1,q2,q3,rest,hw,q5⟩:=h
 unfold HoldsK
 rw[YX hk h0]
 intro j hj
 have hj':j<(l.flatMap enc).length:=by simpa using hj
 refine⟨?_,?_⟩
 ·simp only[World.cell?, hw,J2,fF]
  rw[N5 hj',B6 hj']
  rw[getElem!_pos _ j hj];simp
 simp[World.frozen?, hw]
def yP(cf:α->α->Int)(l:List α):List α:=l.mergeSort fun x y=> !(decide (cf y x<0))
open Go.Sort Go.Shelf in
theorem YY{ρ:Ren}(Ly:SlLaysF0.n6 Tryz.prog ρ)(aE:∀w,(isAgg (ρ.t 24)).run Tryz.prog w=.ok true w)(zE:∀w,(Go.sizeOf (ρ.t 24)).run Tryz.prog w=.ok k w)(hk:∀x,(enc x).length=k)(h0:0<k)(h1:∀x,∀v∈enc x,v.oneCell'=true)(cf:α->α->Int)(hO:SWO (ltOf cf))(hT:∀x y,ltOf cf x y=false->ltOf cf y x=false->x=y)
  {g:FuncId}{fn:Func}(hf:Tryz.prog.funcs[g]? =some fn)(hb:fn.body.isSome=true)(fG:(fn.name == "runtime.NumGoroutine")=false)
  (hcmp:∀(W:World) (x y:α),Calls Tryz.prog g #[.agg (enc x).toArray,.agg (enc y).toArray] W fun e w'=>e=.returned (VI (cf x y))/\∃q os',w'=grow (W.drewN q) os')
  {w:World}{n:Nat}{a:Option Nat}{l:List α}{T:TypeId}(H:Hp w0 w S L)(hi:L[i]? =some (.own a n c (l.flatMap enc) T k))(hn:l.length=n)(hbd:n<=1099511627776):
  Ret Tryz.prog (ρ.f 6) [.slice (hd a) n c,.func (.func g) #[] #[]] w fun v w'=>v=.tuple #[]/\Hp w0 w' S (L.set i (.own a n c ((yP cf l).flatMap enc) T k)):=by
 subst hn
 have eg:∀args w,(callFunc g args).run Tryz.prog w=.ok (.enter g args) w:=fun args w=>by
  have hn':fn.body≠none:=by cases hh:fn.body<;>simp_all
  have P0:fn.name≠ "runtime.NumGoroutine" :=by intro e;simp[e]at fG
  simp[callFunc,hf,P0,hn']
 cases a with
|none=>
  obtain⟨dF,h2,h3⟩:=(H.has _ (E2 hi):(Ch.own none l.length c (l.flatMap enc) T k).ok w)
  have hl:l=[]:=List.eq_nil_of_length_eq_zero dF
  subst hl
  have h:=AnyF.slices_SortFunc_none (P:=Tryz.prog) (ρ:=ρ) Ly none c (.func (.func g) #[] #[]) w
  refine x5 h fun e w' ⟨he,iD⟩=>⟨_,he,rfl,?_⟩
  have e1:yP cf ([]:List α)=[]:=by simp[yP]
  rw[iD,e1]
  have e2:L.set i (.own none ([]:List α).length c (([]:List α).flatMap enc) T k)=L:=by
   apply V7
   intro j
   rw[List.getElem?_set]
   by_cases e:i=j
   ·subst e
    have:=(N0.1 hi).1
    rw[if_pos rfl,if_pos this,hi]
   rw[if_neg e]
  rw[e2];exact H
|some b=>
  have hc:=H.has _ (E2 hi)
  have hlt:b<w.heap.size:=Ch.lt hc rfl
  have h:=AnyQ.slices_SortFunc_total Ly k aE zE enc hk h1 cf hO g #[] b 0 c l.toArray w eg (fun m os dk _ x y=>hcmp _ x y) (Ue hk h0 hc) hlt (by simp;omega) hT
  simp only[bL]at h
  refine x5 h fun e w' ⟨he,m,os,iD⟩=>⟨_,he,rfl,?_⟩
  rw[iD]
  exact Ud (m:=m) (os:=os) (d:=yP cf l) hk h0 H hi (by rw[yP,List.length_mergeSort])
end
def C1(x:A6):List Value:=x.1.map V8
theorem aD(x:A6):(C1 x).length=32:=by rw[C1,J4,x.2]
theorem uG(x:A6):(C1 x).all (·.oneCell')=true:=by
 rw[C1,Q8];intro v hv;obtain⟨c,_,rfl⟩:=J3.1 hv;rfl
theorem NS:∀a b:List UInt8,Lib.compareBytes a b<0↔a<b
|[],[]=>by simp[Lib.compareBytes]
|[],_::_=>by simp[Lib.compareBytes]
|_::_,[]=>by simp[Lib.compareBytes]
|a::xs,b::ys=>by
  rw[Lib.compareBytes,List.cons_lt_cons_iff]
  by_cases h1:a<b
  ·simp[h1]
  by_cases h2:b<a
  ·have:a≠b:=fun e=>by subst e;exact h1 h2
   simp[h1,h2,this]
  have e:a=b:=CO.1 (by
   have g1:¬ a.toNat<b.toNat:=fun h=>h1 (UInt8.lt_iff_toNat_lt.2 h)
   have g2:¬ b.toNat<a.toNat:=fun h=>h2 (UInt8.lt_iff_toNat_lt.2 h)
   omega)
  subst e
  simp[h1,NS xs ys]
instance:Inhabited A6:=⟨⟨replicate 32 0,by simp⟩⟩
def cV(x y:A6):Int:=Lib.compareBytes x.1 y.1
open Go.Sort in
theorem HH(x y:A6):ltOf cV x y=decide (x.1<y.1):=by
 rw[ltOf,uR,decide_eq_true_eq,decide_eq_true_eq];exact NS _ _
theorem YZ(a:List UInt8):¬ a<a:=List.lt_irrefl a
theorem ZA{a b:List UInt8}(h1:¬ a<b)(h2:¬ b<a):a=b:=List.le_antisymm (nG.1 h2) (nG.1 h1)
theorem ZB{a b c:List UInt8}(h1:a<b)(h2:b<c):a<c:=List.lt_trans h1 h2
open Go.Sort in
theorem ZC:SWO (ltOf cV) where
 irrefl x:=by rw[HH];exact decide_eq_false (YZ _)
 trans x y z h1 h2:=by rw[HH,decide_eq_true_eq]at *;exact ZB h1 h2
 ntrans x y z h1 h2:=by
  rw[HH,decide_eq_false_iff_not] at*
  exact nG.2 (List.le_trans (nG.1 h2) (nG.1 h1))
theorem ZD(x y:A6)(h1:ltOf cV x y=false)(h2:ltOf cV y x=false):x=y:=by
 rw[HH,decide_eq_false_iff_not] at*
 exact Subtype.ext (ZA h1 h2)
def sortA(l:List A6):List A6:=yP cV l
section
variable {P:Program} {Q:Exit->Act->World->Prop} {n:Nat} {σ:Nat->Value} {w:World} {K:Act->World->Prop}
 {ty:TypeId} {pos:String} {aft:Array Edge} {g:Option (Nat×Bool)} {d:Nat} {t:TypeId} {x:Operand}
theorem HI{v:Value}(hx:ev n σ x=v)(h:K (mk n (up σ d (.pointer (some ⟨w.heap.size,0,none⟩)))) (w.alloc (.cells v.cells t))):Oper.wp P ⟨some d,.box t x,ty,pos,aft,g⟩ (mk n σ) w K Q:=by
 refine G4 (v:=.pointer (some ⟨w.heap.size,0,none⟩)) (w':=w.alloc (.cells v.cells t)) ?_ h
 simp[execOp,Instr.box,hx,newVar,newRow]
end
theorem HJ{b:Nat}{x:A6}{T fr}(h:w.heap[b]? =some (.cells (C1 x).toArray T fr)):(⟨some ⟨b,0,none⟩,32,32,x.1⟩:Sl).ok w:=
 ⟨.inr ⟨b,0,_,T,fr,rfl,h,fun i v hv=>by rw[J2,fF];exact hv⟩,x.2,B3 _,(by decide:(32:Nat)<=9223372036854775807)⟩
theorem Uf(x y:A6)(W:World):Calls Tryz.prog 195 #[.agg (C1 x).toArray,.agg (C1 y).toArray] W fun e w'=>e=.returned (VI (cV x y))/\∃q os',w'=Go.Sort.grow (W.drewN q) os':=by
 refine IV (args:=[kA x,kA y]) Tryz.func195 rfl Tryz.ntmps195 (by simp) ?_
 refine D9 ?_;refine CZ ?_;refine A3 (HI (v:=kA x) rfl ?_);refine A3 (HI (v:=kA y) rfl ?_);refine aZ ?_;refine IW ?_;refine D9 ?_;refine sK mixed zK ?_;refine A7 (yC (h:=32) (m:=32) (lv:=none) (hv:=none) (mv:=none) rfl sL rfl rfl rfl (fun w=>yD w)) ?_;refine A7 (yC (h:=32) (m:=32) (lv:=none) (hv:=none) (mv:=none) rfl sL rfl rfl rfl (fun w=>yD w)) ?_;have hs:((W.alloc (.cells (kA x).cells 34)).alloc (.cells (kA y).cells 34)).drew.heap[W.heap.size]? =some (.cells (C1 x).toArray 34 (0,0)):=by
  have h1:=fY (W.alloc (.cells (kA x).cells 34)) (.cells (kA y).cells 34) W.heap.size (by simp)
  exact h1.trans (j4 W _)
 have hu:((W.alloc (.cells (kA x).cells 34)).alloc (.cells (kA y).cells 34)).drew.heap[(W.alloc (.cells (kA x).cells 34)).heap.size]? =some (.cells (C1 y).toArray 34 (0,0)):=j4 _ _
 refine oQ (v:=VI (cV x y)) Tryz.func72 rfl rfl rfl (YV _ ⟨some ⟨W.heap.size,0,none⟩,32,32,x.1⟩ ⟨some ⟨(W.alloc (.cells (kA x).cells 34)).heap.size,0,none⟩,32,32,y.1⟩ (HJ hs) (HJ hu)) ?_
 refine A7 (eM) ?_;refine kK ?_;refine iS ?_;refine w4 (v:=VI (cV x y)) Tryz.results195 rfl ?_
 refine⟨rfl,1, #[.cells (kA x).cells 34,.cells (kA y).cells 34],?_⟩
 rw[Go.Sort.alloc_eq_grow,Go.Sort.alloc_eq_grow,Go.Sort.grow_grow]
 rfl
theorem Ug{w:World}{n:Nat}{a:Option Nat}{l:List A6}(H:Hp w0 w S L)(hi:L[i]? =some (.own a n c (l.flatMap C1) 34 32))(hn:l.length=n)(hb:n<=1099511627776):
  Ret Tryz.prog 189 [.slice (hd a) n c,.func (.func 195) #[] #[]] w fun v w'=>v=.tuple #[]/\Hp w0 w' S (L.set i (.own a n c ((sortA l).flatMap C1) 34 32)):=
 YY Tryz.sortA Tryz.isAgg34 Tryz.sizeOf34 aD (by decide) (fun x v hv=>Q8.1 (uG x) v hv) cV ZC ZD Tryz.func195 rfl rfl (fun W x y=>Uf x y W) H hi hn hb
theorem Uh(x y:A6)(W:World):Calls Tryz.prog 166 #[.agg (C1 x).toArray,.agg (C1 y).toArray] W fun e w'=>e=.returned (VI (cV x y))/\∃q os',w'=Go.Sort.grow (W.drewN q) os':=by
 refine IV (args:=[kA x,kA y]) Tryz.func166 rfl Tryz.ntmps166 (by simp) ?_
 refine D9 ?_;refine CZ ?_;refine A3 (HI (v:=kA x) rfl ?_);refine A3 (HI (v:=kA y) rfl ?_);refine aZ ?_;refine IW ?_;refine D9 ?_;refine sK mixed zK ?_;refine A7 (yC (h:=32) (m:=32) (lv:=none) (hv:=none) (mv:=none) rfl sL rfl rfl rfl (fun w=>yD w)) ?_;refine A7 (yC (h:=32) (m:=32) (lv:=none) (hv:=none) (mv:=none) rfl sL rfl rfl rfl (fun w=>yD w)) ?_;have hs:((W.alloc (.cells (kA x).cells 34)).alloc (.cells (kA y).cells 34)).drew.heap[W.heap.size]? =some (.cells (C1 x).toArray 34 (0,0)):=by
  have h1:=fY (W.alloc (.cells (kA x).cells 34)) (.cells (kA y).cells 34) W.heap.size (by simp)
  exact h1.trans (j4 W _)
 have hu:((W.alloc (.cells (kA x).cells 34)).alloc (.cells (kA y).cells 34)).drew.heap[(W.alloc (.cells (kA x).cells 34)).heap.size]? =some (.cells (C1 y).toArray 34 (0,0)):=j4 _ _
 refine oQ (v:=VI (cV x y)) Tryz.func72 rfl rfl rfl (YV _ ⟨some ⟨W.heap.size,0,none⟩,32,32,x.1⟩ ⟨some ⟨(W.alloc (.cells (kA x).cells 34)).heap.size,0,none⟩,32,32,y.1⟩ (HJ hs) (HJ hu)) ?_
 refine A7 (eM) ?_;refine kK ?_;refine iS ?_;refine w4 (v:=VI (cV x y)) Tryz.results166 rfl ?_
 refine⟨rfl,1, #[.cells (kA x).cells 34,.cells (kA y).cells 34],?_⟩
 rw[Go.Sort.alloc_eq_grow,Go.Sort.alloc_eq_grow,Go.Sort.grow_grow]
 rfl
theorem Ui{w:World}{n:Nat}{a:Option Nat}{l:List A6}(H:Hp w0 w S L)(hi:L[i]? =some (.own a n c (l.flatMap C1) 34 32))(hn:l.length=n)(hb:n<=1099511627776):
  Ret Tryz.prog 189 [.slice (hd a) n c,.func (.func 166) #[] #[]] w fun v w'=>v=.tuple #[]/\Hp w0 w' S (L.set i (.own a n c ((sortA l).flatMap C1) 34 32)):=
 YY Tryz.sortA Tryz.isAgg34 Tryz.sizeOf34 aD (by decide) (fun x v hv=>Q8.1 (uG x) v hv) cV ZC ZD Tryz.func166 rfl rfl (fun W x y=>Uh x y W) H hi hn hb
section
variable {P:Program} {ops:Array Oper} {Q:Exit->Act->World->Prop} {n l:Nat} {K:Act->World->Prop}
theorem Uj{row:String}{args:Array Value}{R:Value->World->Prop}(h:Rows P row args w R):RowsIn (Fence.wide.inRound l) n P row args w R:=
 fun c cs _=>let⟨v,w',r,s⟩:=h c cs;⟨v,w',r,stepsIn_wide.2 s⟩
theorem Uk{f:FuncId}{args:Array Value}{R:Ending->World->Prop}(h:Calls P f args w R):CallsIn (Fence.wide.inRound l) n P f args w R:=CallsIn.inRound l (callsIn_wide.2 h)
theorem uponIn_round{o:Oper}{a:Act}{r:Result Next}(h:o.upon P a K Q r):o.uponIn (Fence.wide.inRound l) n P a K Q r:=by
 cases r with
|ok x w'=>
  cases x<;>simp only[Oper.upon,Oper.uponIn]at h ⊢<;>
   first
   |exact h
   |exact⟨fun h=>(by cases h),Uk h⟩
   |exact⟨fun h=>(by cases h),Uj h⟩
   |exact h.elim
|halt x w'=>cases x<;>simp only[Oper.upon,Oper.uponIn]at h ⊢<;>exact h
def Oper.plain(o:Oper):Bool:=match o.op with|.defer _=>false|_=>true
theorem Ul{o:Oper}(h:Oper.plain o=true)(ρ:Operand->Value):Oper.semAt (some l) ρ o=execOp ρ o:=by
 unfold Oper.semAt
 unfold Oper.plain at h
 split
 ·rename_i vC;rw[vC]at h;cases h
 rfl
theorem ZE{o:Oper}{a:Act}(hp:Oper.plain o=true)(h:o.wp P a w K Q):o.wpIn (Fence.wide.inRound l) n P a w K Q:=by
 refine⟨fun _ _=>trivial,?_⟩
 rw[show(Fence.wide.inRound l).round=some l from rfl,Ul hp]
 exact uponIn_round h
theorem HK(hp:∀o∈ops,Oper.plain o=true)(hQ:¬ LetsOut Q):∀(is:List Nat) (a:Act) (w:World),wpOps P ops Q is a w->wpOpsIn (Fence.wide.inRound l) n P ops Q is a w
|[],a,w,h=>h
|i::is,a,w,h=>by
  unfold wpOps at h
  unfold wpOpsIn
  cases ho:ops[i]? with
 |none=>rw[ho]at h;exact HK hp hQ is a w h
 |some o=>
   rw[ho]at h
   dsimp only at h ⊢
   by_cases hw:Region.wanted o (yielded ops a.tmps)=true
   ·rw[if_pos hw]at h ⊢
    rcases h with h|h
    ·refine ZE (hp o (Array.mem_of_getElem? ho)) (Oper.wp_mono (fun a w h=>HK hp hQ is a w h) h)
    exact absurd h.2 hQ
   rw[if_neg hw]at h ⊢
   exact⟨fun _ _=>trivial,HK hp hQ is _ w h⟩
theorem NT{L:Array Oper}(hp:∀o∈L,Oper.plain o=true)(hQ:¬ LetsOut Q):∀(is:List Oper) (a:Act) (w:World),(∀o∈is,o∈L)->wpList P L Q is a w->wpListIn (Fence.wide.inRound l) n P L Q is a w
|[],a,w,_,h=>h
|o::is,a,w,hs,h=>by
  unfold wpList at h
  unfold wpListIn
  by_cases hw:Region.wanted o (yielded L a.tmps)=true
  ·rw[if_pos hw]at h ⊢
   rcases h with h|h
   ·exact ZE (hp o (hs o (X8 ..))) (Oper.wp_mono (fun a w h=>NT hp hQ is a w (fun o ho=>hs o (Q9 _ ho)) h) h)
   exact absurd h.2 hQ
  rw[if_neg hw]at h ⊢
  exact⟨fun _ _=>trivial,NT hp hQ is _ w (fun o ho=>hs o (Q9 _ ho)) h⟩
def ZF(L:List Oper):Bool:=L.all Oper.plain
theorem HL{id:Nat}{L:List Oper}{a:Act}(hp:ZF L=true)(hQ:¬ LetsOut Q)(h:wpList P L.toArray Q L a w):(Code.region id L.toArray false).wpIn (Fence.wide.inRound l) n P Q a w:=
 wpIn_region_lit (NT (fun o ho=>Q8.1 hp o (by simpa using ho)) hQ L a w (fun o ho=>by simpa using ho) h)
theorem Um{id:Nat}{L:List Oper}{a:Act}(S':World->Prop)(hm:P.follows .mixedOrders=true)(hp:ZF L=true)(hQ:¬ LetsOut Q)
  (h:wpAnyH P .any L.toArray Q S' L.length (Array.replicate L.length false) a w.drew):(Code.region id L.toArray true).wpIn (Fence.wide.inRound l) n P Q a w:=
 wpIn_region_draw fun t=>by
  simp only[Region.schedule,hm,Bool.true_or,if_true]
  refine HK (fun o ho=>Q8.1 hp o (by simpa using ho)) hQ _ a _ ?_;exact wpAny_sound L.toArray.size t _ a _ (wpAny_of_held _ _ _ _ (by simpa using h))
end
section
variable {P:Program} {ops:Array Oper} {Q:Exit->Act->World->Prop} {n l m:Nat} {K:Act->World->Prop} {σ:Nat->Value} {w:World}
 {ty:TypeId} {pos:String} {aft:Array Edge} {g:Option (Nat×Bool)} {d:Nat} {rest:List Oper}
theorem Un{o:Oper}{a:Act}{r:Result Next}(h:o.upon P a K Q r):o.uponIn Fence.wide m P a K Q r:=by
 cases r with
|ok x w'=>
  cases x<;>simp only[Oper.upon,Oper.uponIn]at h ⊢<;>
   first
   |exact h
   |exact⟨fun h=>(by cases h),callsIn_wide.2 h⟩
   |exact⟨fun h=>(by cases h),fun c cs _=>let⟨v,w',r,s⟩:=h c cs;⟨v,w',r,stepsIn_wide.2 s⟩⟩
   |exact h.elim
|halt x w'=>cases x<;>simp only[Oper.upon,Oper.uponIn]at h ⊢<;>exact h
theorem yQ{op:Op}{dst:Option Tmp}{a:Act}(h:Oper.wp P ⟨dst,op,ty,pos,aft,none⟩ a w (wpListIn Fence.wide m P ops Q rest) Q):wpListIn Fence.wide m P ops Q (⟨dst,op,ty,pos,aft,none⟩::rest) a w:=by
 unfold wpListIn
 rw[if_pos (by simp[Region.wanted])]
 exact⟨fun _ _=>trivial,Un h⟩
theorem ZG{y:Code}{a:Act}(h:y.wp P Q a w):wpListIn Fence.wide m P ops (Exit.then (y.wp P Q) Q) [] a w:=h
theorem ZH{x y:Operand}{v:Value}{b:Bool}{R:World->Prop}(hx:ev n σ x=.func (.yield l) #[] #[])(hnf:∀f,x≠ .func f)(hy:ev n σ y=v)
  (hY:YieldAt Fence.wide (m-1) P l #[v] w fun e W'=>e=.returned (.bool b)/\R W')
  (h:∀W',R W'->wpListIn Fence.wide m P ops Q rest (mk n (up σ d (.bool b))) W'):
  wpListIn Fence.wide m P ops Q (⟨some d,.call ⟨.value x, #[y],W3⟩,ty,pos,aft,none⟩::rest) (mk n σ) w:=by
 obtain⟨fn,tmps,assign,body,I0,hR⟩:=hY
 unfold wpListIn
 rw[if_pos (by simp[Region.wanted])]
 refine⟨fun _ _=>trivial,?_⟩
 have e:(execOp (mk n σ).eval ⟨some d,.call ⟨.value x, #[y],W3⟩,ty,pos,aft,none⟩).run P w=.ok (.round l fn tmps assign body) w:=by
  rw[W7]
  cases x with
 |func f=>exact absurd rfl (hnf f)
 |_=>simp[execOp,resolve,hx,hy,Deferred.ofValue,invoke,I0]
 rw[show Fence.wide.round=none from rfl,Oper.semAt_none,e,Oper.uponIn_round]
 refine⟨fun h=>(by cases h),hR.mono fun e W' he=>?_⟩
 obtain⟨he,hr⟩:=he
 subst he
 show wpListIn Fence.wide m P ops Q rest ((mk n σ).put (some d) (.bool b)) W'
 rw[eL]
 exact h W' hr
end
theorem Uo{ι α:Type}{w1:World}{bb b l:Nat}{enc:α->Value}{M:List (A6×Value×Nat)}{F:A6->Option α}(hM:MOk M c)(hF:MIs enc M F)(Lv:ι->List Ch)(I:List A6->ι->Prop)(x0:ι)(h0:I [] x0)(H0:Hp w0 w1 S (Ch.blk bb ([.map (some b)]) 242::Ch.obj b (B7 kA M c)::Lv x0))(hY:∀(it:Nat) (A4:List A6) (x:ι) (k:A6) (a:α) (W:World),I A4 x->F k=some a->k∉A4->(∀j∈A4,(F j).isSome=true)->A4.Nodup->Hp w0 W S (Ch.obj it (T8 b M c (A4++[k]))::Ch.blk bb ([.map (some b)]) 242::Ch.obj b (B7 kA M c)::Lv x)->YieldAt Fence.wide 0 Tryz.prog l #[kA k] W fun e W'=>e=.returned (.bool true)/\∃x',I (A4++[k]) x'/\Hp w0 W' S (Ch.obj it (T8 b M c (A4++[k]))::Ch.blk bb ([.map (some b)]) 242::Ch.obj b (B7 kA M c)::Lv x')):
 Ret Tryz.prog 216 [.func (.yield l) #[] #[],.pointer (some ⟨bb,0,none⟩)] w1 fun v w'=>∃A4 x,I A4 x/\A4.Nodup/\(∀k,k∈A4↔(F k).isSome=true)/\Hp w0 w' S (Ch.blk bb ([.map (some b)]) 242::Ch.obj b (B7 kA M c)::Lv x):=by
 refine T5 Tryz.func216 rfl Tryz.ntmps216 (by simp) ?_
 have H:=H0
 refine rG ?_;refine lV (Q5 H (i:=0) rfl rfl JW rfl) ?_;refine A3 (XL (kv:=kA) H (i:=1) rfl Tryz.underlying242 rfl (fun b1 w H N6=>?_));replace H:=H.rot
 replace H:Hp _ w _ (Ch.obj b1 (T8 b M c ([]))::Ch.blk bb ([.map (some b)]) 242::Ch.obj b (B7 kA M c)::Lv x0):=H
 refine eN ?_
 refine qB ?_;repeat refine D9 ?_
 refine MO (fun(A4:List A6) (x:ι)=>[(0,.func (.yield l) #[] #[]),(5,.pointer (some ⟨b1,0,none⟩))])
  (fun(A4:List A6) (x:ι) w=>(A4.Nodup/\(∀k∈A4,(F k).isSome=true)/\I A4 x)/\Hp w0 w S (Ch.obj b1 (T8 b M c A4)::Ch.blk bb ([.map (some b)]) 242::Ch.obj b (B7 kA M c)::Lv x))
  (fun(A4:List A6) (x:ι)=>M.length-A4.length) ([]) x0 ⟨rfl,rfl,zT⟩ ⟨⟨List.nodup_nil,fun _ h=>(by cases h),h0⟩,H⟩ ?_
 clear H
 rintro A4 x τ w ⟨⟨aS,hv,hI⟩,H⟩
 refine rG ?_;refine A3 (XM (kv:=kA) (enc:=enc) H (i:=2) (j:=0) rfl rfl hM hF hv rfl (fun hall2 w H=>?_) (fun R5 va4 wD hkn6 w H=>?_))
 ·
  refine lV (cJ rfl rfl) ?_;refine eN ?_
  refine qN ?_;refine W8 ?_;refine eZ ?_;refine DB Tryz.results216 ?_
  refine⟨_,rfl,?_⟩
  exact⟨A4,x,hI,aS,fun k=>⟨hv k,hall2 k⟩,H.sub (.cons _ (.cons_cons _ (.cons_cons _ (qM _))))⟩
 
 replace H:Hp _ w _ (Ch.obj b1 (T8 b M c (A4++[R5]))::Ch.blk bb ([.map (some b)]) 242::Ch.obj b (B7 kA M c)::Lv x):=H
 refine lV (cJ rfl rfl) ?_;refine eN ?_
 refine qY ?_;refine M5 ?_;refine qB ?_;refine rG ?_;refine lV (XN (kv:=kA) (enc:=enc) H (i:=2) (j:=0) rfl rfl hM hF wD rfl) ?_;refine lV (cJ rfl rfl) ?_;refine A3 (W9 H aV (fun b7 w H hb7=>?_));replace H:=H.rot
 replace H:Hp _ w _ (Ch.blk b7 ((replicate 32 (0:UInt8)).map V8) 34::Ch.obj b1 (T8 b M c (A4++[R5]))::Ch.blk bb ([.map (some b)]) 242::Ch.obj b (B7 kA M c)::Lv x):=H
 refine A3 (mX (l':=R5.1) H (i:=0) rfl rfl rfl iX (show(replicate 32 (0:UInt8)).length=32 from(jR ..)) (show(R5.1).length=32 from R5.2) (fun w H=>?_));replace H:Hp _ w _ (Ch.blk b7 ((R5.1).map V8) 34::Ch.obj b1 (T8 b M c (A4++[R5]))::Ch.blk bb ([.map (some b)]) 242::Ch.obj b (B7 kA M c)::Lv x):=H
 refine eN ?_
 repeat refine D9 ?_
 have X9:=GU aS hv wD hkn6
 have nM:=XO hF X9.1 X9.2
 rw[C9,x4]at nM
 refine(wpIn_wide (n:=1)).1 ?_;refine wpIn_region_lit ?_;refine yQ (G4 L0 ?_);refine yQ (G4 (tW (l:=R5.1) H (i:=0) rfl rfl aU (show(R5.1).length=32 from R5.2)) ?_);have H1:=H.sub (.cons _ (.cons_cons _ (.cons_cons _ (.cons_cons _ (qM _)))))
 have hy:=hY _ A4 x R5 va4 _ hI wD hkn6 hv aS H1
 refine ZH (v:=kA R5) (b:=true) rfl (fun f e=>by cases e) rfl hy ?_;rintro w ⟨x',qO,H2⟩
 clear H H1 hy;have H:=H2;clear H2
 refine yQ (G4 (zW rfl) ?_);refine ZG ?_;refine qN ?_;refine M5 ?_;refine U7 (A4++[R5],x') ?_ ?_ ?_
 ·exact⟨rfl,rfl,zT⟩
 ·refine⟨?_,?_⟩
  ·try dsimp only
   exact⟨X9.1,X9.2,qO⟩
  exact H
 show M.length-(A4++[R5]).length<M.length-A4.length;rw[C9,x4];omega
def gV(n:Nat)(σ:Nat->Value)(ds:List Deferred):Act:={ mk n σ with defers:=ds}
section
variable {P:Program} {Q:Exit->Act->World->Prop} {n l m i d:Nat} {K:Act->World->Prop} {σ:Nat->Value} {w w0:World} {S:List Nat} {L:List Ch}
 {ty:TypeId} {pos:String} {aft:Array Edge} {g:Option (Nat×Bool)} {rest:List Oper} {ds:List Deferred} {ops:Array Oper}
theorem ZI:(gV n σ ds).eval=ev n σ:=by
 rw[<-W7];funext x;cases x<;>rfl
theorem ZJ{v:Value}:(gV n σ ds).put (some d) v=gV n (up σ d v) ds:=by
 show(gV n σ ds).put (some d) v={ mk n (up σ d v) with defers:=ds}
 rw[<-eL];rfl
theorem Hp.putObj{o o':Go.Obj}(H:Hp w0 w S L)(hi:L[i]? =some (.obj r o)):Hp w0 (w.putObj r o') S (L.set i (.obj r o')):=by
 have hr:w.heap[r]? =some o:=H.has _ (E2 hi)
 have hlt:=(Z4.1 hr).1
 refine H.turn hi (c':=.obj r o') (World.putObj_heap_same hlt) (fun b hb=>.inl hb) rfl rfl rfl (by simp[World.putObj]) (fun b _ D5=>World.putObj_heap_other fun e=>D5 (by rw[e];rfl))
theorem BX{op:Op}{v:Value}(I0:(execOp (ev n σ) ⟨some d,op,ty,pos,aft,g⟩).run P w=.ok (.value v) w')(h:K (gV n (up σ d v) ds) w'):Oper.wp P ⟨some d,op,ty,pos,aft,g⟩ (gV n σ ds) w K Q:=by
 unfold Oper.wp
 rw[ZI,I0,CK,ZJ]
 exact h
theorem Up{f:FuncId}{fn:Func}{args:Array Operand}{vs:List Value}{R:Value->World->Prop}(hf:P.funcs[f]? =some fn)(hb:fn.body.isSome=true)(fG:(fn.name == "runtime.NumGoroutine")=false)
  (ha:rZ n σ args.toList=vs)(hc:Ret P f vs w R)(h:∀v w',R v w'->K (gV n (up σ d v) ds) w'):Oper.wp P ⟨some d,.call ⟨.value (.func f),args,W3⟩,ty,pos,aft,g⟩ (gV n σ ds) w K Q:=by
 unfold Oper.wp
 rw[ZI]
 have hn:fn.body≠none:=by cases hh:fn.body<;>simp_all
 have P0:fn.name≠ "runtime.NumGoroutine" :=by intro e;simp[e]at fG
 have X9:args.map (ev n σ)=vs.toArray:=by apply U1;rw[<-ha,zJ];simp
 have:(execOp (ev n σ) ⟨some d,.call ⟨.value (.func f),args,W3⟩,ty,pos,aft,g⟩).run P w=.ok (.enter f vs.toArray) w:=by
  simp[execOp,resolve,ev,Deferred.ofValue,invoke,callFunc,hf,P0,hn,X9]
 rw[this,Oper.upon_enter]
 refine x5 hc fun e w' ⟨v,he,hv⟩=>?_
 subst he
 show K ((gV n σ ds).put (some d) v) w'
 rw[ZJ];exact h v w' hv
theorem Uq{f:FuncId}{fn:Func}{c:Code}{args:List Value}{R:Ending->World->Prop}(hf:P.funcs[f]? =some fn)(hb:fn.body=some c)(hn:fn.ntmps=n)(B1:args.length<=n)
  (h:c.wp P (bodyPostM Fence.wide 1 P fn R) (mk n (fun t=>args.getD t undef)) w):Calls P f args.toArray w R:=by
 refine callsIn_wide.1 (callsIn_of_wp_marks (F:=Fence.wide) (n:=1) hf hb trivial ?_)
 rw[hn,OZ args n B1]
 exact wpIn_wide.2 h
theorem ZK{f:FuncId}{fn:Func}{c:Code}{args:List Value}{R:Value->World->Prop}(hf:P.funcs[f]? =some fn)(hb:fn.body=some c)(hn:fn.ntmps=n)(B1:args.length<=n)
  (h:c.wp P (bodyPostM Fence.wide 1 P fn fun e w'=>∃v,e=.returned v/\R v w') (mk n (fun t=>args.getD t undef)) w):Ret P f args w R:=Uq hf hb hn B1 h
theorem Ur{c:Operand}{x y:Code}(hc:ev n σ c=.bool true)(h:x.wpIn (Fence.wide.inRound l) m P Q (mk n σ) w):(Code.cond c x y).wpIn (Fence.wide.inRound l) m P Q (mk n σ) w:=wpIn_cond_true ((mB n σ c).trans hc) h
theorem Us{c:Operand}{x y:Code}(hc:ev n σ c=.bool false)(h:y.wpIn (Fence.wide.inRound l) m P Q (mk n σ) w):(Code.cond c x y).wpIn (Fence.wide.inRound l) m P Q (mk n σ) w:=wpIn_cond_false ((mB n σ c).trans hc) h
theorem Ut{a:Act}(h:Q .normal a w):Code.skip.wpIn (Fence.wide.inRound l) m P Q a w:=wpIn_skip h
theorem ZL{id:Nat}{c:Code}{a:Act}(h:c.wpIn (Fence.wide.inRound l) m P (Exit.inBlock id Q) a w):(Code.block id c).wpIn (Fence.wide.inRound l) m P Q a w:=wpIn_block h
theorem HM{y:Code}{a:Act}(h:y.wpIn (Fence.wide.inRound l) m P Q a w):wpList P ops (Exit.then (y.wpIn (Fence.wide.inRound l) m P Q) Q) [] a w:=h
def BY(D:Nat):List Deferred:=[{ target:=.collected D,args:= #[] }]
theorem ZM{R:Ending->World->Prop}{D:Nat}{t:Tmp}{v:Value}(h:fn.results= #[.tmp t])(hv:ev n σ (.tmp t)=v)(H:Hp w0 w S L)(hi:L[i]? =some (.obj D (.deferred (some []))))
  (hR:∀w',Hp w0 w' S (L.eraseIdx i)->R (.returned v) w'):bodyPostM Fence.wide 1 P fn R .ret (gV n σ (BY D)) w:=by
 have hD:w.heap[D]? =some (.deferred (some [])):=H.has _ (E2 hi)
 have H2:=H.putObj (o':=.deferred none) hi
 refine⟨by simp,.inl ⟨D,_,rfl,run_takeDeferred hD,?_⟩⟩
 have hs:(L.set i (.obj D (.deferred none))).eraseIdx i=L.eraseIdx i:=by
  rw[List.eraseIdx_set_eq]
 have H3:=H2.sub (List.eraseIdx_sublist _ i)
 rw[hs]at H3
 refine⟨_,results_tmp h _ _ _,?_⟩
 have e:(gV n σ (BY D)).tmps.getD t undef=v:=by rw[<-hv];exact sD n σ t
 rw[e]
 exact hR _ H3
theorem Uu{f:FuncId}(hf:P.funcs[f]? =some fn)(hb:fn.body.isSome=true)(fG:(fn.name == "runtime.NumGoroutine")=false)(args:Array Value)(w:World):(callFunc f args).run P w=.ok (.enter f args) w:=by
 have hn:fn.body≠none:=by cases hh:fn.body<;>simp_all
 have P0:fn.name≠ "runtime.NumGoroutine" :=by intro e;simp[e]at fG
 simp[callFunc,hf,P0,hn]
theorem ZN{ι κ α:Type}{FX:List Ch}{Got:κ->α->Prop}{All:List κ->Prop}{I:List κ->ι->Prop}{x0:ι}{itC:Nat->List κ->Ch}{kv:κ->Value}{gf:FuncId}{fnI:Func}{pb:Value}{op:Operand}{p:Tmp}{assign body:Code}
  (hf:P.funcs[gf]? =some fnI)(hb:fnI.body.isSome=true)(fG:(fnI.name == "runtime.NumGoroutine")=false)
  (hIt:∀(Lv:ι->List Ch) (l:Nat) (w1:World),Hp w0 w1 S (FX++Lv x0)->
   (∀(it:Nat) (A4:List κ) (x:ι) (k:κ) (a:α) (W:World),I A4 x->Got k a->k∉A4->Hp w0 W S (itC it (A4++[k])::(FX++Lv x))->
    YieldAt Fence.wide 0 P l #[kv k] W fun e W'=>e=.returned (.bool true)/\∃x',I (A4++[k]) x'/\Hp w0 W' S (itC it (A4++[k])::(FX++Lv x')))->
   Ret P gf [.func (.yield l) #[] #[],pb] w1 fun _ w'=>∃A4 x,I A4 x/\All A4/\Hp w0 w' S (FX++Lv x))
  (hg:ev n σ op=.func (.func gf) #[] #[pb])(Lv:ι->List Ch)(H:Hp w0 w S (FX++Lv x0))
  (hround:∀(l:Nat) (T:List Ch) (A4:List κ) (x:ι) (k:κ) (a:α) (W:World),I A4 x->Got k a->k∉A4->Hp w0 W S (FX++(Lv x++T))->
   assign.wpIn (Fence.wide.inRound l) 0 P (Exit.then (fun a₁ W₁=>∃Lb,Hp w0 W₁ S (Lb++T)/\∀T' W₂,Hp w0 W₂ S (Lb++T')->
    body.wpIn (Fence.wide.inRound l) 0 P (fun e _ W₃=>e=.normal/\∃x',I (A4++[k]) x'/\Hp w0 W₃ S (FX++(Lv x'++T'))) a₁ W₂) (fun _ _ _=>False)) (mk n (up σ p (kv k))) W)
  (hdone:∀(D:Nat) (A4:List κ) (x:ι) (w':World),I A4 x->All A4->Hp w0 w' S (Ch.obj D (.deferred (some []))::(FX++Lv x))->Q .normal (gV n σ (BY D)) w'):
  (Code.rangeFunc op #[p] assign body).wp P Q (mk n σ) w:=by
 refine(wpIn_wide (n:=1)).1 (wpIn_rangeFunc ?_);intro fn _
 have hDn:w0.heap.size<=w.heap.size:=H.size
 have H1:=(H.new (.deferred (some [])) (.obj w.heap.size (.deferred (some []))) rfl (j4 w _))
 generalize oD:(fun(st:LoopState) (pe:Option Code)=>({ state:=st,pending:=pe,fn,tmps:=(mk n σ).tmps,params:= #[p],assign,body,defers:=w.heap.size}:Loop))=rec
 have H2:=H1.new (.loop (rec .ready none)) (.obj (w.heap.size+1) (.loop (rec .ready none))) (by simp[Ch.key]) (by have:=j4 (w.alloc (.deferred (some []))) (.loop (rec .ready none));simpa [Ch.ok] using this)
 generalize w3:(w.alloc (.deferred (some []))).alloc (.loop (rec .ready none))=W1 at H2
 generalize hD:w.heap.size=D at*
 have P1:∀(x:ι) (o:Go.Obj),(FX++(Lv x++[Ch.obj D (.deferred (some [])),Ch.obj (D+1) o])).Perm (FX++Lv x++[Ch.obj D (.deferred (some []))]++[Ch.obj (D+1) o]):=fun x o=>by
  rw[H8,H8];exact .refl _
 have H3:Hp w0 W1 S (FX++(fun x=>Lv x++[Ch.obj D (.deferred (some [])),Ch.obj (D+1) (.loop (rec .ready none))]) x0):=H2.permL (P1 x0 _).symm
 refine⟨D+1,BY D,W1,{ target:=.fn (.func gf) #[pb],args:= #[.func (.yield (D+1)) #[] #[]] },W1,gf, #[.func (.yield (D+1)) #[] #[]]++ #[pb],W1,?_,?_,fun _ _=>trivial,?_,fun h=>(by cases h),?_⟩
 ·subst hD;rw[<-w3, <-oD];exact run_enterLoop_outer _ _ _ _ _
 ·rw[W7]
  have hc:ev n σ (.const (.func (.yield (D+1)) #[] #[]))=.func (.yield (D+1)) #[] #[]:=rfl
  cases op<;>simp[resolve,rangeCall,hg,hc,Deferred.ofValue]
 ·simp[invoke,Uu hf hb fG]
 refine callsIn_wide.2 ?_
 refine x5 (hIt (fun x=>Lv x++[Ch.obj D (.deferred (some [])),Ch.obj (D+1) (.loop (rec .ready none))]) (D+1) W1 H3 ?_) ?_
 ·intro it A4 x k a W hI hgot hk HW
  have HWp:Hp w0 W S (FX++(Lv x++[Ch.obj D (.deferred (some [])),Ch.obj (D+1) (.loop (rec .ready none)),itC it (A4++[k])])):=HW.permL (by
   have:=(List.perm_append_comm (l₁:=[itC it (A4++[k])]) (l₂:=FX++(Lv x++[Ch.obj D (.deferred (some [])),Ch.obj (D+1) (.loop (rec .ready none))])))
   rw[H8,H8]at this
   exact this)
  have hi:(FX++(Lv x++[Ch.obj D (.deferred (some [])),Ch.obj (D+1) (.loop (rec .ready none)),itC it (A4++[k])]))[FX.length+((Lv x).length+1)]? =some (Ch.obj (D+1) (.loop (rec .ready none))):=by
   rw[L7 zO,jT,L7 zO,jT];rfl
  have hl:W.heap[D+1]? =some (.loop (rec .ready none)):=HWp.has _ (E2 hi)
  have hy:=run_yield (P:=P) (args:= #[kv k]) hl (by rw[<-oD];rfl)
  refine⟨_,_,_,_,hy,roundIn_of_wpIn trivial ?_⟩
  have hact:({ tmps:=((rec .ready none).params.zip #[kv k]).foldl (fun tmps (x:Tmp×Value)=>tmps.setIfInBounds x.1 x.2) (rec .ready none).tmps,defers:=[]}:Act)=mk n (up σ p (kv k)):=by
   rw[<-eL, <-oD]
   simp[Act.put,oJ]
  rw[hact]
  have ha:(rec .ready none).assign=assign:=by rw[<-oD]
  have hbd:(rec .ready none).body=body:=by rw[<-oD]
  rw[ha,hbd]
  refine wpIn_mono (hround (D+1) _ A4 x k a W hI hgot hk HWp) ?_;intro e a₁ W₁ hq
  cases e with
 |normal=>
   obtain⟨Lb,HLb,hbody⟩:=hq
   have kF:(Lb++[Ch.obj D (.deferred (some [])),Ch.obj (D+1) (.loop (rec .ready none)),itC it (A4++[k])])[Lb.length+1]? =some (Ch.obj (D+1) (.loop (rec .ready none))):=by
    rw[L7 zO,jT];rfl
   have dI:W₁.heap[D+1]? =some (.loop (rec .ready none)):=HLb.has _ (E2 kF)
   have hbg:=run_beginRound (P:=P) dI (by rw[<-oD])
   have H4:=HLb.putObj (o':=.loop { rec .ready none with state:=.busy }) kF
   rw[show(Lb++[Ch.obj D (.deferred (some [])),Ch.obj (D+1) (.loop (rec .ready none)),itC it (A4++[k])]).set (Lb.length+1) (.obj (D+1) (.loop { rec .ready none with state:=.busy }))=Lb++[Ch.obj D (.deferred (some [])),Ch.obj (D+1) (.loop { rec .ready none with state:=.busy }),itC it (A4++[k])] from by
    rw[cY _ _ zO,jT];rfl]at H4
   refine⟨_,hbg,wpIn_mono (hbody _ _ H4) ?_⟩
   rintro e a₂ W₃ ⟨rfl,x',qO,H5⟩
   have iL:(FX++(Lv x'++[Ch.obj D (.deferred (some [])),Ch.obj (D+1) (.loop { rec .ready none with state:=.busy }),itC it (A4++[k])]))[FX.length+((Lv x').length+1)]? =some (Ch.obj (D+1) (.loop { rec .ready none with state:=.busy })):=by
    rw[L7 zO,jT,L7 zO,jT];rfl
   have vP:W₃.heap[D+1]? =some (.loop { rec .ready none with state:=.busy }):=H5.has _ (E2 iL)
   have hen:=run_endRound (P:=P) none vP
   have H6:=H5.putObj (o':=.loop (rec .ready none)) iL
   rw[cY _ _ zO,jT,cY _ _ zO,jT]at H6
   have nJ:({ ({ rec .ready none with state:=.busy}:Loop) with state:=if (none:Option Code).isNone then .ready else .done,pending:=none}:Loop)=rec .ready none:=by rw[<-oD];rfl
   rw[nJ]at hen
   refine⟨_,_,hen,rfl,x',qO,H6.permL ?_⟩
   have:=(List.perm_append_comm (l₁:=FX++(Lv x'++[Ch.obj D (.deferred (some [])),Ch.obj (D+1) (.loop (rec .ready none))])) (l₂:=[itC it (A4++[k])]))
   rw[H8,H8]at this
   exact this
 |exit _=>exact hq.elim
 |ret=>exact hq.elim
 |goto _=>exact hq.elim
 |panic _=>exact hq.elim
 |outgrown=>exact hq.elim
 rintro e W2 ⟨v,rfl,A4,x,hI,hA,HW⟩
 have hi:(FX++(Lv x++[Ch.obj D (.deferred (some [])),Ch.obj (D+1) (.loop (rec .ready none))]))[FX.length+((Lv x).length+1)]? =some (Ch.obj (D+1) (.loop (rec .ready none))):=by
  rw[L7 zO,jT,L7 zO,jT];rfl
 have hl:W2.heap[D+1]? =some (.loop (rec .ready none)):=HW.has _ (E2 hi)
 have hen:=run_endLoop (P:=P) hl (by rw[<-oD];simp)
 have H6:=HW.putObj (o':=.loop { rec .ready none with state:=.exhausted }) hi
 rw[cY _ _ zO,jT,cY _ _ zO,jT]at H6
 have hpn:(rec .ready none).pending=none:=by rw[<-oD]
 refine⟨none,_,hen.trans (congrArg (fun z=>Result.ok z (W2.putObj (D+1) (.loop { rec .ready none with state:=.exhausted }))) hpn),?_⟩
 show Q .normal { tmps:=(mk n σ).tmps,defers:=BY D++(mk n σ).defers} _
 rw[oJ,Z5]
 refine hdone D A4 x _ hI hA ?_;have hp:=(List.perm_append_comm (l₁:=FX++Lv x) (l₂:=[Ch.obj D (.deferred (some []))]))
 refine(H6.sub ?_).permL hp
 rw[H8]
 exact List.Sublist.append_left (List.Sublist.append_left (.cons_cons _ (.cons _ (.refl _))) _) _
end
def mY(x:It):List Value:=([.string ⟨(x.name).toArray⟩,VI x.kind]:List Value)++((x.of.1).map V8++(([VI x.size]:List Value)))
def uH(x:Ob):List Value:=(x.of.1).map V8++(([x.data.v]:List Value))
def Uv(x:RO):List Value:=([x.data.v,.bool x.hit]:List Value)
def g7(v:RO):Value:=.agg (Uv v).toArray
def D3:RO:=⟨⟨none,0,0,[]⟩,false⟩
theorem NU(w:World):(zeroValue 263).run Tryz.prog w=.ok (g7 D3) w:=by
 have h:(Tryz.prog.info? 263).map (·.zero)=some (some (g7 D3)):=by kernel_rfl
 cases hi:Tryz.prog.info? 263 with
|none=>rw[hi]at h;cases h
|some i=>
  rw[hi]at h
  have hz:i.zero=some (g7 D3):=by simpa using h
  rw[zeroValue]
  simp[typeInfo,Sem.run,hi,hz]
theorem Uw{l:List Ob}{o:Ob}(h:(cU l o.of).isSome=false):bG (cU l) o.of ⟨o.data,false⟩=cU (l++[o]):=by
 rw[YR]at h
 funext k
 rw[bG,cU,cU,YQ]
 by_cases e:k=o.of
 ·rw[if_pos e,e,h,if_neg (by decide),if_pos rfl];rfl
 rw[if_neg e]
 by_cases hs:(Z3 l k).isSome=true
 ·rw[if_pos hs]
 rw[if_neg hs,if_neg e]
 cases hl:Z3 l k with
 |none=>rfl
 |some s=>rw[hl]at hs;exact absurd rfl hs
theorem Ux{l:List Ob}{o:Ob}(h:(cU l o.of).isSome=true):cU l=cU (l++[o]):=by
 rw[YR]at h
 funext k
 rw[cU,cU,YQ]
 by_cases hs:(Z3 l k).isSome=true
 ·rw[if_pos hs]
 rw[if_neg hs]
 have e:k≠o.of:=fun e=>hs (by rw[e];exact h)
 rw[if_neg e]
 cases hl:Z3 l k with
 |none=>rfl
 |some s=>rw[hl]at hs;exact absurd rfl hs
theorem NV{l:List α}{x:α}(h:l[i]? =some x):l.take (i+1)=l.take i++[x]:=by
 rw[CR,h];rfl
def HO(w0 w:World)(v:Value)(w':World):Prop:=∃(I:Gl It) (e:Int) (T1:List Ch),v=.tuple #[I.v,VI e]/\I.l.length=I.len/\I.len<=64/\(∀(w2:World) (L:List Ch),Hp w0 w2 [] L->T1.Sublist L->I.ok mY 35 w2)/\Hp w w' [] T1
def HT(l:List Ob)(w0:World):Prop:=∀o∈l,∀(w:World) (L:List Ch),Hp w0 w [] L->Ret Tryz.prog 186 [o.data.v] w (HO w0 w)
theorem HP{I:Gl It}{w2:World}{T1 L:List Ch}(h:∀(w2:World) (L:List Ch),Hp w0 w2 [] L->T1.Sublist L->I.ok mY 35 w2)(H:Hp w0 w2 [] L)(hs:T1.Sublist L:=by repeat (first|exact qM _|refine List.Sublist.cons _ ?_)):I.ok mY 35 w2:=h w2 L H hs
theorem Uy{l:List Ob}{F:A6->Option RO}(h:FD l F)(ho:∀o∈l,o.data.ok w/\o.data.len<=1048576)(k:A6):((F k).getD D3).data.ok w/\((F k).getD D3).data.len<=1048576:=by
 cases hf:F k with
|none=>exact⟨Sl.ok_nil _,by simp[D3]⟩
|some v=>
  obtain⟨o,h1,_,h3⟩:=yO (HG h hf)
  show v.data.ok w/\v.data.len<=1048576
  rw[<-h3];exact ho o h1
theorem Uz{l:List Ob}{F:A6->Option RO}(hT:HT l w0)(h:FD l F){x:A6}(hx:(F x).isSome=true)(H:Hp w0 w [] L):Ret Tryz.prog 186 [((F x).getD D3).data.v] w (HO w0 w):=by
 obtain⟨v,hv⟩:=hU.1 hx
 obtain⟨o,h1,_,h3⟩:=yO (HG h hv)
 rw[hv]
 show Ret Tryz.prog 186 [v.data.v] w (HO w0 w)
 rw[<-h3]
 exact hT o h1 w L H
theorem Va{t:List A6}{x:A6}(h:t[((t.length:Int)-1).toNat]? =some x):t=t.take (t.length-1)++[x]:=by
 have e:((t.length:Int)-1).toNat=t.length-1:=by omega
 rw[e]at h
 have hlt:=(N0.1 h).1
 rw[<-NV h,W0 zO]
theorem Vb(w0:World)(r:Gl A6)(hr:r.ok C1 32 w0)(hm:r.len<=4194304):
 Ret Tryz.prog 196 [r.v] w0 fun v w'=>∃a c,v=.slice (hd a) r.l.length c/\Hp w0 w' [] [.own a r.l.length c (r.l.flatMap C1) 34 32]:=by
 refine T5 Tryz.func196 rfl Tryz.ntmps196 (by simp) ?_
 have H:=Hp.refl w0 []
 have qX:=hr.ln
 refine rG ?_;refine aZ ?_;refine eN ?_
 refine rG ?_;refine B8 ?_;refine lV (Sa Tryz.underlying182 zK rfl rfl) ?_;refine eN ?_
 have hc10:=IU (r.a.isNone)
 rcases hc10 with hc1|hc1
 ·
  repeat refine D9 ?_
  refine cE (by exact congrArg Value.bool hc1) ?_;refine rG ?_;refine aZ ?_;refine eN ?_
  refine l9 ?_
  refine w4 (v:=.slice none 0 0) Tryz.results196 rfl ?_
  refine⟨_,rfl,?_⟩
  have h0:r.a=none:=by have:=(hc1);simpa using this
  have aO:r.l=[]:=by rcases hr.rd with h|⟨b,o,C,T,fr,ha,_⟩;(cases hl:r.l with|nil=>rfl|cons x xs=>rw[hl,iA]at h;have:=congrArg List.length h;simp[aD]at this);rw[h0]at ha;cases ha
  rw[aO]
  exact⟨none,0,rfl,H.nilEnd 34 32⟩
 
 repeat refine D9 ?_
 refine cG (by exact congrArg Value.bool hc1) ?_;refine M5 ?_;refine rG ?_;refine A3 (Rm (α:=A6) (enc:=C1) H oT aV (by decide) (fun b2 w H S2=>?_));replace H:Hp _ w _ ([.own (some b2) 0 0 ((([]:List A6)).flatMap C1) 34 32]):=H
 refine B8 ?_;refine A3 (GS (enc:=C1) (s:=r) (l':=r.l) (len':=r.len) rfl (J2 _) H (i:=0) rfl oT Tryz.underlying182 rfl rfl (hr.up H) (by decide) (fun c _=>uG c) zO (by decide) (fun a3 c4 w H=>?_));replace H:Hp _ w _ ([.own a3 r.len c4 ((r.l).flatMap C1) 34 32]):=H
 refine aZ ?_;refine eN ?_
 refine l9 ?_
 refine w4 (v:=.slice (hd a3) r.len c4) Tryz.results196 rfl ?_
 refine⟨_,rfl,?_⟩
 rw[hr.ln]
 exact⟨_,_,rfl,H.sub (.cons_cons _ (P6 _))⟩
theorem ZO{F:A6->Option RO}{x:A6}(h:(F x).isSome=true):F x=some ((F x).getD D3):=by
 obtain⟨v,hv⟩:=hU.1 h
 rw[hv];rfl
theorem ZP(w0:World)(g:Gl Ob)(hg:g.ok uH 33 w0)(ho:∀o∈g.l,o.data.ok w0/\o.data.len<=1048576)(hgm:g.len<=65536)(r:Gl A6)(hr:r.ok C1 32 w0)(hrm:r.len<=65536)(hT:HT g.l w0):
 Ret Tryz.prog 173 [g.v,r.v] w0 fun v w'=>∃b M c F,v=.map (some b)/\MIs g7 M F/\MOk M c/\FD g.l F/\Hp w0 w' [] [.obj b (B7 kA M c)]:=by
 refine T5 Tryz.func173 rfl Tryz.ntmps173 (by simp) ?_
 have H:=Hp.refl w0 []
 have hgl:=hg.ln
 have qX:=hr.ln
 refine rG ?_;refine aZ ?_;refine eN ?_
 refine rG ?_;refine A3 (Rq kA H (fun b1 w H N6=>?_));replace H:Hp _ w _ ([.obj b1 (B7 kA ([]:List (A6×Value×Nat)) 0)]):=H
 refine aZ ?_;refine eN ?_
 refine rG ?_;refine B8 ?_;refine lV (z6 PV rfl) ?_;refine B8 ?_;refine eN ?_
 refine qB ?_;repeat refine D9 ?_
 refine VR (fun(i:Nat) (M:List (A6×Value×Nat)) (c:Nat) (F:A6->Option RO)=>[(1,r.v),(5,.map (some b1)),(19,g.v),(20,VI (g.len:Int)),(21,VI (i:Int))])
  (fun(i:Nat) (M:List (A6×Value×Nat)) (c:Nat) (F:A6->Option RO) w=>(i<=g.len/\MIs g7 M F/\MOk M c/\F=cU (g.l.take i))/\Hp w0 w [] ([.obj b1 (B7 kA M c)]))
  (fun(i:Nat) (M:List (A6×Value×Nat)) (c:Nat) (F:A6->Option RO)=>g.len-i) 0 ([]) 0 (fun _=>none) ⟨rfl,rfl,rfl,rfl,rfl,zT⟩ ⟨⟨L8 _,MIs.nil,MOk.nil,rfl⟩,H⟩ ?_
 clear H
 rintro i M c F τ w ⟨⟨hil,hF,hM,hFd⟩,H⟩
 refine rG ?_;refine lV (D1 (a:=(i:Int)) (b:=(g.len:Int)) rfl rfl (fun _=>y8)) ?_;refine eN ?_
 by_cases U5:(i:Int)<(g.len:Int)
 ·
  repeat refine D9 ?_
  refine cE (by exact bT U5) ?_;refine M5 ?_;refine qB ?_;refine rG ?_;have iJ:=((hg.up H)).addr (by decide) (by first|omega|(dsimp only;omega))
  obtain⟨ab3,ao4,iJ⟩:=iJ
  refine lV (kU i rfl rfl PV iJ zO (by (try simp only[Sl.cut]);omega)) ?_;have rP:∃c,g.l[i]? =some c:=⟨_,B6 (by have:=((hg.up H)).ln;(try dsimp only at this ⊢);omega)⟩
  obtain⟨e6,rP⟩:=rP
  have hez8:=((hg.up H)).sz e6 (E2 rP)
  have hod_e6:=(ho e6 (E2 rP)).1
  have hodl_e6:=(ho e6 (E2 rP)).2
  refine lV (NA (s:=g) (k:=i) (hg.up H) iJ rfl Dw (by decide) rP) ?_;refine A3 (W9 H Dy (fun b9 w H hb9=>?_));replace H:Hp _ w _ ([_,.blk b9 ((replicate 32 (0:UInt8)).map V8++(([.slice none 0 0]:List Value))) 235]):=H
  refine A3 (GR (C':=(e6.of.1).map V8++(([e6.data.v]:List Value))) H (i:=1) rfl rfl rfl Dx (by first|(simp[V8,Value.oneCell',Sl.v,Gl.v,uX,uY];done)|(simp only[uX,uS,List.all_nil,uY];simp[Value.oneCell',Function.comp_def])) (by simp only[C9,J4,I4,S1,(show(replicate 32 (0:UInt8)).length=32 from(jR ..))]) (by simp only[C9,J4,I4,S1,(show(e6.of.1).length=32 from e6.of.2)]) (fun w H=>?_));replace H:Hp _ w _ ([_,.blk b9 ((e6.of.1).map V8++(([e6.data.v]:List Value))) 235]):=H
  refine eN ?_
  refine rG ?_;refine B8 ?_;refine lV (eO rfl PW) ?_;refine lV (NE H (i:=1) rfl rfl aU (show Cut3 ((e6.of.1).map V8++(([e6.data.v]:List Value))) (([]:List Value)) ((e6.of.1).map V8) (([e6.data.v]:List Value)) 0 32 from⟨(show(e6.of.1).map V8++(([e6.data.v]:List Value))=([]:List Value)++(((e6.of.1).map V8)++(([e6.data.v]:List Value))) from by simp only[H8,t6,Y4]),(by rfl),(by simp only[C9,J4,I4,S1,(show(e6.of.1).length=32 from e6.of.2)])⟩)) ?_;refine lV (XK (k:=e6.of) D3 hF H (i:=0) rfl Tryz.underlying242 BV NU rfl rfl) ?_;refine B8 ?_;refine lV (cJ rfl rfl) ?_;refine lV (cJ rfl rfl) ?_;refine A3 (W9 H JX (fun b10 w H hb10=>?_));replace H:Hp _ w _ ([_,_,.blk b10 (([.slice none 0 0,.bool false]:List Value)) 263]):=H
  refine A3 (GR (C':=([(((F e6.of).getD D3).data).v,.bool (((F e6.of).getD D3).hit)]:List Value)) H (i:=2) rfl rfl rfl QD (by first|(simp[V8,Value.oneCell',Sl.v,Gl.v,uX,uY];done)|(simp only[uX,uS,List.all_nil,uY];simp[Value.oneCell',Function.comp_def])) (by rfl) (by rfl) (fun w H=>?_));replace H:Hp _ w _ ([_,_,.blk b10 (([(((F e6.of).getD D3).data).v,.bool (((F e6.of).getD D3).hit)]:List Value)) 263]):=H
  refine aZ ?_;refine eN ?_
  refine rG ?_;refine B8 ?_;refine lV (zW rfl) ?_;refine eN ?_
  have hc110:=IU ((F e6.of).isSome)
  rcases hc110 with hc11|hc11
  ·
   repeat refine D9 ?_
   refine cG (by exact congrArg Value.bool (congrArg not hc11)) ?_;refine M5 ?_;refine rG ?_;refine lV (D1 (a:=(i:Int)) (b:=1) rfl rfl (fun _=>Z8 zO zO)) ?_;refine B8 ?_;refine eN ?_
   refine U7 (i+1,M,c,F) ?_ ?_ ?_
   ·exact⟨rfl,rfl,rfl,rfl,show VI ((i:Int)+1)=VI ((i+1:Nat):Int) from congrArg VI zO,zT⟩
   ·refine⟨?_,?_⟩
    ·try dsimp only
     exact⟨zO,hF,hM,by rw[NV rP,hFd]at *;exact Ux hc11⟩
    exact H.sub (.cons_cons _ (P6 _))
   show g.len-(i+1:Nat)<g.len-i;omega
  
  repeat refine D9 ?_
  refine cE (by exact congrArg Value.bool (congrArg not hc11)) ?_;refine rG ?_;refine B8 ?_;refine lV (eO rfl PW) ?_;refine lV (NE H (i:=1) rfl rfl aU (show Cut3 ((e6.of.1).map V8++(([e6.data.v]:List Value))) (([]:List Value)) ((e6.of.1).map V8) (([e6.data.v]:List Value)) 0 32 from⟨(show(e6.of.1).map V8++(([e6.data.v]:List Value))=([]:List Value)++(((e6.of.1).map V8)++(([e6.data.v]:List Value))) from by simp only[H8,t6,Y4]),(by rfl),(by simp only[C9,J4,I4,S1,(show(e6.of.1).length=32 from e6.of.2)])⟩)) ?_;refine lV (eO rfl Dz) ?_;refine lV (ND (v:=e6.data.v) H (i:=1) rfl rfl DV (show Cut3 ((e6.of.1).map V8++(([e6.data.v]:List Value))) ((e6.of.1).map V8) (([e6.data.v]:List Value)) (([]:List Value)) 32 1 from⟨(show(e6.of.1).map V8++(([e6.data.v]:List Value))=((e6.of.1).map V8)++((([e6.data.v]:List Value))++(([]:List Value))) from by simp only[H8,t6,Y4]),(by simp only[C9,J4,I4,S1,(show(e6.of.1).length=32 from e6.of.2)]),(by rfl)⟩)) ?_;refine lV (Rx (Z:=([.slice none 0 0,.bool false]:List Value)) (E:=([e6.data.v,.bool false]:List Value)) (pv:=[(0,e6.data.v)]) Ei rfl rfl (.cons (A:=([]:List Value)) (B:=([.slice none 0 0]:List Value)) (D:=([.bool false]:List Value)) (V:=([e6.data.v]:List Value)) (a:=0) (b:=1) rfl (show Cut3 (([.slice none 0 0,.bool false]:List Value)) (([]:List Value)) (([.slice none 0 0]:List Value)) (([.bool false]:List Value)) 0 1 from⟨(show([.slice none 0 0,.bool false]:List Value)=([]:List Value)++((([.slice none 0 0]:List Value))++(([.bool false]:List Value))) from by simp only[H8,t6,Y4]),(by rfl),(by rfl)⟩) (by rfl) (by rfl) ((show([e6.data.v,.bool false]:List Value)=([]:List Value)++((([e6.data.v]:List Value))++(([.bool false]:List Value))) from by simp only[H8,t6,Y4])▸.nil _))) ?_;refine A3 (XJ (kv:=kA) (k:=e6.of) (v:=g7 (⟨e6.data,false⟩:RO)) H (i:=0) rfl Tryz.underlying242 BV rfl rfl rfl (fun w H=>?_));replace H:Hp _ w _ ([.obj b1 (B7 kA (K4 e6.of (g7 (⟨e6.data,false⟩:RO)) c M) (f8 M e6.of c)),_,_]):=H
  refine eN ?_
  refine rG ?_;refine lV (D1 (a:=(i:Int)) (b:=1) rfl rfl (fun _=>Z8 zO zO)) ?_;refine B8 ?_;refine eN ?_
  refine U7 (i+1,K4 e6.of (g7 (⟨e6.data,false⟩:RO)) c M,f8 M e6.of c,bG F e6.of (⟨e6.data,false⟩:RO)) ?_ ?_ ?_
  ·exact⟨rfl,rfl,rfl,rfl,show VI ((i:Int)+1)=VI ((i+1:Nat):Int) from congrArg VI zO,zT⟩
  ·refine⟨?_,?_⟩
   ·try dsimp only
    exact⟨zO,(hF.put e6.of (⟨e6.data,false⟩:RO) c),(hM.put e6.of (g7 (⟨e6.data,false⟩:RO))),by rw[NV rP,hFd]at *;exact Uw hc11⟩
   exact H.sub (.cons_cons _ (P6 _))
  show g.len-(i+1:Nat)<g.len-i;omega
 
 repeat refine D9 ?_
 refine cG (by exact bF U5) ?_;refine W8 ?_;refine rG ?_;refine B8 ?_;refine A3 (N3 Tryz.func196 rfl rfl rfl (Vb _ r (hr.up H) (by (try dsimp only);omega)) ?_);rintro _ w ⟨a12,c13,rfl,Hc⟩
 replace H:Hp _ w _ ([_,.own a12 r.l.length c13 ((r.l).flatMap C1) 34 32]):=H.call Hc
 clear Hc
 refine aZ ?_;refine eN ?_
 refine qB ?_;repeat refine D9 ?_
 refine Rp (fun(t:List A6) (M:List (A6×Value×Nat)) (c:Nat) (F:A6->Option RO) (a:Option Nat) (k:Nat)=>[(5,.map (some b1)),(10,.slice (hd a) t.length k)])
  (fun(t:List A6) (M:List (A6×Value×Nat)) (c:Nat) (F:A6->Option RO) (a:Option Nat) (k:Nat) w=>(MIs g7 M F/\MOk M c/\FD g.l F/\t.length+64*unh g.l F<=r.len+64*g.len)/\Hp w0 w [] ([.obj b1 (B7 kA M c),.own a t.length k ((t).flatMap C1) 34 32]))
  (fun(t:List A6) (M:List (A6×Value×Nat)) (c:Nat) (F:A6->Option RO) (a:Option Nat) (k:Nat)=>65*unh g.l F+t.length) r.l M c F a12 c13 ⟨rfl,rfl,zT⟩ ⟨⟨hF,hM,by rw[hFd,W0 zO];exact FD.start,by have:=List.length_filter_le (dW F) g.l;rw[hr.ln];simp only[unh];omega⟩,(H.sub (.cons_cons _ (.cons_cons _ (P6 _))))⟩ ?_
 clear H
 rintro t M c F a k τ w ⟨⟨hF,hM,wE,htb⟩,H⟩
 have hFd:=fun k=>Uy wE ho k
 refine rG ?_;refine B8 ?_;refine lV (z6 zZ rfl) ?_;refine lV (D1 (a:=(t.length:Int)) (b:=0) rfl rfl (fun _=>zM)) ?_;refine eN ?_
 by_cases hc14:0<(t.length:Int)
 ·
  repeat refine D9 ?_
  refine cE (by exact bT hc14) ?_;refine M5 ?_;refine qB ?_;refine rG ?_;refine B8 ?_;refine B8 ?_;refine lV (z6 zZ rfl) ?_;refine lV (D1 (a:=(t.length:Int)) (b:=1) rfl rfl (fun _=>fX zO zO)) ?_;have ah16:=H.ownAddr (i:=1) rfl zO
  obtain⟨ab15,ah16⟩:=ah16
  refine lV (kU (((t.length:Int)-1).toNat) rfl rfl zZ ah16 zO (by (try simp only[Sl.cut]);omega)) ?_;have he18:∃c,(t)[((t.length:Int)-1).toNat]? =some c:=⟨_,B6 (by have:=((H.glOwn (i:=1) rfl (by decide) (fun c _=>aD c))).ln;(try dsimp only at this ⊢);omega)⟩
  obtain⟨C6,he18⟩:=he18
  have hez19:=((H.glOwn (i:=1) rfl (by decide) (fun c _=>aD c))).sz C6 (E2 he18)
  refine lV (NA (s:=(⟨hd a,t.length,k,t⟩:Gl A6)) (k:=((t.length:Int)-1).toNat) (H.glOwn (i:=1) rfl (by decide) (fun c _=>aD c)) ah16 rfl aU (by decide) he18) ?_;refine A3 (W9 H aV (fun oE w H hb20=>?_));replace H:Hp _ w _ ([_,_,.blk oE ((replicate 32 (0:UInt8)).map V8) 34]):=H
  refine A3 (mX (l':=C6.1) H (i:=2) rfl rfl rfl iX (show(replicate 32 (0:UInt8)).length=32 from(jR ..)) (show(C6.1).length=32 from C6.2) (fun w H=>?_));replace H:Hp _ w _ ([_,_,.blk oE ((C6.1).map V8) 34]):=H
  refine eN ?_
  have fT:=Va he18
  have htl:(t.take (t.length-1)).length=t.length-1:=by rw[F6];omega
  refine rG ?_;refine B8 ?_;refine B8 ?_;refine lV (z6 zZ rfl) ?_;refine lV (D1 (a:=(t.length:Int)) (b:=1) rfl rfl (fun _=>fX zO zO)) ?_;have hol21:=(H.ownLen (i:=1) rfl).2.1
  refine lV (Pt (h:=(t.take (t.length-1)).length) (m:=k) (hv:=some (VI ((t.length:Int)-1))) rfl zZ rfl rfl rfl (fun w=>by exact Pu (t.take (t.length-1)).length zO zO w)) ?_;refine aZ ?_;refine eN ?_
  have Hs:=H.shrink (i:=1) (t.length-1) rfl aD zO
  replace H:Hp w0 w [] [.obj b1 (B7 kA M c),.own a ((t.take (t.length-1)).length) k ((t.take (t.length-1)).flatMap C1) 34 32,.blk oE ((C6.1).map V8) 34]:=by rw[htl];exact Hs
  clear Hs
  replace H:Hp _ w _ ([_,.own a ((t.take (t.length-1)).length) k ((t.take (t.length-1)).flatMap C1) 34 32,_]):=H
  refine rG ?_;refine B8 ?_;refine lV (tW (l:=C6.1) H (i:=2) rfl rfl aU (show(C6.1).length=32 from C6.2)) ?_;refine lV (XK (k:=C6) D3 hF H (i:=0) rfl Tryz.underlying242 BV NU rfl rfl) ?_;refine B8 ?_;refine lV (cJ rfl rfl) ?_;refine lV (cJ rfl rfl) ?_;refine A3 (W9 H JX (fun oF w H hb22=>?_));replace H:Hp _ w _ ([_,_,_,.blk oF (([.slice none 0 0,.bool false]:List Value)) 263]):=H
  refine A3 (GR (C':=([(((F C6).getD D3).data).v,.bool (((F C6).getD D3).hit)]:List Value)) H (i:=3) rfl rfl rfl QD (by first|(simp[V8,Value.oneCell',Sl.v,Gl.v,uX,uY];done)|(simp only[uX,uS,List.all_nil,uY];simp[Value.oneCell',Function.comp_def])) (by rfl) (by rfl) (fun w H=>?_));replace H:Hp _ w _ ([_,_,_,.blk oF (([(((F C6).getD D3).data).v,.bool (((F C6).getD D3).hit)]:List Value)) 263]):=H
  refine aZ ?_;refine eN ?_
  refine rG ?_;refine B8 ?_;refine lV (zW rfl) ?_;refine B8 ?_;have hc230:=IU ((F C6).isSome)
  rcases hc230 with hc23|hc23
  ·
   refine cD rfl rfl (by exact congrArg Value.bool (congrArg not hc23)) (G4 (eO rfl QE) ?_);refine cD rfl rfl (by exact congrArg Value.bool (congrArg not hc23)) (G4 (ND (v:=.bool (((F C6).getD D3).hit)) H (i:=3) rfl rfl DT (show Cut3 (([(((F C6).getD D3).data).v,.bool (((F C6).getD D3).hit)]:List Value)) (([(((F C6).getD D3).data).v]:List Value)) (([.bool (((F C6).getD D3).hit)]:List Value)) (([]:List Value)) 1 1 from⟨(show([(((F C6).getD D3).data).v,.bool (((F C6).getD D3).hit)]:List Value)=([(((F C6).getD D3).data).v]:List Value)++((([.bool (((F C6).getD D3).hit)]:List Value))++(([]:List Value))) from by simp only[H8,t6,Y4]),(by rfl),(by rfl)⟩)) ?_);refine lV (wM (b:=false) (congrArg Value.bool (congrArg not hc23))) ?_;refine eN ?_
   have hc240:=IU (((F C6).getD D3).hit)
   rcases hc240 with hc24|hc24
   ·
    repeat refine D9 ?_
    refine cE (by exact congrArg Value.bool hc24) ?_;refine W8 ?_;refine U7 (t.take (t.length-1),M,c,F,a,k) ?_ ?_ ?_
    ·exact⟨rfl,rfl,zT⟩
    ·refine⟨?_,?_⟩
     ·try dsimp only
      exact⟨hF,hM,wE,by rw[F6];omega⟩
     exact H.sub (.cons_cons _ (.cons_cons _ (P6 _)))
    show 65*unh g.l F+(t.take (t.length-1)).length<65*unh g.l F+t.length;rw[F6];omega
   
   repeat refine D9 ?_
   refine cG (by exact congrArg Value.bool hc24) ?_;refine M5 ?_;refine rG ?_;refine lV (eO rfl QE) ?_;refine A3 (Rz (u:=.bool true) H (i:=3) rfl rfl rfl Dn rfl (show Cut3 (([(((F C6).getD D3).data).v,.bool (((F C6).getD D3).hit)]:List Value)) (([(((F C6).getD D3).data).v]:List Value)) (([.bool (((F C6).getD D3).hit)]:List Value)) (([]:List Value)) 1 1 from⟨(show([(((F C6).getD D3).data).v,.bool (((F C6).getD D3).hit)]:List Value)=([(((F C6).getD D3).data).v]:List Value)++((([.bool (((F C6).getD D3).hit)]:List Value))++(([]:List Value))) from by simp only[H8,t6,Y4]),(by rfl),(by rfl)⟩) (fun w H=>?_))
   rw[show([(((F C6).getD D3).data).v]:List Value)++(([.bool true]:List Value)++(([]:List Value)))=([(((F C6).getD D3).data).v,.bool true]:List Value) from by simp only[H8,t6,Y4]]at H
   replace H:Hp _ w _ ([_,_,_,.blk oF (([(((F C6).getD D3).data).v,.bool true]:List Value)) 263]):=H
   refine eN ?_
   refine rG ?_;refine B8 ?_;refine lV (tW (l:=C6.1) H (i:=2) rfl rfl aU (show(C6.1).length=32 from C6.2)) ?_;refine lV (VJ (C:=([(((F C6).getD D3).data).v,.bool true]:List Value)) H (i:=3) rfl rfl Ef (by rfl)) ?_;refine A3 (XJ (kv:=kA) (k:=C6) (v:=g7 (⟨(((F C6).getD D3).data),true⟩:RO)) H (i:=0) rfl Tryz.underlying242 BV rfl rfl rfl (fun w H=>?_));replace H:Hp _ w _ ([.obj b1 (B7 kA (K4 C6 (g7 (⟨(((F C6).getD D3).data),true⟩:RO)) c M) (f8 M C6 c)),_,_,_]):=H
   refine eN ?_
   refine rG ?_;refine lV (eO rfl Eg) ?_;refine lV (ND (v:=(((F C6).getD D3).data).v) H (i:=3) rfl rfl DV (show Cut3 (([(((F C6).getD D3).data).v,.bool true]:List Value)) (([]:List Value)) (([(((F C6).getD D3).data).v]:List Value)) (([.bool true]:List Value)) 0 1 from⟨(show([(((F C6).getD D3).data).v,.bool true]:List Value)=([]:List Value)++((([(((F C6).getD D3).data).v]:List Value))++(([.bool true]:List Value))) from by simp only[H8,t6,Y4]),(by rfl),(by rfl)⟩)) ?_;refine A3 (N3 Tryz.func186 rfl rfl rfl (Uz hT wE hc23 H) ?_);rintro _ w ⟨I25,e26,T27,rfl,hIn28,hIl29,hIo30,Hc⟩
   replace H:Hp _ w _ (Ch.obj b1 (B7 kA (K4 C6 (g7 (⟨(((F C6).getD D3).data),true⟩:RO)) c M) (f8 M C6 c))::Ch.own a ((t.take (t.length-1)).length) k ((t.take (t.length-1)).flatMap C1) 34 32::Ch.blk oE ((C6.1).map V8) 34::Ch.blk oF (([(((F C6).getD D3).data).v,.bool true]:List Value)) 263::T27):=H.call Hc
   clear Hc
   refine B8 ?_;refine lV (cJ rfl rfl) ?_;refine lV (cJ rfl rfl) ?_;refine aZ ?_;refine aZ ?_;refine eN ?_
   refine rG ?_;refine B8 ?_;refine lV (z6 PT rfl) ?_;refine B8 ?_;refine eN ?_
   refine qB ?_;repeat refine D9 ?_
   refine VR (fun(j:Nat) (u:List A6) (a2:Option Nat) (k2:Nat)=>[(5,.map (some b1)),(10,.slice (hd a2) u.length k2),(79,I25.v),(80,VI (I25.len:Int)),(81,VI (j:Int))])
    (fun(j:Nat) (u:List A6) (a2:Option Nat) (k2:Nat) w=>(j<=I25.len/\u.length=t.length-1+j)/\Hp w0 w [] (Ch.obj b1 (B7 kA (K4 C6 (g7 (⟨(((F C6).getD D3).data),true⟩:RO)) c M) (f8 M C6 c))::Ch.own a2 u.length k2 ((u).flatMap C1) 34 32::Ch.blk oE ((C6.1).map V8) 34::Ch.blk oF (([(((F C6).getD D3).data).v,.bool true]:List Value)) 263::T27))
    (fun(j:Nat) (u:List A6) (a2:Option Nat) (k2:Nat)=>I25.len-j) 0 (t.take (t.length-1)) a k ⟨rfl,rfl,rfl,rfl,rfl,zT⟩ ⟨⟨L8 _,by rw[F6];omega⟩,H⟩ ?_
   clear H
   rintro j u a2 k2 τ w ⟨⟨hj,hu⟩,H⟩
   refine rG ?_;refine lV (D1 (a:=(j:Int)) (b:=(I25.len:Int)) rfl rfl (fun _=>y8)) ?_;refine eN ?_
   by_cases hc31:(j:Int)<(I25.len:Int)
   ·
    repeat refine D9 ?_
    refine cE (by exact bT hc31) ?_;refine M5 ?_;refine qB ?_;refine rG ?_;have ah34:=((HP hIo30 H)).addr (by decide) (by first|omega|(dsimp only;omega))
    obtain⟨ab32,ao33,ah34⟩:=ah34
    refine lV (kU j rfl rfl PT ah34 zO (by (try simp only[Sl.cut]);omega)) ?_;have he36:∃c,I25.l[j]? =some c:=⟨_,B6 (by have:=((HP hIo30 H)).ln;(try dsimp only at this ⊢);omega)⟩
    obtain⟨I5,he36⟩:=he36
    have hez37:=((HP hIo30 H)).sz I5 (E2 he36)
    refine lV (NA (s:=I25) (k:=j) (HP hIo30 H) ah34 rfl Dq (by decide) he36) ?_;refine A3 (W9 H Ds (fun b38 w H hb38=>?_));replace H:=H.rot
    replace H:Hp _ w _ (Ch.blk b38 (([.string ⟨(([]:List UInt8)).toArray⟩,VI 0]:List Value)++((replicate 32 (0:UInt8)).map V8++(([VI 0]:List Value)))) 157::Ch.obj b1 (B7 kA (K4 C6 (g7 (⟨(((F C6).getD D3).data),true⟩:RO)) c M) (f8 M C6 c))::Ch.own a2 u.length k2 ((u).flatMap C1) 34 32::Ch.blk oE ((C6.1).map V8) 34::Ch.blk oF (([(((F C6).getD D3).data).v,.bool true]:List Value)) 263::T27):=H
    refine A3 (GR (C':=([.string ⟨(I5.name).toArray⟩,VI I5.kind]:List Value)++((I5.of.1).map V8++(([VI I5.size]:List Value)))) H (i:=0) rfl rfl rfl Dr (by first|(simp[V8,Value.oneCell',Sl.v,Gl.v,uX,uY];done)|(simp only[uX,uS,List.all_nil,uY];simp[Value.oneCell',Function.comp_def])) (by simp only[C9,J4,I4,S1,(show(replicate 32 (0:UInt8)).length=32 from(jR ..))]) (by simp only[C9,J4,I4,S1,(show(I5.of.1).length=32 from I5.of.2)]) (fun w H=>?_));replace H:Hp _ w _ (Ch.blk b38 (([.string ⟨(I5.name).toArray⟩,VI I5.kind]:List Value)++((I5.of.1).map V8++(([VI I5.size]:List Value)))) 157::Ch.obj b1 (B7 kA (K4 C6 (g7 (⟨(((F C6).getD D3).data),true⟩:RO)) c M) (f8 M C6 c))::Ch.own a2 u.length k2 ((u).flatMap C1) 34 32::Ch.blk oE ((C6.1).map V8) 34::Ch.blk oF (([(((F C6).getD D3).data).v,.bool true]:List Value)) 263::T27):=H
    refine eN ?_
    refine rG ?_;refine B8 ?_;refine lV (eO rfl Dt) ?_;refine lV (NE H (i:=0) rfl rfl aU (show Cut3 (([.string ⟨(I5.name).toArray⟩,VI I5.kind]:List Value)++((I5.of.1).map V8++(([VI I5.size]:List Value)))) (([.string ⟨(I5.name).toArray⟩,VI I5.kind]:List Value)) ((I5.of.1).map V8) (([VI I5.size]:List Value)) 2 32 from⟨(show([.string ⟨(I5.name).toArray⟩,VI I5.kind]:List Value)++((I5.of.1).map V8++(([VI I5.size]:List Value)))=([.string ⟨(I5.name).toArray⟩,VI I5.kind]:List Value)++(((I5.of.1).map V8)++(([VI I5.size]:List Value))) from by simp only[H8,t6,Y4]),(by rfl),(by simp only[C9,J4,I4,S1,(show(I5.of.1).length=32 from I5.of.2)])⟩)) ?_;refine A3 (NB (enc:=C1) (I5.of) H oT aV (by rfl) (by decide) (by decide) rfl (aD _) (fun b39 w H hb39=>?_));replace H:=H.rot
    replace H:Hp _ w _ (Ch.own (some b39) 1 1 (([I5.of]).flatMap C1) 34 32::Ch.blk b38 (([.string ⟨(I5.name).toArray⟩,VI I5.kind]:List Value)++((I5.of.1).map V8++(([VI I5.size]:List Value)))) 157::Ch.obj b1 (B7 kA (K4 C6 (g7 (⟨(((F C6).getD D3).data),true⟩:RO)) c M) (f8 M C6 c))::Ch.own a2 u.length k2 ((u).flatMap C1) 34 32::Ch.blk oE ((C6.1).map V8) 34::Ch.blk oF (([(((F C6).getD D3).data).v,.bool true]:List Value)) 263::T27):=H
    have hu1:(u++([I5.of])).length=u.length+1:=by rw[C9];rfl
    refine A3 (GS (enc:=C1) (s:=⟨hd (some b39),1,1,[I5.of]⟩) (l':=u++([I5.of])) (len':=(u++([I5.of])).length) rfl (by rw[C9];rfl) H (i:=3) rfl oT Tryz.underlying182 rfl rfl (H.glOwn (i:=0) rfl (by decide) (fun c _=>aD c)) (by decide) (fun c _=>uG c) zO (by decide) (fun a40 c41 w H=>?_));replace H:Hp _ w _ (Ch.own (some b39) 1 1 (([I5.of]).flatMap C1) 34 32::Ch.blk b38 (([.string ⟨(I5.name).toArray⟩,VI I5.kind]:List Value)++((I5.of.1).map V8++(([VI I5.size]:List Value)))) 157::Ch.obj b1 (B7 kA (K4 C6 (g7 (⟨(((F C6).getD D3).data),true⟩:RO)) c M) (f8 M C6 c))::Ch.own a40 ((u++([I5.of])).length) c41 ((u++([I5.of])).flatMap C1) 34 32::Ch.blk oE ((C6.1).map V8) 34::Ch.blk oF (([(((F C6).getD D3).data).v,.bool true]:List Value)) 263::T27):=H
    refine aZ ?_;refine eN ?_
    refine rG ?_;refine lV (D1 (a:=(j:Int)) (b:=1) rfl rfl (fun _=>Z8 zO zO)) ?_;refine B8 ?_;refine eN ?_
    refine U7 (j+1,u++([I5.of]),a40,c41) ?_ ?_ ?_
    ·exact⟨rfl,rfl,rfl,rfl,show VI ((j:Int)+1)=VI ((j+1:Nat):Int) from congrArg VI zO,zT⟩
    ·refine⟨?_,?_⟩
     ·try dsimp only
      exact⟨zO,by rw[C9];simp only[I4,S1];omega⟩
     exact H.sub (.cons _ (.cons _ (.cons_cons _ (.cons_cons _ (.cons_cons _ (.cons_cons _ (qM _)))))))
    show I25.len-(j+1:Nat)<I25.len-j;omega
   
   repeat refine D9 ?_
   refine cG (by exact bF hc31) ?_;refine W8 ?_;have hfx:=ZO hc23
   have lS:=Tw wE hfx hc24
   refine U7 (u,K4 C6 (g7 (⟨(((F C6).getD D3).data),true⟩:RO)) c M,f8 M C6 c,bG F C6 (⟨(((F C6).getD D3).data),true⟩:RO),a2,k2) ?_ ?_ ?_
   ·exact⟨rfl,rfl,zT⟩
   ·refine⟨?_,?_⟩
    ·try dsimp only
     exact⟨(hF.put C6 (⟨(((F C6).getD D3).data),true⟩:RO) c),(hM.put C6 (g7 (⟨(((F C6).getD D3).data),true⟩:RO))),wE.hit hfx,zO⟩
    exact H.sub (.cons_cons _ (.cons_cons _ (P6 _)))
   show 65*unh g.l (bG F C6 (⟨(((F C6).getD D3).data),true⟩:RO))+u.length<65*unh g.l F+t.length;omega
  
  refine oH rfl rfl (by exact congrArg Value.bool (congrArg not hc23)) rfl ?_;refine oH rfl rfl (by exact congrArg Value.bool (congrArg not hc23)) rfl ?_;refine lV (wM (b:=true) (congrArg Value.bool (congrArg not hc23))) ?_;refine eN ?_
  refine qY ?_;refine W8 ?_;refine U7 (t.take (t.length-1),M,c,F,a,k) ?_ ?_ ?_
  ·exact⟨rfl,rfl,zT⟩
  ·refine⟨?_,?_⟩
   ·try dsimp only
    exact⟨hF,hM,wE,by rw[F6];omega⟩
   exact H.sub (.cons_cons _ (.cons_cons _ (P6 _)))
  show 65*unh g.l F+(t.take (t.length-1)).length<65*unh g.l F+t.length;rw[F6];omega
 
 repeat refine D9 ?_
 refine cG (by exact bF hc14) ?_;refine W8 ?_;refine rG ?_;refine B8 ?_;refine aZ ?_;refine eN ?_
 refine l9 ?_
 refine w4 (v:=.map (some b1)) Tryz.results173 rfl ?_
 refine⟨_,rfl,?_⟩
 have rE:t=[]:=List.eq_nil_of_length_eq_zero zO
 subst rE
 exact⟨_,M,c,F,rfl,hF,hM,wE,H.sub (.cons_cons _ (P6 _))⟩
section
variable {P:Program} {n:Nat} {σ:Nat->Value} {w:World} {ty:TypeId} {pos:String} {aft:Array Edge} {g:Option (Nat×Bool)} {d:Nat} {t:TypeId} {x:Operand}
theorem Vc{f:FuncId}{xs:Array Operand}(hx:rZ n σ xs.toList=vs):(execOp (ev n σ) ⟨some d,.makeFunc (.func f) #[] xs,ty,pos,aft,g⟩).run P w=.ok (.value (.func (.func f) #[] vs.toArray)) w:=by
 have h:xs.map (ev n σ)=vs.toArray:=by apply U1;rw[<-hx,zJ];simp
 simp[execOp,h,Instr.makeFunc]
end
def F0(F:A6->Option RO)(r:Bool)(k:A6):Bool:=((F k).getD D3).hit==r
def RisA(l:List A6):Prop:=l.Pairwise fun x y=>x.1<y.1
theorem ZQ{l:List A6}(hn:l.Nodup):RisA (sortA l)/\∀x,x∈sortA l↔x∈l:=by
 have hp:(sortA l).Perm l:=List.mergeSort_perm _ _
 refine⟨?_,fun x=>hp.mem_iff⟩
 have B1:∀x y:A6,(!(decide (cV y x<0)))=true↔¬ y.1<x.1:=fun x y=>by
  rw[lG,decide_eq_false_iff_not]
  exact not_congr (NS _ _)
 have hs:(sortA l).Pairwise fun x y=>(!(decide (cV y x<0)))=true:=List.pairwise_mergeSort (fun x y z h1 h2=>by
   rw[B1] at*
   exact nG.2 (List.le_trans (nG.1 h1) (nG.1 h2))) (fun x y=>by
   rw[CU,B1,B1]
   by_cases h:y.1<x.1
   ·right;intro h2;exact YZ _ (ZB h h2)
   exact .inl h) l
 have iB:(sortA l).Nodup:=hp.nodup_iff.2 hn
 refine(List.pairwise_and_iff.2 ⟨hs,iB⟩).imp fun {x y} h=>?_
 obtain⟨h1,h2⟩:=h
 rw[B1]at h1
 exact Decidable.byContradiction fun h3=>h2 (Subtype.ext (ZA h3 h1))
theorem ZR(F:A6->Option RO)(r:Bool)(A4:List A6)(k:A6):(A4++[k]).filter (F0 F r)=A4.filter (F0 F r)++(if F0 F r k then [k] else []):=by
 rw[List.filter_append];congr 1
 by_cases h:F0 F r k=true
 ·rw[if_pos h,OY h];rfl
 rw[if_neg h,OX h];rfl
def NW(F:A6->Option RO)(r:Bool)(R:List A6):Prop:=RisA R/\∀k,k∈R↔∃v,F k=some v/\v.hit=r
theorem Vd{F:A6->Option RO}{r:Bool}{A4:List A6}(hn:A4.Nodup)(hv:∀k,k∈A4↔(F k).isSome=true):NW F r (sortA (A4.filter (F0 F r))):=by
 obtain⟨h1,h2⟩:=ZQ (hn.filter (F0 F r))
 refine⟨h1,fun k=>?_⟩
 rw[h2,zD,hv]
 constructor
 ·rintro⟨h3,h4⟩
  exact⟨_,ZO h3,by simpa [F0] using h4⟩
 rintro⟨v,h3,h4⟩
 exact⟨by rw[h3];rfl,by rw[F0,h3];simp[h4]⟩
theorem HQ(l:List A6):(sortA l).length=l.length:=List.length_mergeSort _
theorem Ve(w0:World)(b:Nat):
  Ret Tryz.prog 194 [.map (some b)] w0 fun v w'=>∃bb,v=.func (.func 216) #[] #[.pointer (some ⟨bb,0,none⟩)]/\Hp w0 w' [] [.blk bb [.map (some b)] 242]:=by
 refine T5 Tryz.func194 rfl Tryz.ntmps194 (by simp) ?_
 have H:=Hp.refl w0 []
 refine rG ?_;refine A3 (zS (v:=.map (some b)) H rfl (fun b1 w H N6=>?_));replace H:Hp _ w _ ([.blk b1 ([.map (some b)]) 242]):=H
 refine aZ ?_;refine eN ?_
 refine rG ?_;refine lV (Vc (vs:=[.pointer (some ⟨b1,0,none⟩)]) rfl) ?_;refine aZ ?_;refine eN ?_
 refine l9 ?_
 refine w4 (v:=.func (.func 216) #[] #[.pointer (some ⟨b1,0,none⟩)]) Tryz.results194 rfl ?_
 refine⟨_,rfl,?_⟩
 exact⟨_,rfl,H⟩
theorem ZS(w0:World)(b c:Nat)(M:List (A6×Value×Nat))(F:A6->Option RO)(r:Bool)(hF:MIs g7 M F)(hM:MOk M c)(hdb:(Ch.obj b (B7 kA M c)).ok w0)(mA:∀l:List A6,l.Nodup->(∀j∈l,(F j).isSome=true)->l.length<=65536):
 Ret Tryz.prog 172 [.map (some b),.bool r] w0 fun v w'=>∃a k R,NW F r R/\v=.slice (hd a) R.length k/\Hp w0 w' [b] [.obj b (B7 kA M c),.own a R.length k (R.flatMap C1) 34 32]:=by
 refine ZK Tryz.func172 rfl Tryz.ntmps172 (by simp) ?_
 have H:=Hp.start w0 (.obj b (B7 kA M c)) b hdb rfl
 refine rG ?_;refine A3 (zS (v:=.map (some b)) H rfl (fun b1 w H N6=>?_));replace H:Hp _ w _ ([.obj b (B7 kA M c),.blk b1 ([.map (some b)]) 242]):=H
 refine A3 (zS (v:=.bool r) H rfl (fun b2 w H S2=>?_));replace H:Hp _ w _ ([_,_,.blk b2 ([.bool r]) 4]):=H
 refine aZ ?_;refine eN ?_
 refine rG ?_;refine A3 (W9 H Du (fun b3 w H x8=>?_));replace H:Hp _ w _ ([_,_,_,.blk b3 ([.slice none 0 0]) 182]):=H
 refine eN ?_
 refine rG ?_;refine lV (Q5 H (i:=1) rfl rfl JW rfl) ?_;refine A3 (N3 Tryz.func194 rfl rfl rfl (Ve _ b) ?_);rintro _ w ⟨eK,rfl,Hc⟩
 replace H:Hp _ w _ ([_,_,_,_,.blk eK ([.map (some b)]) 242]):=H.call Hc
 clear Hc
 refine eN ?_
 refine qB ?_;replace H:=H.nilEnd 34 32
 refine ZN (FX:=[.blk eK ([.map (some b)]) 242,.obj b (B7 kA M c)]) (Got:=fun kk aa=>F kk=some aa) (All:=fun A4=>A4.Nodup/\∀j,j∈A4↔(F j).isSome=true) (I:=fun(A4:List A6) (x:List A6×Option Nat×Nat)=>match x with|(A9,a,k)=>A9=A4/\A9.Nodup/\(∀j∈A9,(F j).isSome=true)) (x0:=([],none,0)) (itC:=fun it A4=>Ch.obj it (T8 b M c A4)) (kv:=kA) Tryz.func216 rfl rfl (fun Lv l w1 H1 hY=>(Uo hM hF Lv (fun(A4:List A6) (x:List A6×Option Nat×Nat)=>match x with|(A9,a,k)=>A9=A4/\A9.Nodup/\(∀j∈A9,(F j).isSome=true)) ([],none,0) ⟨rfl,List.nodup_nil,fun _ h=>(by cases h)⟩ H1 (fun it A4 x kk aa W hI hf hk _ _ HW=>hY it A4 x kk aa W hI hf hk HW)).mono (fun _ _ ⟨A4,x,h1,h2,h3,h4⟩=>⟨A4,x,h1,⟨h2,h3⟩,h4⟩)) rfl (fun x:List A6×Option Nat×Nat=>match x with|(A9,a,k)=>[.blk b3 ([.slice (hd a) ((A9.filter (F0 F r)).length) k]) 182,.own a ((A9.filter (F0 F r)).length) k ((A9.filter (F0 F r)).flatMap C1) 34 32,.blk b2 ([.bool r]) 4,.blk b1 ([.map (some b)]) 242]) (H.permL ((yH (j:=4) rfl).trans (.cons _ ((yH (j:=0) rfl).trans (.cons _ ((yH (j:=2) rfl).trans (.cons _ ((yH (j:=2) rfl).trans (.cons _ ((yH (j:=1) rfl).trans (.cons _ (.refl _)))))))))))) ?_ ?_
 ·
  rintro l T A4 x kk aa w hI hgot hk H
  obtain⟨A9,a,k⟩:=x
  replace hI:A9=A4/\A9.Nodup/\(∀j∈A9,(F j).isSome=true):=hI
  replace H:Hp w0 w [b] (Ch.blk eK ([.map (some b)]) 242::Ch.obj b (B7 kA M c)::Ch.blk b3 ([.slice (hd a) ((A9.filter (F0 F r)).length) k]) 182::Ch.own a ((A9.filter (F0 F r)).length) k ((A9.filter (F0 F r)).flatMap C1) 34 32::Ch.blk b2 ([.bool r]) 4::Ch.blk b1 ([.map (some b)]) 242::T):=H
  repeat refine wpIn_seq ?_
  refine HL (by rfl) (by rintro⟨_,_,h⟩;first|exact(show False from h)|cases (And.left h:Exit.outgrown=Exit.normal)) ?_;refine A3 (W9 H aV (fun b5 w H hb5=>?_));replace H:=H.rot
  replace H:Hp _ w _ (Ch.blk b5 ((replicate 32 (0:UInt8)).map V8) 34::Ch.blk eK ([.map (some b)]) 242::Ch.obj b (B7 kA M c)::Ch.blk b3 ([.slice (hd a) ((A9.filter (F0 F r)).length) k]) 182::Ch.own a ((A9.filter (F0 F r)).length) k ((A9.filter (F0 F r)).flatMap C1) 34 32::Ch.blk b2 ([.bool r]) 4::Ch.blk b1 ([.map (some b)]) 242::T):=H
  refine A3 (mX (l':=kk.1) H (i:=0) rfl rfl rfl iX (show(replicate 32 (0:UInt8)).length=32 from(jR ..)) (show(kk.1).length=32 from kk.2) (fun w H=>?_));replace H:Hp _ w _ (Ch.blk b5 ((kk.1).map V8) 34::Ch.blk eK ([.map (some b)]) 242::Ch.obj b (B7 kA M c)::Ch.blk b3 ([.slice (hd a) ((A9.filter (F0 F r)).length) k]) 182::Ch.own a ((A9.filter (F0 F r)).length) k ((A9.filter (F0 F r)).flatMap C1) 34 32::Ch.blk b2 ([.bool r]) 4::Ch.blk b1 ([.map (some b)]) 242::T):=H
  first|refine HM ?_|refine zL ?_
  try dsimp only[Exit.then,Exit.inBlock]
  refine⟨[.blk b5 ((kk.1).map V8) 34,.blk eK ([.map (some b)]) 242,.obj b (B7 kA M c),.blk b3 ([.slice (hd a) ((A9.filter (F0 F r)).length) k]) 182,.own a ((A9.filter (F0 F r)).length) k ((A9.filter (F0 F r)).flatMap C1) 34 32,.blk b2 ([.bool r]) 4,.blk b1 ([.map (some b)]) 242],H,?_⟩
  intro T w H
  replace H:Hp w0 w [b] (Ch.blk b5 ((kk.1).map V8) 34::Ch.blk eK ([.map (some b)]) 242::Ch.obj b (B7 kA M c)::Ch.blk b3 ([.slice (hd a) ((A9.filter (F0 F r)).length) k]) 182::Ch.own a ((A9.filter (F0 F r)).length) k ((A9.filter (F0 F r)).flatMap C1) 34 32::Ch.blk b2 ([.bool r]) 4::Ch.blk b1 ([.map (some b)]) 242::T):=H
  repeat refine wpIn_seq ?_
  refine ZL ?_;obtain⟨v7,aS,oG⟩:=hI
  subst v7
  have X9:=GU aS oG hgot hk
  have hnv:A9.length<=65536:=mA A9 aS oG
  have dD:=List.length_filter_le (F0 F r) A9
  repeat refine wpIn_seq ?_
  refine Um (fun w=>Hp w0 w [b] [.blk b5 ((kk.1).map V8) 34,.blk eK ([.map (some b)]) 242,.obj b (B7 kA M c),.blk b3 ([.slice (hd a) ((A9.filter (F0 F r)).length) k]) 182,.own a ((A9.filter (F0 F r)).length) k ((A9.filter (F0 F r)).flatMap C1) 34 32,.blk b2 ([.bool r]) 4,.blk b1 ([.map (some b)]) 242]) mixed (by rfl) (by rintro⟨_,_,h⟩;first|exact(show False from h)|cases (And.left h:Exit.outgrown=Exit.normal)) ?_;replace H:=H.drew
  have HS:=H.sub (.cons_cons _ (.cons_cons _ (.cons_cons _ (.cons_cons _ (.cons_cons _ (.cons_cons _ (.cons_cons _ (P6 _))))))))
  refine eP 0 rfl (fun w HS=>Q5 HS (i:=6) rfl rfl JW rfl) HS ?_;refine eP 1 rfl (fun w HS=>tW (l:=kk.1) HS (i:=0) rfl rfl aU (show(kk.1).length=32 from kk.2)) HS ?_;refine eP 2 rfl (fun w HS=>Ru (k:=kk) D3 hF HS (i:=2) rfl Tryz.underlying242 BV NU rfl rfl) HS ?_;refine eP 3 rfl (fun w HS=>Ry (v:=.bool (((F kk).getD D3).hit)) Tryz.underlying263 rfl DT rfl (show Cut3 (([(((F kk).getD D3).data).v,.bool (((F kk).getD D3).hit)]:List Value)) (([(((F kk).getD D3).data).v]:List Value)) (([.bool (((F kk).getD D3).hit)]:List Value)) (([]:List Value)) 1 1 from⟨(show([(((F kk).getD D3).data).v,.bool (((F kk).getD D3).hit)]:List Value)=([(((F kk).getD D3).data).v]:List Value)++((([.bool (((F kk).getD D3).hit)]:List Value))++(([]:List Value))) from by simp only[H8,t6,Y4]),(by rfl),(by rfl)⟩)) HS ?_;refine eP 4 rfl (fun w HS=>Q5 HS (i:=5) rfl rfl DT rfl) HS ?_;refine eP 5 rfl (fun w HS=>PP Tryz.underlying4 rfl rfl) HS ?_;refine PR zK ?_
  clear HS
  have hc60:=IU ((((F kk).getD D3).hit)==r)
  rcases hc60 with hc6|hc6
  ·
   repeat refine wpIn_seq ?_
   refine Ur (by exact congrArg Value.bool hc6) ?_;repeat refine wpIn_seq ?_
   refine HL (by rfl) (by rintro⟨_,_,h⟩;first|exact(show False from h)|cases (And.left h:Exit.outgrown=Exit.normal)) ?_;refine lV (Q5 H (i:=3) rfl rfl zY rfl) ?_;refine lV (tW (l:=kk.1) H (i:=0) rfl rfl aU (show(kk.1).length=32 from kk.2)) ?_;refine A3 (NB (enc:=C1) (kk) H oT aV (by rfl) (by decide) (by decide) rfl (aD _) (fun b7 w H hb7=>?_));replace H:=H.rot
   replace H:Hp _ w _ (Ch.own (some b7) 1 1 (([kk]).flatMap C1) 34 32::Ch.blk b5 ((kk.1).map V8) 34::Ch.blk eK ([.map (some b)]) 242::Ch.obj b (B7 kA M c)::Ch.blk b3 ([.slice (hd a) ((A9.filter (F0 F r)).length) k]) 182::Ch.own a ((A9.filter (F0 F r)).length) k ((A9.filter (F0 F r)).flatMap C1) 34 32::Ch.blk b2 ([.bool r]) 4::Ch.blk b1 ([.map (some b)]) 242::T):=H
   refine A3 (GS (enc:=C1) (s:=⟨hd (some b7),1,1,[kk]⟩) (l':=A9.filter (F0 F r)++([kk])) (len':=(A9.filter (F0 F r)).length+1) rfl rfl H (i:=5) rfl oT Tryz.underlying182 rfl rfl (H.glOwn (i:=0) rfl (by decide) (fun c _=>aD c)) (by decide) (fun c _=>uG c) zO (by decide) (fun a8 c9 w H=>?_));replace H:Hp _ w _ (Ch.own (some b7) 1 1 (([kk]).flatMap C1) 34 32::Ch.blk b5 ((kk.1).map V8) 34::Ch.blk eK ([.map (some b)]) 242::Ch.obj b (B7 kA M c)::Ch.blk b3 ([.slice (hd a) ((A9.filter (F0 F r)).length) k]) 182::Ch.own a8 ((A9.filter (F0 F r)).length+1) c9 ((A9.filter (F0 F r)++([kk])).flatMap C1) 34 32::Ch.blk b2 ([.bool r]) 4::Ch.blk b1 ([.map (some b)]) 242::T):=H
   refine A3 (oN (v:=.slice (hd a8) ((A9.filter (F0 F r)).length+1) c9) H (i:=4) rfl rfl rfl PU rfl (by first|decide|simp) (fun w H=>?_));replace H:Hp _ w _ (Ch.own (some b7) 1 1 (([kk]).flatMap C1) 34 32::Ch.blk b5 ((kk.1).map V8) 34::Ch.blk eK ([.map (some b)]) 242::Ch.obj b (B7 kA M c)::Ch.blk b3 ([.slice (hd a8) ((A9.filter (F0 F r)).length+1) c9]) 182::Ch.own a8 ((A9.filter (F0 F r)).length+1) c9 ((A9.filter (F0 F r)++([kk])).flatMap C1) 34 32::Ch.blk b2 ([.bool r]) 4::Ch.blk b1 ([.map (some b)]) 242::T):=H
   first|refine HM ?_|refine zL ?_
   try dsimp only[Exit.then,Exit.inBlock]
   have Y7:=ZR F r A9 kk
   rw[show F0 F r kk=true from by rw[F0];exact hc6]at Y7
   replace Y7:(A9++[kk]).filter (F0 F r)=A9.filter (F0 F r)++[kk]:=Y7
   have hfl2:(A9.filter (F0 F r)).length+1=((A9++[kk]).filter (F0 F r)).length:=by rw[Y7,C9];rfl
   rw[hfl2, <-Y7]at H
   exact⟨rfl,(A9++[kk],a8,c9),⟨rfl,X9.1,fun j hj=>X9.2 j hj⟩,H.sub (.cons _ (.cons _ (.cons_cons _ (.cons_cons _ (.cons_cons _ (.cons_cons _ (.cons_cons _ (.cons_cons _ (qM _)))))))))⟩
  
  repeat refine wpIn_seq ?_
  refine Us (by exact congrArg Value.bool hc6) ?_;refine Ut ?_;try dsimp only[Exit.then,Exit.inBlock]
  have Y7:=ZR F r A9 kk
  rw[show F0 F r kk=false from by rw[F0];exact hc6]at Y7
  replace Y7:(A9++[kk]).filter (F0 F r)=A9.filter (F0 F r):=by rw[Y7];simp
  rw[<-Y7]at H
  exact⟨rfl,(A9++[kk],a,k),⟨rfl,X9.1,fun j hj=>X9.2 j hj⟩,H.sub (.cons _ (.cons_cons _ (.cons_cons _ (.cons_cons _ (.cons_cons _ (.cons_cons _ (.cons_cons _ (qM _))))))))⟩
 
 rintro D A4 x w hI hA H
 obtain⟨A9,a,k⟩:=x
 replace hI:A9=A4/\A9.Nodup/\(∀j∈A9,(F j).isSome=true):=hI
 replace H:Hp w0 w [b] ([.obj D (.deferred (some [])),.blk eK ([.map (some b)]) 242,.obj b (B7 kA M c),.blk b3 ([.slice (hd a) ((A9.filter (F0 F r)).length) k]) 182,.own a ((A9.filter (F0 F r)).length) k ((A9.filter (F0 F r)).flatMap C1) 34 32,.blk b2 ([.bool r]) 4,.blk b1 ([.map (some b)]) 242]):=H
 obtain⟨v7,aS,oG⟩:=hI
 subst v7
 have hnv:A9.length<=65536:=mA A9 aS oG
 have dD:=List.length_filter_le (F0 F r) A9
 refine rG ?_;refine A3 (BX (Q5 H (i:=3) rfl rfl zY rfl) ?_);refine A3 (Up Tryz.func189 rfl rfl rfl (Ug H (i:=4) rfl rfl zO) ?_);rintro _ w ⟨rfl,Hc⟩
 clear H
 have H:=Hc;clear Hc
 replace H:Hp _ w _ ([.obj D (.deferred (some [])),.blk eK ([.map (some b)]) 242,.obj b (B7 kA M c),.blk b3 ([.slice (hd a) ((A9.filter (F0 F r)).length) k]) 182,.own a ((A9.filter (F0 F r)).length) k ((sortA (A9.filter (F0 F r))).flatMap C1) 34 32,.blk b2 ([.bool r]) 4,.blk b1 ([.map (some b)]) 242]):=H
 refine eN ?_
 refine rG ?_;refine A3 (BX (Q5 H (i:=3) rfl rfl zY rfl) ?_);refine A3 (BX (eM) ?_);refine eN ?_
 refine l9 ?_
 refine ZM (v:=.slice (hd a) ((A9.filter (F0 F r)).length) k) Tryz.results172 rfl H (i:=0) rfl ?_
 intro w H
 replace H:Hp w0 w [b] ([.blk eK ([.map (some b)]) 242,.obj b (B7 kA M c),.blk b3 ([.slice (hd a) ((A9.filter (F0 F r)).length) k]) 182,.own a ((A9.filter (F0 F r)).length) k ((sortA (A9.filter (F0 F r))).flatMap C1) 34 32,.blk b2 ([.bool r]) 4,.blk b1 ([.map (some b)]) 242]):=H
 refine⟨_,rfl,?_⟩
 refine⟨a,k,_,Vd hA.1 hA.2,?_,?_⟩
 ·rw[HQ]
 rw[HQ];exact H.sub (.cons _ (.cons_cons _ (.cons _ (.cons_cons _ (P6 _)))))
def yR(O:Go.Obj)(o:Nat)(v:Value):Prop:=∃C T fr,O=.cells C T fr/\C[o]? =some v
theorem Vf{n:Nat}{σ:Nat->Value}{ty:TypeId}{pos:String}{aft:Array Edge}{g:Option (Nat×Bool)}{d:Nat}{t:TypeId}{x:Operand}{b:Nat}{O:Go.Obj}{v:Value}(H:Hp w0 w S L)(hi:L[i]? =some (.obj b O))(hx:ev n σ x=.pointer (some ⟨b,o,none⟩))(ht:O5 P t=true)(hv:yR O o v):
  (execOp (ev n σ) ⟨some d,.load t x,ty,pos,aft,g⟩).run P w=.ok (.value v) w:=by
 obtain⟨C,T,fr,rfl,hv⟩:=hv
 have hb:w.heap[b]? =some (.cells C T fr):=H.has _ (E2 hi)
 have hc:w.cell? ⟨b,o,none⟩=some v:=by simp[World.cell?, hb,hv]
 simp[execOp,hx,sI ht hc]
theorem Vg{ι α:Type}{w1:World}{bb b l ob:Nat}{OB:Go.Obj}(hB:yR OB ob (.map (some b))){enc:α->Value}{M:List (A6×Value×Nat)}{F:A6->Option α}(hM:MOk M c)(hF:MIs enc M F)(Lv:ι->List Ch)(I:List A6->ι->Prop)(x0:ι)(h0:I [] x0)(H0:Hp w0 w1 S (Ch.obj bb OB::Ch.obj b (B7 kA M c)::Lv x0))(hY:∀(it:Nat) (A4:List A6) (x:ι) (k:A6) (a:α) (W:World),I A4 x->F k=some a->k∉A4->(∀j∈A4,(F j).isSome=true)->A4.Nodup->Hp w0 W S (Ch.obj it (T8 b M c (A4++[k]))::Ch.obj bb OB::Ch.obj b (B7 kA M c)::Lv x)->YieldAt Fence.wide 0 Tryz.prog l #[kA k] W fun e W'=>e=.returned (.bool true)/\∃x',I (A4++[k]) x'/\Hp w0 W' S (Ch.obj it (T8 b M c (A4++[k]))::Ch.obj bb OB::Ch.obj b (B7 kA M c)::Lv x')):
 Ret Tryz.prog 190 [.func (.yield l) #[] #[],.pointer (some ⟨bb,ob,none⟩)] w1 fun v w'=>∃A4 x,I A4 x/\A4.Nodup/\(∀k,k∈A4↔(F k).isSome=true)/\Hp w0 w' S (Ch.obj bb OB::Ch.obj b (B7 kA M c)::Lv x):=by
 refine T5 Tryz.func190 rfl Tryz.ntmps190 (by simp) ?_
 have H:=H0
 refine rG ?_;refine lV (Vf H (i:=0) rfl rfl Dv hB) ?_;refine A3 (XL (kv:=kA) H (i:=1) rfl Tryz.underlying202 rfl (fun b1 w H N6=>?_));replace H:=H.rot
 replace H:Hp _ w _ (Ch.obj b1 (T8 b M c ([]))::Ch.obj bb OB::Ch.obj b (B7 kA M c)::Lv x0):=H
 refine eN ?_
 refine qB ?_;repeat refine D9 ?_
 refine MO (fun(A4:List A6) (x:ι)=>[(0,.func (.yield l) #[] #[]),(5,.pointer (some ⟨b1,0,none⟩))])
  (fun(A4:List A6) (x:ι) w=>(A4.Nodup/\(∀k∈A4,(F k).isSome=true)/\I A4 x)/\Hp w0 w S (Ch.obj b1 (T8 b M c A4)::Ch.obj bb OB::Ch.obj b (B7 kA M c)::Lv x))
  (fun(A4:List A6) (x:ι)=>M.length-A4.length) ([]) x0 ⟨rfl,rfl,zT⟩ ⟨⟨List.nodup_nil,fun _ h=>(by cases h),h0⟩,H⟩ ?_
 clear H
 rintro A4 x τ w ⟨⟨aS,hv,hI⟩,H⟩
 refine rG ?_;refine A3 (XM (kv:=kA) (enc:=enc) H (i:=2) (j:=0) rfl rfl hM hF hv rfl (fun hall2 w H=>?_) (fun R5 va4 wD hkn6 w H=>?_))
 ·
  refine lV (cJ rfl rfl) ?_;refine eN ?_
  refine qN ?_;refine W8 ?_;refine eZ ?_;refine DB Tryz.results190 ?_
  refine⟨_,rfl,?_⟩
  exact⟨A4,x,hI,aS,fun k=>⟨hv k,hall2 k⟩,H.sub (.cons _ (.cons_cons _ (.cons_cons _ (qM _))))⟩
 
 replace H:Hp _ w _ (Ch.obj b1 (T8 b M c (A4++[R5]))::Ch.obj bb OB::Ch.obj b (B7 kA M c)::Lv x):=H
 refine lV (cJ rfl rfl) ?_;refine eN ?_
 refine qY ?_;refine M5 ?_;refine qB ?_;refine rG ?_;refine lV (XN (kv:=kA) (enc:=enc) H (i:=2) (j:=0) rfl rfl hM hF wD rfl) ?_;refine lV (cJ rfl rfl) ?_;refine A3 (W9 H aV (fun b7 w H hb7=>?_));replace H:=H.rot
 replace H:Hp _ w _ (Ch.blk b7 ((replicate 32 (0:UInt8)).map V8) 34::Ch.obj b1 (T8 b M c (A4++[R5]))::Ch.obj bb OB::Ch.obj b (B7 kA M c)::Lv x):=H
 refine A3 (mX (l':=R5.1) H (i:=0) rfl rfl rfl iX (show(replicate 32 (0:UInt8)).length=32 from(jR ..)) (show(R5.1).length=32 from R5.2) (fun w H=>?_));replace H:Hp _ w _ (Ch.blk b7 ((R5.1).map V8) 34::Ch.obj b1 (T8 b M c (A4++[R5]))::Ch.obj bb OB::Ch.obj b (B7 kA M c)::Lv x):=H
 refine eN ?_
 repeat refine D9 ?_
 have X9:=GU aS hv wD hkn6
 have nM:=XO hF X9.1 X9.2
 rw[C9,x4]at nM
 refine(wpIn_wide (n:=1)).1 ?_;refine wpIn_region_lit ?_;refine yQ (G4 L0 ?_);refine yQ (G4 (tW (l:=R5.1) H (i:=0) rfl rfl aU (show(R5.1).length=32 from R5.2)) ?_);have H1:=H.sub (.cons _ (.cons_cons _ (.cons_cons _ (.cons_cons _ (qM _)))))
 have hy:=hY _ A4 x R5 va4 _ hI wD hkn6 hv aS H1
 refine ZH (v:=kA R5) (b:=true) rfl (fun f e=>by cases e) rfl hy ?_;rintro w ⟨x',qO,H2⟩
 clear H H1 hy;have H:=H2;clear H2
 refine yQ (G4 (zW rfl) ?_);refine ZG ?_;refine qN ?_;refine M5 ?_;refine U7 (A4++[R5],x') ?_ ?_ ?_
 ·exact⟨rfl,rfl,zT⟩
 ·refine⟨?_,?_⟩
  ·try dsimp only
   exact⟨X9.1,X9.2,qO⟩
  exact H
 show M.length-(A4++[R5]).length<M.length-A4.length;rw[C9,x4];omega
theorem Vh(w0:World)(bb b c ob:Nat)(OB:Go.Obj)(hB:yR OB ob (.map (some b)))(M:List (A6×Value×Nat))(F:A6->Option Int)(hF:MIs VI M F)(hM:MOk M c)(hO:Own w0 [.obj bb OB,.obj b (B7 kA M c)])(mA:∀l:List A6,l.Nodup->(∀j∈l,(F j).isSome=true)->l.length<=65536):
 Ret Tryz.prog 207 [.slice none 0 0,.func (.func 190) #[] #[.pointer (some ⟨bb,ob,none⟩)]] w0 fun v w'=>∃(a:Option Nat) (k:Nat) (R:List A6),(R.Nodup/\∀k,k∈R↔(F k).isSome=true)/\v=.slice (hd a) R.length k/\Hp w0 w' (keys [.obj bb OB,.obj b (B7 kA M c)]) [.obj bb OB,.obj b (B7 kA M c),.own a R.length k (R.flatMap C1) 34 32]:=by
 refine ZK Tryz.func207 rfl Tryz.ntmps207 (by simp) ?_
 have H:=hO.start
 refine rG ?_;refine A3 (zS (v:=.slice none 0 0) H rfl (fun b1 w H N6=>?_));replace H:Hp _ w _ ([.obj bb OB,.obj b (B7 kA M c),.blk b1 ([.slice none 0 0]) 182]):=H
 refine aZ ?_;refine eN ?_
 refine rG ?_;refine B8 ?_;refine eN ?_
 refine qB ?_;replace H:=H.nilEnd 34 32
 refine ZN (FX:=[.obj bb OB,.obj b (B7 kA M c)]) (Got:=fun kk aa=>F kk=some aa) (All:=fun A4=>A4.Nodup/\∀j,j∈A4↔(F j).isSome=true) (I:=fun(A4:List A6) (x:List A6×Option Nat×Nat)=>match x with|(A9,a,k)=>A9=A4/\A9.Nodup/\(∀j∈A9,(F j).isSome=true)) (x0:=([],none,0)) (itC:=fun it A4=>Ch.obj it (T8 b M c A4)) (kv:=kA) Tryz.func190 rfl rfl (fun Lv l w1 H1 hY=>(Vg hB hM hF Lv (fun(A4:List A6) (x:List A6×Option Nat×Nat)=>match x with|(A9,a,k)=>A9=A4/\A9.Nodup/\(∀j∈A9,(F j).isSome=true)) ([],none,0) ⟨rfl,List.nodup_nil,fun _ h=>(by cases h)⟩ H1 (fun it A4 x kk aa W hI hf hk _ _ HW=>hY it A4 x kk aa W hI hf hk HW)).mono (fun _ _ ⟨A4,x,h1,h2,h3,h4⟩=>⟨A4,x,h1,⟨h2,h3⟩,h4⟩)) rfl (fun x:List A6×Option Nat×Nat=>match x with|(A9,a,k)=>[.blk b1 ([.slice (hd a) A9.length k]) 182,.own a A9.length k ((A9).flatMap C1) 34 32]) H ?_ ?_
 ·
  rintro l T A4 x kk aa w hI hgot hk H
  obtain⟨A9,a,k⟩:=x
  replace hI:A9=A4/\A9.Nodup/\(∀j∈A9,(F j).isSome=true):=hI
  replace H:Hp w0 w (keys [.obj bb OB,.obj b (B7 kA M c)]) (Ch.obj bb OB::Ch.obj b (B7 kA M c)::Ch.blk b1 ([.slice (hd a) A9.length k]) 182::Ch.own a A9.length k ((A9).flatMap C1) 34 32::T):=H
  repeat refine wpIn_seq ?_
  refine HL (by rfl) (by rintro⟨_,_,h⟩;first|exact(show False from h)|cases (And.left h:Exit.outgrown=Exit.normal)) ?_;refine A3 (W9 H aV (fun b2 w H S2=>?_));replace H:=H.rot
  replace H:Hp _ w _ (Ch.blk b2 ((replicate 32 (0:UInt8)).map V8) 34::Ch.obj bb OB::Ch.obj b (B7 kA M c)::Ch.blk b1 ([.slice (hd a) A9.length k]) 182::Ch.own a A9.length k ((A9).flatMap C1) 34 32::T):=H
  refine A3 (mX (l':=kk.1) H (i:=0) rfl rfl rfl iX (show(replicate 32 (0:UInt8)).length=32 from(jR ..)) (show(kk.1).length=32 from kk.2) (fun w H=>?_));replace H:Hp _ w _ (Ch.blk b2 ((kk.1).map V8) 34::Ch.obj bb OB::Ch.obj b (B7 kA M c)::Ch.blk b1 ([.slice (hd a) A9.length k]) 182::Ch.own a A9.length k ((A9).flatMap C1) 34 32::T):=H
  first|refine HM ?_|refine zL ?_
  try dsimp only[Exit.then,Exit.inBlock]
  refine⟨[.blk b2 ((kk.1).map V8) 34,.obj bb OB,.obj b (B7 kA M c),.blk b1 ([.slice (hd a) A9.length k]) 182,.own a A9.length k ((A9).flatMap C1) 34 32],H,?_⟩
  intro T w H
  replace H:Hp w0 w (keys [.obj bb OB,.obj b (B7 kA M c)]) (Ch.blk b2 ((kk.1).map V8) 34::Ch.obj bb OB::Ch.obj b (B7 kA M c)::Ch.blk b1 ([.slice (hd a) A9.length k]) 182::Ch.own a A9.length k ((A9).flatMap C1) 34 32::T):=H
  repeat refine wpIn_seq ?_
  refine ZL ?_;obtain⟨v7,aS,oG⟩:=hI
  subst v7
  have X9:=GU aS oG hgot hk
  have hnv:A9.length<=65536:=mA A9 aS oG
  repeat refine wpIn_seq ?_
  refine HL (by rfl) (by rintro⟨_,_,h⟩;first|exact(show False from h)|cases (And.left h:Exit.outgrown=Exit.normal)) ?_;refine lV (Q5 H (i:=3) rfl rfl zY rfl) ?_;refine lV (tW (l:=kk.1) H (i:=0) rfl rfl aU (show(kk.1).length=32 from kk.2)) ?_;refine A3 (NB (enc:=C1) (kk) H oT aV (by rfl) (by decide) (by decide) rfl (aD _) (fun b3 w H x8=>?_));replace H:=H.rot
  replace H:Hp _ w _ (Ch.own (some b3) 1 1 (([kk]).flatMap C1) 34 32::Ch.blk b2 ((kk.1).map V8) 34::Ch.obj bb OB::Ch.obj b (B7 kA M c)::Ch.blk b1 ([.slice (hd a) A9.length k]) 182::Ch.own a A9.length k ((A9).flatMap C1) 34 32::T):=H
  refine A3 (GS (enc:=C1) (s:=⟨hd (some b3),1,1,[kk]⟩) (l':=A9++([kk])) (len':=A9.length+1) rfl rfl H (i:=5) rfl oT Tryz.underlying182 rfl rfl (H.glOwn (i:=0) rfl (by decide) (fun c _=>aD c)) (by decide) (fun c _=>uG c) zO (by decide) (fun a4 c5 w H=>?_));replace H:Hp _ w _ (Ch.own (some b3) 1 1 (([kk]).flatMap C1) 34 32::Ch.blk b2 ((kk.1).map V8) 34::Ch.obj bb OB::Ch.obj b (B7 kA M c)::Ch.blk b1 ([.slice (hd a) A9.length k]) 182::Ch.own a4 (A9.length+1) c5 ((A9++([kk])).flatMap C1) 34 32::T):=H
  refine A3 (oN (v:=.slice (hd a4) (A9.length+1) c5) H (i:=4) rfl rfl rfl PU rfl (by first|decide|simp) (fun w H=>?_));replace H:Hp _ w _ (Ch.own (some b3) 1 1 (([kk]).flatMap C1) 34 32::Ch.blk b2 ((kk.1).map V8) 34::Ch.obj bb OB::Ch.obj b (B7 kA M c)::Ch.blk b1 ([.slice (hd a4) (A9.length+1) c5]) 182::Ch.own a4 (A9.length+1) c5 ((A9++([kk])).flatMap C1) 34 32::T):=H
  first|refine HM ?_|refine zL ?_
  try dsimp only[Exit.then,Exit.inBlock]
  have hfl2:A9.length+1=(A9++[kk]).length:=by rw[C9];rfl
  rw[hfl2]at H
  exact⟨rfl,(A9++[kk],a4,c5),⟨rfl,X9.1,fun j hj=>X9.2 j hj⟩,H.sub (.cons _ (.cons _ (.cons_cons _ (.cons_cons _ (.cons_cons _ (.cons_cons _ (qM _)))))))⟩
 
 rintro D A4 x w hI hA H
 obtain⟨A9,a,k⟩:=x
 replace hI:A9=A4/\A9.Nodup/\(∀j∈A9,(F j).isSome=true):=hI
 replace H:Hp w0 w (keys [.obj bb OB,.obj b (B7 kA M c)]) ([.obj D (.deferred (some [])),.obj bb OB,.obj b (B7 kA M c),.blk b1 ([.slice (hd a) A9.length k]) 182,.own a A9.length k ((A9).flatMap C1) 34 32]):=H
 obtain⟨v7,aS,oG⟩:=hI
 subst v7
 have hnv:A9.length<=65536:=mA A9 aS oG
 refine rG ?_;refine A3 (BX (Q5 H (i:=3) rfl rfl zY rfl) ?_);refine A3 (BX (eM) ?_);refine eN ?_
 refine l9 ?_
 refine ZM (v:=.slice (hd a) A9.length k) Tryz.results207 rfl H (i:=0) rfl ?_
 intro w H
 replace H:Hp w0 w (keys [.obj bb OB,.obj b (B7 kA M c)]) ([.obj bb OB,.obj b (B7 kA M c),.blk b1 ([.slice (hd a) A9.length k]) 182,.own a A9.length k ((A9).flatMap C1) 34 32]):=H
 refine⟨_,rfl,?_⟩
 refine⟨a,k,A9,hA,rfl,H.sub (.cons_cons _ (.cons_cons _ (.cons _ (.cons_cons _ (P6 _)))))⟩
theorem Vi(w0:World)(bb b c ob:Nat)(OB:Go.Obj)(hB:yR OB ob (.map (some b)))(M:List (A6×Value×Nat))(F:A6->Option Int)(hF:MIs VI M F)(hM:MOk M c)(hO:Own w0 [.obj bb OB,.obj b (B7 kA M c)])(mA:∀l:List A6,l.Nodup->(∀j∈l,(F j).isSome=true)->l.length<=65536):
  Ret Tryz.prog 188 [.func (.func 190) #[] #[.pointer (some ⟨bb,ob,none⟩)]] w0 fun v w'=>∃(a:Option Nat) (k:Nat) (R:List A6),(R.Nodup/\∀k,k∈R↔(F k).isSome=true)/\v=.slice (hd a) R.length k/\Hp w0 w' (keys [.obj bb OB,.obj b (B7 kA M c)]) [.obj bb OB,.obj b (B7 kA M c),.own a R.length k (R.flatMap C1) 34 32]:=by
 refine T5 Tryz.func188 rfl Tryz.ntmps188 (by simp) ?_
 have H:=hO.start
 refine rG ?_;refine aZ ?_;refine eN ?_
 refine rG ?_;refine B8 ?_;refine A3 (N3 Tryz.func207 rfl rfl rfl (Vh _ bb b c ob OB hB M F hF hM (H.ownP (.refl _) rfl) mA) ?_);rintro _ w ⟨a1,k2,R3,hsq4,rfl,Hc⟩
 replace H:=H.callP (.refl _) rfl Hc (.refl _)
 clear Hc
 replace H:Hp _ w _ ([.obj bb OB,.obj b (B7 kA M c),.own a1 R3.length k2 ((R3).flatMap C1) 34 32]):=H
 refine aZ ?_;refine eN ?_
 refine l9 ?_
 refine w4 (v:=.slice (hd a1) R3.length k2) Tryz.results188 rfl ?_
 refine⟨_,rfl,?_⟩
 exact⟨_,_,_,hsq4,rfl,H.sub (.cons_cons _ (.cons_cons _ (.cons_cons _ (P6 _))))⟩
theorem Vj(w0:World)(bb b c ob:Nat)(OB:Go.Obj)(hB:yR OB ob (.map (some b)))(M:List (A6×Value×Nat))(F:A6->Option Int)(hF:MIs VI M F)(hM:MOk M c)(hO:Own w0 [.obj bb OB,.obj b (B7 kA M c)])(mA:∀l:List A6,l.Nodup->(∀j∈l,(F j).isSome=true)->l.length<=65536):
  Ret Tryz.prog 164 [.func (.func 190) #[] #[.pointer (some ⟨bb,ob,none⟩)],.func (.func 166) #[] #[]] w0 fun v w'=>∃(a:Option Nat) (k:Nat) (R:List A6),(RisA R/\∀k,k∈R↔(F k).isSome=true)/\v=.slice (hd a) R.length k/\Hp w0 w' (keys [.obj bb OB,.obj b (B7 kA M c)]) [.obj bb OB,.obj b (B7 kA M c),.own a R.length k (R.flatMap C1) 34 32]:=by
 refine T5 Tryz.func164 rfl Tryz.ntmps164 (by simp) ?_
 have H:=hO.start
 refine rG ?_;refine aZ ?_;refine eN ?_
 refine rG ?_;refine B8 ?_;refine A3 (N3 Tryz.func188 rfl rfl rfl (Vi _ bb b c ob OB hB M F hF hM (H.ownP (.refl _) rfl) mA) ?_);rintro _ w ⟨a1,k2,R3,hsq4,rfl,Hc⟩
 replace H:=H.callP (.refl _) rfl Hc (.refl _)
 clear Hc
 replace H:Hp _ w _ ([.obj bb OB,.obj b (B7 kA M c),.own a1 R3.length k2 ((R3).flatMap C1) 34 32]):=H
 refine aZ ?_;refine eN ?_
 have bP:=mA R3 hsq4.1 (fun j hj=>(hsq4.2 j).1 hj)
 refine rG ?_;refine B8 ?_;refine B8 ?_;refine A3 (N3 Tryz.func189 rfl rfl rfl (Ui H (i:=2) rfl rfl zO) ?_);rintro _ w ⟨rfl,Hc⟩
 clear H
 have H:=Hc;clear Hc
 replace H:Hp _ w _ ([_,_,.own a1 R3.length k2 ((sortA R3).flatMap C1) 34 32]):=H
 refine eN ?_
 refine rG ?_;refine B8 ?_;refine aZ ?_;refine eN ?_
 refine l9 ?_
 refine w4 (v:=.slice (hd a1) R3.length k2) Tryz.results164 rfl ?_
 refine⟨_,rfl,?_⟩
 have hs:=ZQ hsq4.1
 refine⟨a1,k2,sortA R3,⟨hs.1,fun k=>(hs.2 k).trans (hsq4.2 k)⟩,?_,?_⟩
 ·rw[HQ]
 rw[HQ];exact H.sub (.cons_cons _ (.cons_cons _ (.cons_cons _ (P6 _))))
def Cx.rowX(X:Cx)(nm:Nat)(a:Option Nat)(cs:List Value)(M:Nat):Cx:=⟨fun b i=>if some b=a then (match cs[i]? with|some x=>.fz x|none=>if i<M then .tp nm else .no) else X.G b i,X.ρ,X.Φ,X.κ,X.ν,X.wr⟩
theorem uI{nm:Nat}{a:Option Nat}{b:Nat}(h:¬ some b=a):(X.rowX nm a cs M).G b i=X.G b i:=by
 show(if some b=a then _ else _)=_
 rw[if_neg h]
theorem NX{nm b:Nat} :(X.rowX nm (some b) cs M).G b i=(match cs[i]? with|some x=>.fz x|none=>if i<M then .tp nm else .no):=by
 show(if some b=some b then _ else _)=_
 rw[if_pos rfl]
theorem Vk{hh:Nat->Nat->V}{nm:Nat}{a:Option Nat}{cs:List Value}(H:Wd X0 X hh lv 16 w w)(hf:∀b,b<w.heap.size->w'.heap[b]? =w.heap[b]?)(hos:w'.os=w.os)(hou:w'.output=w.output)(ht:w'.tape=w.tape)(hs:w.heap.size<=w'.heap.size)
 (ha:∀b,a=some b->w.heap.size<=b/\∃C T,w'.heap[b]? =some (.cells C T (0,0))/\C.size=M/\∀(i:Nat) x,cs[i]? =some x->C[i]? =some x)(ho:∀x∈cs,x.oneCell'=true)(hn:X0.κ<=nm)(hn2:2<=nm/\nm<64):Wd X0 (X.rowX nm a cs M) h0 [nm] 64 w w':=by
 have old:∀b,b<w.heap.size->¬ some b=a:=fun b hb e=>by have:=(ha b e.symm).1;omega
 have oldG:∀b i,X.G b i≠ .no->¬ some b=a:=fun b i h=>old b (H.ex b i h)
 have fzk:∀b i x,X.G b i=.fz x->(X.rowX nm a cs M).G b i=.fz x:=fun b i x h=>by rw[uI (oldG b i (by rw[h];simp))];exact h
 have cell:∀b i,b<w.heap.size->w'.cell? (ad b i)=w.cell? (ad b i):=fun b i hb=>by unfold World.cell?; rw[hf b hb]
 have frz:∀b i,b<w.heap.size->w'.frozen? (ad b i)=w.frozen? (ad b i):=fun b i hb=>by unfold World.frozen?; rw[hf b hb]
 have mine:∀b i,some b=a->(X.rowX nm a cs M).G b i≠ .no->∃C T,w'.heap[b]? =some (.cells C T (0,0))/\C.size=M/\((∃x,cs[i]? =some x/\C[i]? =some x/\(X.rowX nm a cs M).G b i=.fz x)\/(cs[i]? =none/\i<M/\(X.rowX nm a cs M).G b i=.tp nm)):=fun b i e h=>by
  subst e
  obtain⟨_,C,T,h1,h2,h3⟩:=ha b rfl
  refine⟨C,T,h1,h2,?_⟩
  rw[NX]at h ⊢
  cases hc:cs[i]? with
 |some x=>exact .inl ⟨x,rfl,h3 i x hc,rfl⟩
 |none=>
   rw[hc]at h
   by_cases hi:i<M
   ·exact .inr ⟨rfl,hi,by simp only[hi,if_true]⟩
   simp only[hi,if_false]at h;exact absurd rfl h
 have cellA:∀(b i:Nat) (C:Array Value) T x,w'.heap[b]? =some (.cells C T (0,0))->C[i]? =some x->w'.cell? (ad b i)=some x:=fun b i C T x h1 h2=>by simp[World.cell?, h1,h2]
 have ex':∀b i,(X.rowX nm a cs M).G b i≠ .no->b<w'.heap.size:=fun b i h=>by
  by_cases e:some b=a
  ·obtain⟨C,T,h1,_⟩:=mine b i e h;exact(Z4.1 h1).1
  rw[uI e]at h;exact X6 (H.ex b i h) hs
 exact { kb:=⟨hos.trans H.kb.1,hou.trans H.kb.2.1,fun i hi=>by rw[hf i hi];exact H.kb.2.2 i hi⟩
         tape:=ht.trans H.tape
         fz0:=fun b i x h=>fzk b i x (H.fz0 b i x h)
         no0:=fun b i hb h=>by rw[uI (old b hb)];exact H.no0 b i hb h
         mp0:=fun b t hb h=>by rw[uI (old b hb)]at h;exact H.mp0 b t hb h
         ρ0:=H.ρ0,ex:=ex'
         fz:=fun b i x h=>by
          by_cases e:some b=a
          ·obtain⟨C,T,h1,h2,⟨y,h3,h4,h5⟩|⟨_,_,h5⟩⟩:=mine b i e (by rw[h];simp)
           ·rw[h5]at h
            have h7:y=x:=by injection h
            subst h7
            have h6:=ho y (E2 h3)
            exact⟨fun _=>cellA b i C T y h1 h4,fun t e'=>(oV (by rw[<-e'];exact h6)).elim,.inl h6⟩
           rw[h5]at h;cases h
          rw[uI e]at h
          have hb:=H.ex b i (by rw[h];simp)
          exact(H.fz b i x h).move fzk (cell b i hb) (fun _ _ hm=>by rw[hf b hb];exact hm)
         tp:=fun b i t h=>by
          by_cases e:some b=a
          ·obtain⟨C,T,h1,h2,⟨y,h3,h4,h5⟩|⟨h3,h4,h5⟩⟩:=mine b i e (by rw[h];simp)
           ·rw[h5]at h;cases h
           refine⟨by rw[cellA b i C T _ h1 (zG zO)];rfl,?_⟩
           simp[World.frozen?, h1]
          rw[uI e]at h
          have hb:=H.ex b i (by rw[h];simp)
          rw[cell b i hb,frz b i hb];exact H.tp b i t h
         rt:=fun _ _ _ _ _ _=>trivial
         c2:=by omega
         lvc:=fun t ht'=>by simp only[O9]at ht';omega
         ρc:=fun r j p h=>X6 (H.ρc r j p h) zO
         inv:=H.imo _ _ _ _ _ _ ⟨fzk,fun b i t h1 h2 _=>by simp only[O9]at h1;omega,fun t h1 h2=>by simp only[O9]at h1;omega,fun _ _ _ _ _ h=>h⟩ H.inv
         imo:=H.imo,κc:=L6 H.κc zO,νe:=H.νe,we:=H.we,gz:=H.gz,ν0:=H.ν0,νs:=L6 H.νs hs
         nf:=fun b hb ⟨i,hi⟩ C T fr he=>by
          by_cases e:some b=a
          ·obtain⟨_,C',T',h1,_⟩:=ha b e.symm
           rw[h1]at he;cases he;exact .inl rfl
          rw[uI e]at hi
          rw[hf b (H.ex b i hi)]at he;exact H.nf b hb ⟨i,hi⟩ C T fr he}
theorem Vl(R:List A6):(R.flatMap C1).length=R.length*32:=by
 induction R with
|nil=>rfl
|cons x R ih=>rw[iA,C9,ih,aD,I4,G7];omega
theorem ZT:∀(R:List A6) (i:Nat) (x:A6),R[i]? =some x->∀(k:Nat) v,(C1 x)[k]? =some v->(R.flatMap C1)[i*32+k]? =some v
|[],i,x,h=>by simp at h
|y::R,0,x,h=>fun k v hk=>by
  simp only[OW,F1]at h
  subst h
  have:=(N0.1 hk).1
  rw[iA,Nat.zero_mul,J2,N5 zO];exact hk
|y::R,i+1,x,h=>fun k v hk=>by
  rw[CP]at h
  rw[iA,L7 (by rw[aD,G7];omega),aD,show(i+1)*32+k-32=i*32+k by rw[G7];omega]
  exact ZT R i x h k v hk
theorem ZU{hh:Nat->Nat->V}{nm:Nat}{S:List Nat}{a:Option Nat}{R:List A6}(H:Wd X0 X hh lv 16 w w)(Hk:Hp w w' S (.own a R.length cap (R.flatMap C1) 34 32::L))(hS:∀s∈S,s<w.heap.size/\∃O,.obj s O∈L/\w.heap[s]? =some O)(hn:X0.κ<=nm)(hn2:2<=nm/\nm<64):
  ∃X',repv X' [nm] 64 (B4 nm 32 eI (R.map (·.1))) (.slice (hd a) R.length cap)/\Wd X0 X' h0 [nm] 64 w w':=by
 have hf:∀b,b<w.heap.size->w'.heap[b]? =w.heap[b]? :=fun b hb=>by
  by_cases hs:b∈S
  ·obtain⟨_,O,h1,h2⟩:=hS b hs
   have h3:w'.heap[b]? =some O:=Hk.has _ (Q9 _ h1)
   rw[h2,h3]
  exact Hk.frame b hb hs
 have M3:=Hk.has _ (X8 ..)
 have jZ:∀b,a=some b->w.heap.size<=b:=fun b e=>by
  subst e
  rcases Hk.fresh _ (X8 ..) b rfl with h|h
  ·obtain⟨_,O,h1,_⟩:=hS b h
   have:=(List.pairwise_cons.1 Hk.nd).1 _ h1 b rfl
   exact absurd rfl this
  exact h
 have D8:R.length*32<=cap*32/\cap<=maxLen:=by
  cases a with
 |none=>obtain⟨h1,h2,_⟩:=M3;rw[h1,h2];exact⟨zO,by decide⟩
 |some b=>obtain⟨_,h2,h3,_⟩:=M3;exact⟨zO,h3⟩
 have W:=Vk (nm:=nm) (a:=a) (cs:=R.flatMap C1) (M:=cap*32) H hf Hk.os Hk.output Hk.tape Hk.size (fun b e=>by
  subst e
  obtain⟨h1,h2,h3,rest,h4,h5⟩:=M3
  refine⟨jZ b rfl,_,_,h4,by simpa using h5,fun i x hx=>?_⟩
  rw[fF,N5 (N0.1 hx).1];exact hx) (fun x hx=>by
  obtain⟨y,_,h2⟩:=List.mem_flatMap.1 hx
  exact Q8.1 (uG y) x h2) hn hn2
 refine⟨_,?_,W⟩
 refine⟨by decide,hd a,cap,by rw[J4],by rw[J4];omega,D8.2,zO,fun e=>by omega,?_⟩
 cases a with
|none=>obtain⟨_,h2,_⟩:=M3;exact .inl ⟨.inl rfl,h2⟩
|some b=>
  refine .inr ⟨b,0,rfl,fun i hi=>?_,fun _ i h1 h2=>?_⟩
  ·rw[J4]at hi
   have hx:R[i]? =some R[i]:=B6 hi
   refine⟨C1 R[i],⟨?_,?_⟩,aD _,rfl,fun k v hk=>?_⟩
   ·show((R.map fun x:A6=>x.1).getD i default).length=32
    rw[j9,Y5,hx];exact R[i].2
   ·show C1 R[i]=((R.map fun x:A6=>x.1).getD i default).map E9
    rw[j9,Y5,hx];rfl
   rw[J2,NX,ZT R i _ hx k v hk]
  rw[J4]at h1
  rw[J2,NX,V6 (by rw[Vl];omega)]
  simp only[h2,if_true]
theorem ZV(X:Cx)(K:List By)(s c:Nat):∀es:List MapEntry,(∀e∈es,e.born<c/\(∃k:List UInt8,k.length=32/\e.key=F9 k/\k∈K)/\∃v,X4 s v=true/\repv X [] 2 v e.val)->
  ∃M:List (A6×Value×Nat),M.map (S6 kA)=es/\∀x∈M,x.2.2<c/\x.1.1∈K/\∃v,X4 s v=true/\repv X [] 2 v x.2.1
|[],_=>⟨[],rfl,fun _ h=>by cases h⟩
|e::es,h=>by
  obtain⟨M,h1,h2⟩:=ZV X K s c es fun e' he=>h e' (Q9 _ he)
  obtain⟨hb,⟨k,k1,k2,k3⟩,hv⟩:=h e (X8 ..)
  refine⟨(⟨k,k1⟩,e.val,e.born)::M,?_,fun x hx=>?_⟩
  ·rw[U0,h1]
   congr 1
   obtain⟨ek,ev,eb⟩:=e
   simp only at k2
   subst k2;rfl
  rcases K6.1 hx with rfl|hx
  ·exact⟨hb,k3,hv⟩
  exact h2 x hx
theorem Vm{b:Nat}{t:MS}(h:MapC X w b 0 t):∃(M:List (A6×Value×Nat)) (c:Nat),w.heap[b]? =some (B7 kA M c)/\MOk M c/\∀x∈M,x.1.1∈t.K/\∃v,X4 t.s v=true/\repv X [] 2 v x.2.1:=by
 obtain⟨es,c,h1,h2,h3,h4⟩:=h
 obtain⟨M,m1,m2⟩:=ZV X t.K t.s c es.toList h4
 refine⟨M,c,?_,⟨?_,?_,fun x hx=>(m2 x hx).1⟩,fun x hx=>(m2 x hx).2⟩
 ·rw[h1,B7,m1]
 ·rw[<-m1,List.map_map]at h2
  exact List.Pairwise.of_map (S:=fun x y=>x≠y) kA (fun a b h e=>h (by rw[e])) (by rw[List.map_map];exact h2)
 rw[<-m1,List.map_map]at h3;exact h3
theorem Vn{enc:α->Value}{M:List (A6×Value×Nat)}{K:List By}(h:∀x∈M,x.1.1∈K/\∃a,enc a=x.2.1):∃F:A6->Option α,MIs enc M F/\∀k,(F k).isSome=true->k.1∈K:=by
 have one:∀k:A6,∃o:Option α,O2 M k=o.map enc/\(o.isSome=true->k.1∈K):=fun k=>by
  cases e:O2 M k with
 |none=>exact⟨none,rfl,fun h=>by cases h⟩
 |some v=>
   obtain⟨x,x1,rfl,rfl,_⟩:=BO e
   obtain⟨h1,a,h2⟩:=h x x1
   exact⟨some a,by rw[X7,h2],fun _=>h1⟩
 exact⟨fun k=>(one k).choose,fun k=>(one k).choose_spec.1,fun k=>(one k).choose_spec.2⟩
theorem ZW{F:A6->Option α}{K:List By}(h:∀k,(F k).isSome=true->k.1∈K)(hK:K.length<=65536)(l:List A6)(hn:l.Nodup)(hl:∀j∈l,(F j).isSome=true):l.length<=K.length/\l.length<=65536:=by
 have hn':(l.map (·.1)).Nodup:=hn.map _ fun a b h e=>h (Subtype.ext e)
 have:=BP hn' (m:=K) fun x hx=>by
  obtain⟨y,hy,rfl⟩:=J3.1 hx
  exact h y (hl y hy)
 rw[J4]at this
 omega
theorem Vo{v:V}(h:X4 0 v=true):∃n,v=.i .i64 n:=by
 unfold X4 at h
 split at h<;>first|exact⟨_,rfl⟩|(rename_i h0;first|cases h0|cases h)|cases h
theorem RisA.nd{l:List A6}(h:RisA l):l.Nodup:=List.Pairwise.imp (fun {a b} h e=>by subst e;exact List.lt_irrefl _ h) h
theorem Vp{b:Nat}{v:Value}(h:w.cell? (ad b o)=some v):∃O,w.heap[b]? =some O/\yR O o v:=by
 unfold World.cell? at h
 cases e:w.heap[b]? with
|none=>simp[e]at h
|some O=>
  cases O with
 |cells C T fr=>exact⟨_,rfl,C,T,fr,rfl,by simpa [e] using h⟩
 |_=>simp[e]at h
theorem Vq(K:List By)(b:Nat)(hK:K.length<=65536):SatHM Tryz.prog false 164 [mS 190 [.pr 2 0 []],mS 166 []] [] [(2,.mp b 0 ⟨0,K⟩)] (fun out ho A0=>(∃l:List By,out=B4 16 32 eI l/\l.length<=K.length/\∀x∈l,x∈K)/\ho=[]/\A0=[16]):=fun X w vs D8 aQ H _=>by
 match vs,D8 with
|[x0,x1],_=>
 have r0:=aQ 0 _ _ rfl rfl
 have r1:=aQ 1 _ _ rfl rfl
 obtain⟨vs0,f1,f2,f3⟩:=r0
 obtain⟨y,f4,f5⟩:=f3 0 (by decide)
 obtain⟨_,bb,o,N,e1,e2,_⟩:=f5
 obtain⟨vs1,g1,g2,_⟩:=r1
 have v7:vs0=[.pointer (some ⟨bb,o,none⟩)]:=by
  match vs0,f2,f4 with
 |[z],_,f4=>
   simp only[OW,F1]at f4
   subst f4
   rw[e2];rfl
 have hv1:vs1=[]:=j7.1 g2
 subst v7 hv1
 have hx0:x0=.func (.func 190) #[] #[.pointer (some ⟨bb,o,none⟩)]:=by simpa using f1
 have hx1:x1=.func (.func 166) #[] #[]:=by simpa using g1
 subst hx0 hx1
 have hR:RtR X [] 16 w 2 0 bb o N (.mp b 0 ⟨0,K⟩):=H.rt 2 0 bb o N e1
 obtain⟨cs,c1,c2,c3,c4⟩:=hR
 have v6:cs.length=1:=X3 (v:=.mp b 0 ⟨0,K⟩) rfl c1
 obtain⟨x,hx⟩:∃x,cs=[x]:=List.length_eq_one_iff.1 v6
 subst hx
 obtain⟨e0,hg,_⟩:=BI (q:=0) H c1 rfl
 have hm:MapC X w b 0 ⟨0,K⟩:=(H.fz b 0 _ hg).m _ rfl
 obtain⟨M,c,m1,m2,m3⟩:=Vm hm
 obtain⟨F,f1,f2⟩:=Vn (enc:=VI) (M:=M) (K:=K) fun x hx=>⟨(m3 x hx).1,by
  obtain⟨_,v,v1,v2⟩:=m3 x hx
  obtain⟨n,rfl⟩:=Vo v1
  exact⟨n,(M0 v2).1.symm⟩⟩
 subst e0
 obtain⟨OB,o1,o2⟩:=Vp (c4 0 _ rfl).2.1
 have D5:bb≠b:=fun e=>by
  subst e
  obtain⟨C,T,fr,rfl,_⟩:=o2
  rw[o1]at m1;cases m1
 have hO:Own w [.obj bb OB,.obj b (B7 kA M c)]:=⟨fun d hd=>by
  simp only[K6,List.not_mem_nil,or_false]at hd
  rcases hd with rfl|rfl
  ·exact o1
  ·exact m1,.cons (fun d hd q hq=>by
  simp only[O9]at hd
  subst hd
  intro h
  simp only[Ch.key,F1]at hq h
  omega) (.cons (fun _ h=>by cases h) .nil)⟩
 refine(Vj w bb b c (o+0) OB o2 M F f1 m2 hO fun l h1 h2=>(ZW f2 hK l h1 h2).2).mono fun v w' ⟨a,k,R,h1,h2,Hk⟩=>?_
 obtain⟨X',q1,q2⟩:=ZU (nm:=16) H (Hk.perm (L':=[.own a R.length k (R.flatMap C1) 34 32,.obj bb OB,.obj b (B7 kA M c)]) (OT (Ch.own a R.length k (R.flatMap C1) 34 32) [Ch.obj bb OB,Ch.obj b (B7 kA M c)])) (fun s hs=>by
  simp only[keys,List.filterMap_cons,Ch.key,List.filterMap_nil,K6,List.not_mem_nil,or_false]at hs
  rcases hs with rfl|rfl
  ·exact⟨(Z4.1 o1).1,_,X8 ..,o1⟩
  exact⟨(Z4.1 m1).1,_,Q9 _ (O9.2 rfl),m1⟩) (B3 _) zO
 subst h2
 have W4:∀k∈R,(F k).isSome=true:=fun k hk=>(h1.2 k).1 hk
 exact⟨X',[],[16],_,⟨⟨R.map (·.1),rfl,by rw[J4];exact(ZW f2 hK R h1.1.nd W4).1,fun x hx=>by
  obtain⟨y,hy,rfl⟩:=J3.1 hx
  exact f2 y (W4 y hy)⟩,rfl,rfl⟩,q1,by
  have e:S5 ([]:List (Nat×V))=h0:=by funext r j;cases j<;>rfl
  rw[e];exact q2⟩
theorem NY:∀(n:Nat) (R4:Int),1<=R4->R4+n=9->YI R4
|0,R4,h1,h2=>fun K a b c tl l e x t hc he hl ht oC=>YJ K a b c tl l e x t R4 ⟨h1,zO⟩ (fun h=>absurd h zO) hc he hl ht oC
|n+1,R4,h1,h2=>fun K a b c tl l e x t hc he hl ht oC=>YJ K a b c tl l e x t R4 ⟨h1,zO⟩ (fun _ d hd=>hd▸NY n (R4+1) zO zO) hc he hl ht oC
theorem Vr(K:List By)(b:Nat):SatM Tryz.prog false 165 [.mp b 0 ⟨0,K⟩] [] (fun out ho A0=>out=mS 190 [.pr 2 0 []]/\ho=[(2,.mp b 0 ⟨0,K⟩)]/\A0=[]):=by
 refine fM false Tryz.func165 fun X0 w0 hX hm=>?_
 exact xW hX (mS 190 [.pr 2 0 []]) ⟨rfl,rfl,rfl⟩
theorem Vs(n:Nat)(g:Nat->Obj)(r:By)(hn:n<=65536)(hd:∀i,i<n->(g i).data.length<=100000):SatM Tryz.prog true 118 [.sl 0 33 n fun i=>C3 (g i),.bs 32 r] [] (fun out ho A0=>∃(l:List By) (e:Int),out=A2 [B4 2 32 eI l,.i .i64 e]/\A0=[2]/\l.length<=n/\ho=[]):=by
 refine fM true Tryz.func118 fun X0 w0 hX hm=>?_
 refine kM (fun _=>hm rfl) [] (YH n (fun i=>(g i)) false zO hd) ?_;rintro out ho A0 ⟨ba0,bb0,rfl,rfl,rfl⟩
 refine gO (fun _=>hm rfl) [(274,2),(275,3)] [274] (NY 8 1 zO rfl ((List.range n).map fun i=>((fun i=>(g i)) i).of) ba0 bb0 0 false [] 0 r [] bd rfl bd bd (fun h=>absurd h zO)) ?_;rintro out ho A0 ⟨gc1,IH,wF,rfl,rfl,hgc1,hgf1⟩
 refine cB (wF≠0) (fun h1=>?_) fun h1=>?_
 ·exact xW hX (A2 [B4 2 32 eI [],.i .i64 wF]) ⟨_,_,rfl,rfl,by first|(simp;done)|(simp only[J4,CY]at *;omega),rfl⟩ (hv:=vT (u:=A2 [.sl 2 32 0 fun _=>.un,.i .i64 wF]) (F3 ⟨vN,.rfl _,zT⟩))
 refine kO [] (Vr ((List.range n).map fun i=>((fun i=>(g i)) i).of) bb0) ?_
 rintro out ho A0 ⟨rfl,rfl,rfl⟩
 refine kH [(1170,2)] [1170] (Vq ((List.range n).map fun i=>((fun i=>(g i)) i).of) bb0 (by first|assumption|(simp only[J4,CY];omega))) ?_;rintro out ho A0 ⟨⟨sl2,rfl,hsl2,hsk2⟩,rfl,rfl⟩
 exact xW hX (A2 [B4 2 32 eI sl2,.i .i64 0]) ⟨_,_,rfl,rfl,by first|(simp;done)|(simp only[J4,CY]at *;omega),rfl⟩
theorem ZX(n:Nat)(g:Nat->Obj)(r:By)(hn:n<=65536)(hd:∀i,i<n->(g i).data.length<=100000):SatM Tryz.prog true 126 [.sl 0 33 n fun i=>C3 (g i),.bs 32 r] [] (fun out ho A0=>∃(l:List Fil) (e:Int),out=A2 [B4 2 3 O7 l,.i .i64 e]/\A0=[2]/\l.length<=1024/\FOk l/\ho=[]):=by
 refine fM true Tryz.func126 fun X0 w0 hX hm=>?_
 refine kM (fun _=>hm rfl) [] (YH n (fun i=>(g i)) true zO hd) ?_;rintro out ho A0 ⟨ba0,bb0,rfl,rfl,rfl⟩
 refine gO (fun _=>hm rfl) [(274,2),(275,3)] [274] (NY 8 1 zO rfl ((List.range n).map fun i=>((fun i=>(g i)) i).of) ba0 bb0 0 true [] 0 r [] bd rfl bd bd (fun h=>absurd h zO)) ?_;rintro out ho A0 ⟨gc1,IH,wF,rfl,rfl,hgc1,hgf1⟩
 refine cB (wF≠0) (fun h1=>?_) fun h1=>?_
 ·exact xW hX (A2 [B4 2 3 O7 [],.i .i64 wF]) ⟨_,_,rfl,rfl,by first|(simp;done)|(simp only[J4,CY]at *;omega),FOk.nil,rfl⟩ (hv:=vT (u:=A2 [.sl 2 3 0 fun _=>.un,.i .i64 wF]) (F3 ⟨vN,.rfl _,zT⟩))
 exact xW hX (A2 [B4 2 3 O7 IH,.i .i64 0]) ⟨_,_,rfl,rfl,by first|(simp;done)|(simp only[J4,CY]at *;omega),hgf1 FOk.nil,rfl⟩
theorem ZY{l:List Ob}(ho:∀o∈l,o.data.ok w0/\o.data.len<=1048576)(H:Hp w0 w [] L):∀o∈l,o.data.ok w/\o.data.len<=1048576:=fun o h=>⟨(ho o h).1.up H (fun _=>U9 _),(ho o h).2⟩
theorem ZZ{l:List Ob}{F:A6->Option RO}{n:Nat}(h:FD l F)(hn:l.length<=n)(m:List A6)(hm:m.Nodup)(hs:∀j∈m,(F j).isSome=true):m.length<=n:=by
 have h1:=BP (m:=l.map (·.of)) hm (fun x hx=>by
  have h2:=hs x hx
  have h3:(Z3 l x).isSome=true:=by rw[<-h x];cases hf:F x with
  |none=>rw[hf]at h2;cases h2
  |some v=>rfl
  obtain⟨s,hs'⟩:=hU.1 h3
  obtain⟨o,ho,e,_⟩:=yO hs'
  exact J3.2 ⟨o,ho,e⟩)
 rw[J4]at h1;omega
theorem Aa{l:List Ob}{F:A6->Option RO}{r:Bool}{R:List A6}(h:NW F r R)(hf:FD l F):RisA R/\∀k∈R,(Z3 l k).isSome=true:=⟨h.1,fun k hk=>by
 obtain⟨v,h1,_⟩:=(h.2 k).1 hk
 rw[<-hf k,h1];rfl⟩
theorem Ab(w0:World)(g:Gl Ob)(hg:g.ok uH 33 w0)(ho:∀o∈g.l,o.data.ok w0/\o.data.len<=1048576)(hgm:g.len<=65536)(r:Gl A6)(hr:r.ok C1 32 w0)(hrm:r.len<=65536)(hT:HT g.l w0):
  Ret Tryz.prog 135 [g.v,r.v] w0 fun v w'=>∃a k R,(RisA R/\∀k∈R,(Z3 g.l k).isSome=true)/\v=.slice (hd a) R.length k/\Hp w0 w' [] [.own a R.length k (R.flatMap C1) 34 32]:=by
 refine T5 Tryz.func135 rfl Tryz.ntmps135 (by simp) ?_
 have H:=Hp.refl w0 []
 have hgl:=hg.ln
 have qX:=hr.ln
 refine rG ?_;refine aZ ?_;refine eN ?_
 refine rG ?_;refine B8 ?_;refine B8 ?_;refine A3 (N3 Tryz.func173 rfl rfl rfl (ZP _ g (hg.up H) (ZY ho H) (by (try dsimp only);omega) r (hr.up H) (by (try dsimp only);omega) hT) ?_);rintro _ w ⟨b1,M2,c3,F4,rfl,hF5,hM6,hfo7,Hc⟩
 replace H:Hp _ w _ ([.obj b1 (B7 kA M2 c3)]):=H.call Hc
 clear Hc
 refine A3 (N3 Tryz.func172 rfl rfl rfl (ZS _ b1 c3 M2 F4 true hF5 hM6 (H.has _ (E2 (i:=0) rfl)) (ZZ hfo7 zO)) ?_);rintro _ w ⟨a8,k9,R10,hth11,rfl,Hc⟩
 replace H:=H.callP (L1:=[.obj b1 (B7 kA M2 c3)]) (Lr:=[]) (LL:=[.obj b1 (B7 kA M2 c3)]) (.refl _) rfl Hc (.refl _)
 clear Hc
 replace H:Hp _ w _ ([_,.own a8 R10.length k9 ((R10).flatMap C1) 34 32]):=H
 refine aZ ?_;refine eN ?_
 refine l9 ?_
 refine w4 (v:=.slice (hd a8) R10.length k9) Tryz.results135 rfl ?_
 refine⟨_,rfl,?_⟩
 exact⟨_,_,_,Aa hth11 hfo7,rfl,H.sub (.cons _ (.cons_cons _ (P6 _)))⟩
theorem Ac(w0:World)(g:Gl Ob)(hg:g.ok uH 33 w0)(ho:∀o∈g.l,o.data.ok w0/\o.data.len<=1048576)(hgm:g.len<=65536)(r:Gl A6)(hr:r.ok C1 32 w0)(hrm:r.len<=65536)(hT:HT g.l w0):
  Ret Tryz.prog 131 [g.v,r.v] w0 fun v w'=>∃a k R,(RisA R/\∀k∈R,(Z3 g.l k).isSome=true)/\v=.slice (hd a) R.length k/\Hp w0 w' [] [.own a R.length k (R.flatMap C1) 34 32]:=by
 refine T5 Tryz.func131 rfl Tryz.ntmps131 (by simp) ?_
 have H:=Hp.refl w0 []
 have hgl:=hg.ln
 have qX:=hr.ln
 refine rG ?_;refine aZ ?_;refine eN ?_
 refine rG ?_;refine B8 ?_;refine B8 ?_;refine A3 (N3 Tryz.func173 rfl rfl rfl (ZP _ g (hg.up H) (ZY ho H) (by (try dsimp only);omega) r (hr.up H) (by (try dsimp only);omega) hT) ?_);rintro _ w ⟨b1,M2,c3,F4,rfl,hF5,hM6,hfo7,Hc⟩
 replace H:Hp _ w _ ([.obj b1 (B7 kA M2 c3)]):=H.call Hc
 clear Hc
 refine A3 (N3 Tryz.func172 rfl rfl rfl (ZS _ b1 c3 M2 F4 false hF5 hM6 (H.has _ (E2 (i:=0) rfl)) (ZZ hfo7 zO)) ?_);rintro _ w ⟨a8,k9,R10,hth11,rfl,Hc⟩
 replace H:=H.callP (L1:=[.obj b1 (B7 kA M2 c3)]) (Lr:=[]) (LL:=[.obj b1 (B7 kA M2 c3)]) (.refl _) rfl Hc (.refl _)
 clear Hc
 replace H:Hp _ w _ ([_,.own a8 R10.length k9 ((R10).flatMap C1) 34 32]):=H
 refine aZ ?_;refine eN ?_
 refine l9 ?_
 refine w4 (v:=.slice (hd a8) R10.length k9) Tryz.results131 rfl ?_
 refine⟨_,rfl,?_⟩
 exact⟨_,_,_,Aa hth11 hfo7,rfl,H.sub (.cons _ (.cons_cons _ (P6 _)))⟩
theorem Ad{α:Type}{enc:α->List Value}{G:Nat->Nat->Ow}{b z:Nat}:∀(ys:List α) (o:Nat),(∀(i:Nat) y,ys[i]? =some y->(enc y).length=z/\FzAt G b (o+i*z) (enc y))->FzAt G b o (ys.flatMap enc)
|[],_,_=>fun k x h=>by simp at h
|y::ys,o,h=>fun k x hk=>by
  obtain⟨h1,h2⟩:=h 0 y rfl
  rw[iA]at hk
  by_cases hz:k<z
  ·rw[N5 zO]at hk
   have:=h2 k x hk
   rwa [Nat.zero_mul,s9]at this
  rw[L7 zO,h1]at hk
  have:=Ad ys (o+z) (fun i y' hy=>by
   obtain⟨h3,h4⟩:=h (i+1) y' hy
   exact⟨h3,by rw[G7,Nat.add_comm (i*z) z, <-O8]at h4;exact h4⟩) (k-z) x hk
  rwa [show o+z+(k-z)=o+k by omega]at this
theorem NZ{α:Type}{enc:α->List Value}{hh:Nat->Nat->V}{t z n:Nat}{g:Nat->V}{Q:Nat->α->Prop}(H:Wd X0 X hh lv c w0 w)(hv:repv X lv' c' (.sl t z n g) x)(hd:∀i,i<n->∀es,rep X (g i) [] 2 es->es.length=z->∃y,enc y=es/\Q i y):
  ∃L:Gl α,x=L.v/\L.ok enc z w/\L.len=n/\(∀i,i<n->∃y,L.l[i]? =some y/\Q i y)/\(0<n->∃b o,L.a=some ⟨b,o,none⟩/\FzAt X.G b o (L.l.flatMap enc)/\(∀v∈L.l.flatMap enc,v.oneCell'=true)):=by
 obtain⟨hz,a,cap,e1,e2,e3,e4,e5,e6⟩:=hv
 have e1:x=.slice a n cap:=by simpa using e1
 by_cases hn:n=0
 ·subst hn
  exact⟨⟨a,0,cap,[]⟩,e1,⟨.inl rfl,rfl,e2,e3,fun c h=>by cases h⟩,rfl,fun i h=>absurd h zO,fun h=>absurd h zO⟩
 rcases e6 with⟨_,h2⟩|⟨b,o,rfl,hw,_⟩
 ·omega
 have build:∀m,m<=n->∃ys:List α,ys.length=m/\∀(i:Nat) y,ys[i]? =some y->Q i y/\(enc y).length=z/\(∀v∈enc y,v.oneCell'=true)/\FzAt X.G b (o+i*z) (enc y):=by
  intro m
  induction m with
 |zero=>intro _;exact⟨[],rfl,fun i p hp=>by simp at hp⟩
 |succ m ih=>
   intro hm
   obtain⟨ys,p1,p2⟩:=ih zO
   obtain⟨es,r1,r2,r3,r4⟩:=hw m zO
   obtain⟨y,rfl,hq⟩:=hd m zO es r1 r2
   refine⟨ys++[y],by simp[p1],fun i y' hp=>?_⟩
   by_cases hi:i<m
   ·rw[N5 zO]at hp;exact p2 i y' hp
   have:i=m:=by have:=(N0.1 hp).1;simp[p1]at this;omega
   subst this
   rw[L7 zO,p1,bN]at hp
   cases hp;exact⟨hq,r2,o5 r3 r1,r4⟩
 obtain⟨ys,p1,p2⟩:=build n (B3 _)
 have lM:∀y∈ys,∃i:Nat,ys[i]? =some y:=fun y hy=>CM hy
 have dG:∀v∈ys.flatMap enc,v.oneCell'=true:=fun v hv=>by
  obtain⟨y,hy,h2⟩:=List.mem_flatMap.1 hv
  obtain⟨i,hi⟩:=lM y hy
  exact(p2 i y hi).2.2.1 v h2
 have W5:=Ad (G:=X.G) (b:=b) (z:=z) ys o fun i y hy=>⟨(p2 i y hy).2.1,(p2 i y hy).2.2.2⟩
 refine⟨⟨some ⟨b,o,none⟩,n,cap,ys⟩,e1,⟨H.rd dG W5,p1,e2,e3,fun y hy=>?_⟩,rfl,fun i hi=>?_,fun _=>⟨b,o,rfl,W5,dG⟩⟩
 ·obtain⟨i,hi⟩:=lM y hy
  exact(p2 i y hi).2.1
 have G8:ys[i]? =some ys[i]:=B6 zO
 exact⟨_,G8,(p2 i _ G8).1⟩
theorem Ae{m:MemPlace->Prop}(h:w.keptBut w' m)(h1:∀b i,¬ m (.cell b i))(h2:∀b,¬ m (.map b))(b:Nat)(hb:b<w.heap.size):w'.heap[b]? =w.heap[b]? :=by
 have:=h.2.2 b hb
 cases e:w.heap[b]? with
|none=>rw[e]at this;cases e':w'.heap[b]? <;>rw[e']at this<;>simp at this ⊢
|some O=>
  rw[e]at this
  cases e':w'.heap[b]? with
 |none=>rw[e']at this;cases O<;>simp at this
 |some O'=>
   rw[e']at this
   cases O<;>cases O'<;>simp only at this<;>try (exact this)
   ·obtain⟨q1,q2,q3,q4⟩:=this
    subst q1 q2
    congr 2
    exact IS fun j=>q4 j (h1 b j)
   rcases this with q|⟨q1,q2⟩
   ·exact absurd q (h2 b)
   subst q1 q2;rfl
def Cx.only(X:Cx)(ν:Nat):Cx:=⟨fun b i=>match X.G b i with|.fz x=>.fz x|_=>.no,fun _ _=>none,fun _ _ _=>True,0,ν,false⟩
theorem uJ{ν b:Nat} :(X.only ν).G b i=.fz x↔X.G b i=.fz x:=by
 show(match X.G b i with|.fz x=>Ow.fz x|_=>.no)=.fz x↔_
 cases X.G b i<;>simp
theorem yS{ν b:Nat}(h:(X.only ν).G b i≠ .no):∃x,X.G b i=.fz x:=by
 cases e:X.G b i with
|fz x=>exact⟨x,rfl⟩
|_=>exact absurd (show(match X.G b i with|.fz x=>Ow.fz x|_=>.no)=.no by rw[e]) h
theorem Vt{hh:Nat->Nat->V}(H:Wd X0 X hh lv c w0 w0)(hs:w0.heap.size<=w.heap.size)(hf:∀b,b<w0.heap.size->w.heap[b]? =w0.heap[b]?):Wd (X.only w.heap.size) (X.only w.heap.size) h0 [] 16 w w:=by
 have fz:∀b i x,(X.only w.heap.size).G b i=.fz x->FzOk (X.only w.heap.size) w b i x:=fun b i x h=>by
  have h:=uJ.1 h
  have hb:=H.ex b i (by rw[h];simp)
  exact(H.fz b i x h).move (fun _ _ _ h=>uJ.2 h) (by unfold World.cell?; rw[hf b hb]) (fun _ _ hm=>by rw[hf b hb];exact hm)
 exact { kb:=zH w _,tape:=rfl,fz0:=fun _ _ _ h=>h,no0:=fun _ _ _ h=>.inl h,mp0:=fun _ _ _ h=>h,ρ0:=fun _ _ _ h=>h
         ex:=fun b i h=>by obtain⟨x,hx⟩:=yS h;exact X6 (H.ex b i (by rw[hx];simp)) hs
         fz:=fz
         tp:=fun b i t h=>by obtain⟨x,hx⟩:=yS (by rw[h];simp);rw[uJ.2 hx]at h;cases h
         rt:=fun _ _ _ _ _ h=>(by cases h)
         c2:=by omega,lvc:=fun _ h=>(by cases h),ρc:=fun _ _ _ h=>(by cases h),inv:=trivial,imo:=fun _ _ _ _ _ _ _ h=>h,κc:=L8 _,νe:=rfl,we:=rfl
         gz:=fun q hq=>by
          obtain⟨h1,C,T,fr,h2,h3⟩:=H.gz1 (X':=X.only w.heap.size) (fun _ _ _ h=>uJ.2 h) q hq
          exact⟨h1,C,T,fr,by rw[hf q (Z4.1 h2).1];exact h2,h3⟩
         ν0:=B3 _,νs:=B3 _
         nf:=fun b hb ⟨i,hi⟩=>by
          obtain⟨x,hx⟩:=yS hi
          have h1:=H.ex b i (by rw[hx];simp)
          have:w.heap.size<=b:=hb
          omega}
theorem Vu{x:Itm}(h:rep X (I3 x) [] 2 es):∃y:It,mY y=es/\True:=by
 obtain⟨a3,d3,r3,⟨a2,d2,r2,⟨a1,d1,r1,⟨a0,d0,r0,hz,q0⟩,q1⟩,q2⟩,q3⟩:=h
 have hz:a0=[]:=hz
 have q0:d0=[.string ⟨x.name.toArray⟩]:=q0.1
 have q1:d1=[.int .i64 x.kind]:=q1.1
 have q2:x.of.length=32/\d2=x.of.map E9:=q2
 have q3:d3=[.int .i64 x.size]:=q3.1
 refine⟨⟨x.name,x.kind,⟨x.of,q2.1⟩,x.size⟩,?_,zT⟩
 have q2':=q2.2
 subst r3 r2 r1 r0 hz q0 q1 q2' q3
 simp[mY]
theorem Vv{hh:Nat->Nat->V}{d:By}{v:Value}(H:Wd X0 X hh lv c w0 w0)(hv:repv X [] 2 (.bl q d) v)(Hk:Hp w0 w [] L):Ret Tryz.prog 186 [v] w (HO w0 w):=by
 have hf:∀b,b<w0.heap.size->w.heap[b]? =w0.heap[b]? :=fun b hb=>Hk.frame b hb (by simp)
 have W:=Vt H Hk.size hf
 have vF:repv (X.only w.heap.size) [] 16 (.bl 0 d) v:=by
  obtain⟨a,cap,h1,h2,h3,h4,h5,h6⟩:=hv
  exact⟨a,cap,h1,h2,h3,zO,fun e=>by omega,h6.imp (fun⟨_,q⟩=>⟨.inr rfl,q⟩) fun⟨b,o,q1,q2,_⟩=>⟨b,o,q1,fun k x hk=>uJ.2 (q2 k x hk),fun ht=>by simp at ht⟩⟩
 refine(YF d (X.only w.heap.size) w [v] rfl (fun i u x h1 h2=>?_) ⟨fun _ _=>rfl,rfl,fun _ _ _ _=>trivial⟩ W (fun h=>by cases h)).mono fun x w' ⟨X',ho,A0,out,⟨_,l,e,eo,_,hl,_⟩,hr,W'⟩=>?_
 ·match i,h1,h2 with
 |0,h1,h2=>cases h1;cases h2;exact vF
 subst eo
 obtain⟨C,rfl,hC,hc⟩:=hr
 obtain⟨y0,y1,y2⟩:=hc 0 (by show 0<2;omega)
 obtain⟨z0,z1,z2⟩:=hc 1 (by show 1<2;omega)
 have hz:z0=.int .i64 e:=(M0 z2).1
 obtain⟨I,i1,i2,i3,_,i5⟩:=NZ (enc:=mY) (Q:=fun _ _=>True) W' y2 fun i hi es iI _=>Vu iI
 have hCe:C= #[I.v,VI e]:=by
  have h2:C.toList.length=2:=hC
  apply U1
  match h:C.toList,h2 with
 |[p,q],_=>
   have e0:C.toList[0]? =some y0:=by rw[uU];exact y1
   have e1:C.toList[1]? =some z0:=by rw[uU];exact z1
   rw[h]at e0 e1
   simp only[OW,CP,F1]at e0 e1
   rw[e0,e1,i1,hz]
 have nm:∀b i,¬ EJ (X.only w.heap.size) (.cell b i):=fun b i h=>by
  rcases h with⟨r,j,k,h⟩|⟨t,h⟩
  ·obtain⟨x,hx⟩:=yS (by rw[h];simp);rw[uJ.2 hx]at h;cases h
  obtain⟨x,hx⟩:=yS (by rw[h];simp);rw[uJ.2 hx]at h;cases h
 have bR:∀b,b<w.heap.size->w'.heap[b]? =w.heap[b]? :=Ae W'.kb nm fun b h=>by cases h.1
 have G2:w.heap.size<=w'.heap.size:=W'.νs
 have P4:Hp w w' [] []:=⟨W'.kb.1,W'.tape,W'.kb.2.1,G2,fun b hb _=>bR b hb,(by simp),(by simp),.nil⟩
 by_cases hn:l.length=0
 ·refine⟨I,e,[],by rw[hCe],i2.ln,zO,fun w2 L2 _ _=>?_,P4⟩
  have:I.l=[]:=j7.1 (by rw[i2.ln,i3];exact hn)
  exact⟨.inl (by rw[this];rfl),i2.ln,i2.le,i2.mx,i2.sz⟩
 obtain⟨b,o,ia,W5,dG⟩:=i5 zO
 have hpos:0<(I.l.flatMap mY).length:=by
  rw[yG i2.sz,i2.ln,i3];omega
 have h0:=W5 0 _ (B6 hpos)
 have jX:=W'.ex b _ (by rw[h0];simp)
 obtain⟨O,hO⟩:∃O,w'.heap[b]? =some O:=⟨_,zG jX⟩
 have stay:∀w2:World,w2.heap[b]? =some O->I.ok mY 35 w2:=fun w2 h2=>⟨by
  rcases i2.rd with h|⟨b',o',C',T',bQ,h3,h4,h5⟩
  ·exact .inl h
  rw[ia]at h3
  cases h3
  exact .inr ⟨b,o,C',T',bQ,ia,by rw[h2, <-hO];exact h4,h5⟩,i2.ln,i2.le,i2.mx,i2.sz⟩
 by_cases hb:b<w.heap.size
 ·have T2:b<w0.heap.size:=by
   have D5:(X.only w.heap.size).G b (o+0)≠ .no:=fun eJ=>by
    rcases W'.no0 b _ hb eJ with h|⟨t,h⟩
    ·rw[h]at h0;cases h0
    rw[h]at h0
    have:O0 t=(I.l.flatMap mY)[0]:=by injection h0
    exact oV (t:=t) (by rw[this];exact dG _ (dY _))
   obtain⟨x,hx⟩:=yS D5
   exact H.ex b _ (by rw[hx];simp)
  refine⟨I,e,[],by rw[hCe],i2.ln,zO,fun w2 L2 H2 _=>stay w2 ?_,P4⟩
  rw[H2.frame b T2 (by simp), <-hf b T2, <-bR b hb,hO]
 refine⟨I,e,[.obj b O],by rw[hCe],i2.ln,zO,fun w2 L2 H2 hs=>stay w2 (H2.has _ (hs.subset (O9.2 rfl))),⟨P4.os,P4.tape,P4.output,G2,P4.frame,fun c hc=>?_,fun c hc b' hk=>?_,List.pairwise_singleton _ _⟩⟩
 ·rw[O9.1 hc];exact hO
 rw[O9.1 hc]at hk
 have:b=b':=by simpa [Ch.key] using hk
 exact .inr zO
theorem Vw{x:Obj}(h:rep X (C3 x) [] 2 es):∃y:Ob,uH y=es/\(y.of.1=x.of/\y.data.l=x.data/\repv X [] 2 (.bl 0 x.data) y.data.v/\y.data.len=x.data.length):=by
 obtain⟨a1,d1,r1,⟨a0,d0,r0,hz,q0⟩,q1⟩:=h
 have hz:a0=[]:=hz
 have q0:x.of.length=32/\d0=x.of.map E9:=q0
 have q1:rep X (.bl 0 x.data) [] 2 d1:=q1
 obtain⟨a,cap,e1,h2⟩:=q1
 have q0':=q0.2
 subst r1 r0 hz q0' e1
 exact⟨⟨⟨x.of,q0.1⟩,⟨a,x.data.length,cap,x.data⟩⟩,by simp[uH,Sl.v],rfl,rfl,⟨a,cap,rfl,h2⟩,rfl⟩
theorem Vx{x:By}(h:rep X (eI x) [] 2 es):∃y:A6,C1 y=es/\True:=⟨⟨x,h.1⟩,h.2.symm,zT⟩
theorem HR{f:FuncId}(hf:∀(w0:World) (g:Gl Ob),g.ok uH 33 w0->(∀o∈g.l,o.data.ok w0/\o.data.len<=1048576)->g.len<=65536->∀(r:Gl A6),r.ok C1 32 w0->r.len<=65536->HT g.l w0->
   Ret Tryz.prog f [g.v,r.v] w0 fun v w'=>∃a k R,(RisA R/\∀k∈R,(Z3 g.l k).isSome=true)/\v=.slice (hd a) R.length k/\Hp w0 w' [] [.own a R.length k (R.flatMap C1) 34 32])
  (n m:Nat)(g:Nat->Obj)(h:Nat->By)(hn:n<=65536)(hm:m<=65536)(hd:∀i,i<n->(g i).data.length<=100000):Sat Tryz.prog f [.sl 0 33 n fun i=>C3 (g i),.sl 0 32 m fun i=>eI (h i)] [] (fun out A0=>∃l:List By,out=B4 2 32 eI l/\A0=[2]/\l.length<=n/\∀x∈l,x∈(List.range n).map fun i=>(g i).of):=fun X w vs D8 aQ hX H _=>by
 match vs,D8 with
|[x0,x1],_=>
 obtain⟨G,g1,g2,g3,g4,_⟩:=NZ (enc:=uH) H (aQ 0 _ _ rfl rfl) fun i hi es iI _=>Vw iI
 obtain⟨R,r1,r2,r3,_⟩:=NZ (enc:=C1) (Q:=fun _ _=>True) H (aQ 1 _ _ rfl rfl) fun i hi es iI _=>Vx iI
 subst g1 r1
 have lM:∀o∈G.l,∃i,i<n/\(o.of.1=(g i).of/\o.data.l=(g i).data/\repv X [] 2 (.bl 0 (g i).data) o.data.v/\o.data.len=(g i).data.length):=fun o ho=>by
  obtain⟨i,hi⟩:=CM ho
  have W4:i<n:=by have:=(N0.1 hi).1;rw[g2.ln,g3]at this;exact this
  obtain⟨y,h1,h2⟩:=g4 i W4
  rw[hi]at h1;cases h1;exact⟨i,W4,h2⟩
 refine(hf w G g2 (fun o ho=>?_) zO R r2 zO fun o ho w2 L Hk=>?_).mono fun v w' ⟨a,k,Q,⟨q1,q2⟩,q3,Hk⟩=>?_
 ·obtain⟨i,hi,e1,e2,e3,e4⟩:=lM o ho
  have hl:=hd i hi
  refine⟨?_,zO⟩
  obtain⟨a,cap,f1,f2,f3,f4⟩:=xV (lv:=[]) H (repv.mono (v:=.bl 0 (g i).data) (c:=2) (c':=16) (Cx.le.rfl' X [] 2) zO e3)
  have f1:Value.slice o.data.a o.data.len o.data.cap=.slice a (g i).data.length cap:=f1
  simp only[Value.slice.injEq]at f1
  obtain⟨k1,k2,k3⟩:=f1
  exact⟨by rw[e2,k1];exact f4,by rw[e2,e4],zO,by rw[e4];omega⟩
 ·obtain⟨i,hi,e1,e2,e3,e4⟩:=lM o ho
  exact Vv H e3 Hk
 obtain⟨X',w1,w2⟩:=ZU (nm:=2) H Hk (fun s hs=>by cases hs) (by rw[hX.κ];omega) zO
 subst q3
 have B1:=BP (m:=G.l.map (·.of)) q1.nd fun x hx=>by
  obtain⟨s,hs⟩:=hU.1 (q2 x hx)
  obtain⟨o,ho,e,_⟩:=yO hs
  exact J3.2 ⟨o,ho,e⟩
 rw[J4,g2.ln,g3]at B1
 exact⟨X',[],[2],_,⟨rfl,Q.map (·.1),rfl,rfl,by rw[J4];exact B1,fun x hx=>by
  obtain⟨y,hy,rfl⟩:=J3.1 hx
  obtain⟨s,hs⟩:=hU.1 (q2 y hy)
  obtain⟨o,ho,e,_⟩:=yO hs
  obtain⟨i,hi,e1,_⟩:=lM o ho
  exact J3.2 ⟨i,qF.2 hi,by rw[<-e1,e]⟩⟩,w1,by
  have e:S5 ([]:List (Nat×V))=h0:=by funext r j;cases j<;>rfl
  rw[e];exact w2⟩
theorem Vy:type_of% (HR Ab):=HR Ab
theorem Vz:type_of% (HR Ac):=HR Ac
theorem Wa(n:Nat)(g:Nat->TenR)(hn:n<=1000000):SatM Tryz.prog false 54 [.sl 0 38 n fun i=>B2 (g i)] [] (fun out ho A0=>out=.os 16 38/\ho=[(16,.ar 38 n fun i=>B2 (g i))]/\A0=[16]):=by
 refine fM false Tryz.func54 fun X0 w0 hX hm=>?_
 refine mM fO true ?_;refine c0 (n) (fun h1=>?_) ?_
 ·subst h1
  exact xP (fn:=Tryz.f54) hX 38 (fun _=>.un) (fun i=>B2 (g i)) zK (⟨rfl,rfl,rfl⟩)
 refine cC (n*136<=140737488355328) ?_
 exact xW hX (.os 16 38) ⟨rfl,rfl,rfl⟩
theorem OA(n:Nat)(g:Nat->Obj)(hn:n<=1000000):SatM Tryz.prog false 57 [.sl 0 33 n fun i=>C3 (g i)] [] (fun out ho A0=>out=.os 16 33/\ho=[(16,.ar 33 n fun i=>C3 (g i))]/\A0=[16]):=by
 refine fM false Tryz.func57 fun X0 w0 hX hm=>?_
 refine mM fO true ?_;refine c0 (n) (fun h1=>?_) ?_
 ·subst h1
  exact xP (fn:=Tryz.f57) hX 33 (fun _=>.un) (fun i=>C3 (g i)) zK (⟨rfl,rfl,rfl⟩)
 refine cC (n*56<=140737488355328) ?_
 exact xW hX (.os 16 33) ⟨rfl,rfl,rfl⟩
theorem OC(n:Nat)(g:Nat->Snp)(hn:n<=1000000):SatM Tryz.prog false 58 [.sl 0 36 n fun i=>C8 (g i)] [] (fun out ho A0=>out=.os 16 36/\ho=[(16,.ar 36 n fun i=>C8 (g i))]/\A0=[16]):=by
 refine fM false Tryz.func58 fun X0 w0 hX hm=>?_
 refine mM fO true ?_;refine c0 (n) (fun h1=>?_) ?_
 ·subst h1
  exact xP (fn:=Tryz.f58) hX 36 (fun _=>.un) (fun i=>C8 (g i)) zK (⟨rfl,rfl,rfl⟩)
 refine cC (n*72<=140737488355328) ?_
 exact xW hX (.os 16 36) ⟨rfl,rfl,rfl⟩
theorem HV(n:Nat)(g:Nat->Doo)(hn:n<=1000000):SatM Tryz.prog false 59 [.sl 0 33 n fun i=>D7 (g i)] [] (fun out ho A0=>out=.os 16 33/\ho=[(16,.ar 33 n fun i=>D7 (g i))]/\A0=[16]):=by
 refine fM false Tryz.func59 fun X0 w0 hX hm=>?_
 refine mM fO true ?_;refine c0 (n) (fun h1=>?_) ?_
 ·subst h1
  exact xP (fn:=Tryz.f59) hX 33 (fun _=>.un) (fun i=>D7 (g i)) zK (⟨rfl,rfl,rfl⟩)
 refine cC (n*40<=140737488355328) ?_
 exact xW hX (.os 16 33) ⟨rfl,rfl,rfl⟩
theorem Wb(n:Nat)(g:Nat->Ent)(hn:n<=1000000):SatM Tryz.prog false 56 [.sl 0 38 n fun i=>H7 (g i)] [] (fun out ho A0=>out=.os 16 38/\ho=[(16,.ar 38 n fun i=>H7 (g i))]/\A0=[16]):=by
 refine fM false Tryz.func56 fun X0 w0 hX hm=>?_
 refine mM fO true ?_;refine c0 (n) (fun h1=>?_) ?_
 ·subst h1
  exact xP (fn:=Tryz.f56) hX 38 (fun _=>.un) (fun i=>H7 (g i)) zK (⟨rfl,rfl,rfl⟩)
 refine cC (n*88<=140737488355328) ?_
 exact xW hX (.os 16 38) ⟨rfl,rfl,rfl⟩
theorem Wc(n:Nat)(g:Nat->Int)(hn:n<=1000000):SatM Tryz.prog false 55 [.sl 0 1 n fun i=>.i .u64 (g i)] [] (fun out ho A0=>out=.os 16 1/\ho=[(16,.ar 1 n fun i=>eU (g i))]/\A0=[16]):=by
 refine fM false Tryz.func55 fun X0 w0 hX hm=>?_
 refine mM fO true ?_;refine c0 (n) (fun h1=>?_) ?_
 ·subst h1
  exact xP (fn:=Tryz.f55) hX 1 (fun _=>.un) (fun i=>.i .u64 (g i)) zK (⟨rfl,rfl,rfl⟩)
 refine cC (n*8<=140737488355328) ?_
 exact xW hX (.os 16 1) ⟨rfl,rfl,rfl⟩
theorem bc{p:Prop}(h:p:=by first|omega|(simp only;omega)):p:=h
structure StB (s:StaR) (n:Nat) (tg:Nat->TenR):Prop where
 hn:n<=1000
 hr:s.nr<=100000
 hl:s.nl<=100000
 hb:∀i,i<n->(tg i).nb<=65536/\(tg i).ns<=65536/\(tg i).nd<=65536
 hd:∀i,i<n->∀j,j<(tg i).nb->((tg i).gb j).data.length<=100000
def We(a:Nat)(t:TenR):V:=A1 [.s t.name,.bs 32 t.key,.i .i64 t.quota,.i .i64 t.next,.os a 33,.os (a+1) 36,.os (a+2) 33]
def yT(a:Nat)(s:StaR):V:=A1 [.bs 32 s.root,.i .i64 s.delay,.i .u64 s.serial,.os a 38,.os (a+1) 1,.os (a+2) 38,.bs 32 s.head]
def Wf(a:Nat)(t:TenR):List (Nat×V):=[(a,.ar 33 t.nb fun i=>C3 (t.gb i)),(a+1,.ar 36 t.ns fun i=>C8 (t.gs i)),(a+2,.ar 33 t.nd fun i=>D7 (t.gd i))]
def yU(a:Nat)(T:V)(s:StaR):List (Nat×V):=[(a,T),(a+1,.ar 1 s.nr fun i=>eU (s.gr i)),(a+2,.ar 38 s.nl fun i=>H7 (s.gl i))]
def Wg(n:Nat)(tg:Nat->TenR)(i0 a:Nat):V:=.fo 38 (.ar 38 n fun i=>B2 (tg i)) i0 (We a (tg i0))
theorem Af(s:StaR)(n:Nat)(tg:Nat->TenR)(i0:Nat)(hB:StB s n tg):SatM Tryz.prog false 25 [I9 (.sl 0 38 n fun i=>B2 (tg i)) s] [] (fun out ho A0=>(i0<n/\out=yT 16 s/\ho=yU 16 (Wg n tg i0 20) s++Wf 20 (tg i0)/\A0=[16,17,18,20,21,22])\/(n<=i0/\out=yT 16 s/\ho=yU 16 (.ar 38 n fun i=>B2 (tg i)) s/\A0=[16,17,18])):=by
 refine fM false Tryz.func25 fun X0 w0 hX hm=>?_
 have hn:=hB.hn
 have hr:=hB.hr
 have hl:=hB.hl
 refine mM fO true ?_;refine kO [] (Wa n (fun i=>(tg i)) (bc)) ?_;rintro out ho A0 ⟨rfl,rfl,rfl⟩
 refine kO [] (Wc s.nr (fun i=>(s.gr i)) (bc)) ?_;rintro out ho A0 ⟨rfl,rfl,rfl⟩
 refine kO [] (Wb s.nl (fun i=>(s.gl i)) (bc)) ?_;rintro out ho A0 ⟨rfl,rfl,rfl⟩
 refine Ox hX (fun(k:Nat)=>[(1,.pr 16 0 []),(2,.pr 80 0 []),(20,.i .i64 (n:Int)),(21,.i .i64 (k:Int)),(1000003,A2 [])]) (fun(k:Nat)=>[(16,A1 [.bs 32 s.root,.i .i64 s.delay,.i .u64 s.serial,.os 544 38,.os 672 1,.os 736 38,.bs 32 s.head]),(544,.ar 38 n fun i=>B2 (tg i)),(672,.ar 1 s.nr fun i=>.i .u64 (s.gr i)),(736,.ar 38 s.nl fun i=>H7 (s.gl i)),(80,A1 [.bs 32 (replicate 32 0),.i .i64 0,.i .u64 0,.sl 1 38 0 fun _=>.un,.sl 1 1 0 fun _=>.un,.sl 1 38 0 fun _=>.un,.bs 32 (replicate 32 0)])]) (fun(k:Nat)=>[(1,.pr 16 0 []),(2,.pr 80 0 []),(20,.i .i64 (n:Int)),(21,.i .i64 (k:Int)),(1000003,A2 [])]) (fun(k:Nat)=>[(16,A1 [.bs 32 s.root,.i .i64 s.delay,.i .u64 s.serial,.os 544 38,.os 672 1,.os 736 38,.bs 32 s.head]),(544,.fo 38 (.ar 38 n fun i=>B2 (tg i)) i0 (A1 [.s ((tg i0).name),.bs 32 ((tg i0).key),.i .i64 ((tg i0).quota),.i .i64 ((tg i0).next),.os 20 33,.os 21 36,.os 22 33])),(20,.ar 33 ((tg i0).nb) fun i=>C3 ((tg i0).gb i)),(21,.ar 36 ((tg i0).ns) fun i=>C8 ((tg i0).gs i)),(22,.ar 33 ((tg i0).nd) fun i=>D7 ((tg i0).gd i)),(672,.ar 1 s.nr fun i=>.i .u64 (s.gr i)),(736,.ar 38 s.nl fun i=>H7 (s.gl i)),(80,A1 [.bs 32 (replicate 32 0),.i .i64 0,.i .u64 0,.sl 1 38 0 fun _=>.un,.sl 1 1 0 fun _=>.un,.sl 1 38 0 fun _=>.un,.bs 32 (replicate 32 0)])]) (fun(p:Bool×Nat)=>(bif p.1 then i0<p.2 else p.2<=i0)/\p.2<=n) (fun(k:Nat)=>n-k) [(544,544),(672,672),(736,736)] [544,672,736] [20,21,22,544,672,736] 1360 0 (by dsimp only[cond_false];omega) ⟨v0,v0,v0,v0,v0,zT⟩ ⟨v0,v0,v0,v0,v0,zT⟩ ?_ ?_
 ·rintro k hI R hR iO
  dsimp only[cond_false,cond_true]at hI
  by_cases he:k=i0
  ·refine cB ((k:Int)<(n:Int)) (fun h1=>?_) fun h1=>?_
   ·have hb:=hB.hb k zO
    have hd:=hB.hd k zO
    refine gR 544 (.ar 38 n fun i=>B2 (tg i)) (.fo 38 (.ar 38 n fun i=>B2 (tg i)) k (B2 (tg k))) (aA zO rfl) ?_;refine cC ((0:Int)<=(k:Int)/\(k:Int)<(n:Int)) ?_;refine cC (k=k) ?_;refine cC (k=k) ?_;refine cC (k=k) ?_;refine kO [] (OA ((tg k).nb) (fun i=>((tg k).gb i)) (bc)) ?_;rintro out ho A0 ⟨rfl,rfl,rfl⟩
    refine kO [] (OC ((tg k).ns) (fun i=>((tg k).gs i)) (bc)) ?_;rintro out ho A0 ⟨rfl,rfl,rfl⟩
    refine kO [] (HV ((tg k).nd) (fun i=>((tg k).gd i)) (bc)) ?_;rintro out ho A0 ⟨rfl,rfl,rfl⟩
    refine cC (k=k) ?_;refine cC (k=k) ?_;refine cC (k=k) ?_;refine cC (k=k) ?_;refine cM hX (fun(j:Nat)=>[(1,.pr 16 0 []),(2,.pr 80 0 []),(4,.pr 544 0 [.e k 38 n]),(20,.i .i64 (n:Int)),(21,.i .i64 (k:Int)),(56,.i .i64 ((tg k).nb:Int)),(57,.i .i64 (j:Int)),(1000003,A2 [])]) (fun(j:Nat)=>[(16,A1 [.bs 32 s.root,.i .i64 s.delay,.i .u64 s.serial,.os 544 38,.os 672 1,.os 736 38,.bs 32 s.head]),(672,.ar 1 s.nr fun i=>.i .u64 (s.gr i)),(736,.ar 38 s.nl fun i=>H7 (s.gl i)),(80,A1 [.bs 32 (replicate 32 0),.i .i64 0,.i .u64 0,.sl 1 38 0 fun _=>.un,.sl 1 1 0 fun _=>.un,.sl 1 38 0 fun _=>.un,.bs 32 (replicate 32 0)]),(544,.fo 38 (.ar 38 n fun i=>B2 (tg i)) k (A1 [.s ((tg k).name),.bs 32 ((tg k).key),.i .i64 ((tg k).quota),.i .i64 ((tg k).next),.os 2848 33,.os 2912 36,.os 2976 33])),(2848,.ar 33 ((tg k).nb) fun i=>C3 ((tg k).gb i)),(2912,.ar 36 ((tg k).ns) fun i=>C8 ((tg k).gs i)),(2976,.ar 33 ((tg k).nd) fun i=>D7 ((tg k).gd i))]) (fun(j:Nat)=>j<=(tg k).nb) (fun(j:Nat)=>(tg k).nb-j) [544,672,736,2848,2912,2976] 3984 0 zO ?_;rintro j hJ R1 iN
    refine cB ((j:Int)<((tg k).nb:Int)) (fun h2=>?_) fun h2=>?_
    ·have hdj:=hd j zO
     refine gR 2848 (.ar 33 ((tg k).nb) fun i=>C3 ((tg k).gb i)) (.fo 33 (.ar 33 ((tg k).nb) fun i=>C3 ((tg k).gb i)) j (C3 ((tg k).gb j))) (aA zO rfl) ?_;refine cC (k=k) ?_;refine cC (k=k) ?_;refine cC ((0:Int)<=(j:Int)/\(j:Int)<((tg k).nb:Int)) ?_;refine cC (j=j) ?_;refine cK [] (tZ (((tg k).gb j).data) bd) ?_;rintro out A0 ⟨rfl,rfl⟩
     refine cC ((0:Int)<=(j:Int)/\(j:Int)<((tg k).nb:Int)) ?_;refine cC (j=j) ?_;refine gR 2848 (.fo 33 (.ar 33 ((tg k).nb) fun i=>C3 ((tg k).gb i)) j (A1 [.bs 32 (((tg k).gb j).of),.bl 5010 (((tg k).gb j).data)])) (.ar 33 ((tg k).nb) fun i=>C3 ((tg k).gb i)) (fC rfl rfl rfl) ?_;exact cA hX (iN (j+1) zO zO) (hS:=⟨v0,v0,v0,v0,v0,v0,(vS bd),v0,zT⟩)
    exact cA hX (iO (k+1) (by dsimp only[cond_false,cond_true];omega) zO) (hS:=⟨v0,v0,v0,(vS bd),v0,zT⟩) (hH:=⟨v0,(vT (u:=.fo 38 (.ar 38 n fun i=>B2 (tg i)) k (A1 [.s ((tg k).name),.bs 32 ((tg k).key),.i .i64 ((tg k).quota),.i .i64 ((tg k).next),.os 20 33,.os 21 36,.os 22 33])) (.of_eq (by rw[he]))),(vT (u:=.ar 33 ((tg k).nb) fun i=>C3 ((tg k).gb i)) (.of_eq (by rw[he]))),(vT (u:=.ar 36 ((tg k).ns) fun i=>C8 ((tg k).gs i)) (.of_eq (by rw[he]))),(vT (u:=.ar 33 ((tg k).nd) fun i=>D7 ((tg k).gd i)) (.of_eq (by rw[he]))),v0,v0,v0,zT⟩)
   exact xW hX (A1 [.bs 32 s.root,.i .i64 s.delay,.i .u64 s.serial,.os 16 38,.os 17 1,.os 18 38,.bs 32 s.head]) (.inr ⟨zO,rfl,rfl,rfl⟩)
  refine cB ((k:Int)<(n:Int)) (fun h3=>?_) fun h3=>?_
  ·have hb:=hB.hb k zO
   have hd:=hB.hd k zO
   refine gR 544 (.ar 38 n fun i=>B2 (tg i)) (.fo 38 (.ar 38 n fun i=>B2 (tg i)) k (B2 (tg k))) (aA zO rfl) ?_;refine cC ((0:Int)<=(k:Int)/\(k:Int)<(n:Int)) ?_;refine cC (k=k) ?_;refine cC (k=k) ?_;refine cC (k=k) ?_;refine kO [] (OA ((tg k).nb) (fun i=>((tg k).gb i)) (bc)) ?_;rintro out ho A0 ⟨rfl,rfl,rfl⟩
   refine kO [] (OC ((tg k).ns) (fun i=>((tg k).gs i)) (bc)) ?_;rintro out ho A0 ⟨rfl,rfl,rfl⟩
   refine kO [] (HV ((tg k).nd) (fun i=>((tg k).gd i)) (bc)) ?_;rintro out ho A0 ⟨rfl,rfl,rfl⟩
   refine cC (k=k) ?_;refine cC (k=k) ?_;refine cC (k=k) ?_;refine cC (k=k) ?_;refine cM hX (fun(j:Nat)=>[(1,.pr 16 0 []),(2,.pr 80 0 []),(4,.pr 544 0 [.e k 38 n]),(20,.i .i64 (n:Int)),(21,.i .i64 (k:Int)),(56,.i .i64 ((tg k).nb:Int)),(57,.i .i64 (j:Int)),(1000003,A2 [])]) (fun(j:Nat)=>[(16,A1 [.bs 32 s.root,.i .i64 s.delay,.i .u64 s.serial,.os 544 38,.os 672 1,.os 736 38,.bs 32 s.head]),(672,.ar 1 s.nr fun i=>.i .u64 (s.gr i)),(736,.ar 38 s.nl fun i=>H7 (s.gl i)),(80,A1 [.bs 32 (replicate 32 0),.i .i64 0,.i .u64 0,.sl 1 38 0 fun _=>.un,.sl 1 1 0 fun _=>.un,.sl 1 38 0 fun _=>.un,.bs 32 (replicate 32 0)]),(544,.fo 38 (.ar 38 n fun i=>B2 (tg i)) k (A1 [.s ((tg k).name),.bs 32 ((tg k).key),.i .i64 ((tg k).quota),.i .i64 ((tg k).next),.os 2848 33,.os 2912 36,.os 2976 33])),(2848,.ar 33 ((tg k).nb) fun i=>C3 ((tg k).gb i)),(2912,.ar 36 ((tg k).ns) fun i=>C8 ((tg k).gs i)),(2976,.ar 33 ((tg k).nd) fun i=>D7 ((tg k).gd i))]) (fun(j:Nat)=>j<=(tg k).nb) (fun(j:Nat)=>(tg k).nb-j) [544,672,736,2848,2912,2976] 3984 0 zO ?_;rintro j hJ R1 iN
   refine cB ((j:Int)<((tg k).nb:Int)) (fun h4=>?_) fun h4=>?_
   ·have hdj:=hd j zO
    refine gR 2848 (.ar 33 ((tg k).nb) fun i=>C3 ((tg k).gb i)) (.fo 33 (.ar 33 ((tg k).nb) fun i=>C3 ((tg k).gb i)) j (C3 ((tg k).gb j))) (aA zO rfl) ?_;refine cC (k=k) ?_;refine cC (k=k) ?_;refine cC ((0:Int)<=(j:Int)/\(j:Int)<((tg k).nb:Int)) ?_;refine cC (j=j) ?_;refine cK [] (tZ (((tg k).gb j).data) bd) ?_;rintro out A0 ⟨rfl,rfl⟩
    refine cC ((0:Int)<=(j:Int)/\(j:Int)<((tg k).nb:Int)) ?_;refine cC (j=j) ?_;refine gR 2848 (.fo 33 (.ar 33 ((tg k).nb) fun i=>C3 ((tg k).gb i)) j (A1 [.bs 32 (((tg k).gb j).of),.bl 5010 (((tg k).gb j).data)])) (.ar 33 ((tg k).nb) fun i=>C3 ((tg k).gb i)) (fC rfl rfl rfl) ?_;exact cA hX (iN (j+1) zO zO) (hS:=⟨v0,v0,v0,v0,v0,v0,(vS bd),v0,zT⟩)
   refine gZ 2848 ?_
   refine gZ 2912 ?_;refine gZ 2976 ?_;refine gR 544 (.fo 38 (.ar 38 n fun i=>B2 (tg i)) k (A1 [.s ((tg k).name),.bs 32 ((tg k).key),.i .i64 ((tg k).quota),.i .i64 ((tg k).next),.sl 2848 33 ((tg k).nb) fun i=>C3 ((tg k).gb i),.sl 2912 36 ((tg k).ns) fun i=>C8 ((tg k).gs i),.sl 2976 33 ((tg k).nd) fun i=>D7 ((tg k).gd i)])) (.ar 38 n fun i=>B2 (tg i)) (fC rfl rfl rfl) ?_;exact cA hX (hR (k+1) (by dsimp only[cond_false,cond_true];omega) zO) (hS:=⟨v0,v0,v0,(vS bd),v0,zT⟩)
  exact xW hX (A1 [.bs 32 s.root,.i .i64 s.delay,.i .u64 s.serial,.os 16 38,.os 17 1,.os 18 38,.bs 32 s.head]) (.inr ⟨zO,rfl,rfl,rfl⟩)
 rintro k hI R iO
 dsimp only[cond_false,cond_true]at hI
 refine cB ((k:Int)<(n:Int)) (fun h5=>?_) fun h5=>?_
 ·have hb:=hB.hb k zO
  have hd:=hB.hd k zO
  refine gR 544 (.fo 38 (.ar 38 n fun i=>B2 (tg i)) i0 (A1 [.s ((tg i0).name),.bs 32 ((tg i0).key),.i .i64 ((tg i0).quota),.i .i64 ((tg i0).next),.os 20 33,.os 21 36,.os 22 33])) (.fo 38 (.fo 38 (.ar 38 n fun i=>B2 (tg i)) i0 (A1 [.s ((tg i0).name),.bs 32 ((tg i0).key),.i .i64 ((tg i0).quota),.i .i64 ((tg i0).next),.os 20 33,.os 21 36,.os 22 33])) k (B2 (tg k))) (Nc zO zO rfl) ?_;refine cC ((0:Int)<=(k:Int)/\(k:Int)<(n:Int)) ?_;refine cC (k=k) ?_;refine cC (k=k) ?_;refine cC (k=k) ?_;refine kO [] (OA ((tg k).nb) (fun i=>((tg k).gb i)) (bc)) ?_;rintro out ho A0 ⟨rfl,rfl,rfl⟩
  refine kO [] (OC ((tg k).ns) (fun i=>((tg k).gs i)) (bc)) ?_;rintro out ho A0 ⟨rfl,rfl,rfl⟩
  refine kO [] (HV ((tg k).nd) (fun i=>((tg k).gd i)) (bc)) ?_;rintro out ho A0 ⟨rfl,rfl,rfl⟩
  refine cC (k=k) ?_;refine cC (k=k) ?_;refine cC (k=k) ?_;refine cC (k=k) ?_;refine cM hX (fun(j:Nat)=>[(1,.pr 16 0 []),(2,.pr 80 0 []),(4,.pr 544 0 [.e k 38 n]),(20,.i .i64 (n:Int)),(21,.i .i64 (k:Int)),(56,.i .i64 ((tg k).nb:Int)),(57,.i .i64 (j:Int)),(1000003,A2 [])]) (fun(j:Nat)=>[(16,A1 [.bs 32 s.root,.i .i64 s.delay,.i .u64 s.serial,.os 544 38,.os 672 1,.os 736 38,.bs 32 s.head]),(672,.ar 1 s.nr fun i=>.i .u64 (s.gr i)),(736,.ar 38 s.nl fun i=>H7 (s.gl i)),(80,A1 [.bs 32 (replicate 32 0),.i .i64 0,.i .u64 0,.sl 1 38 0 fun _=>.un,.sl 1 1 0 fun _=>.un,.sl 1 38 0 fun _=>.un,.bs 32 (replicate 32 0)]),(544,.fo 38 (.fo 38 (.ar 38 n fun i=>B2 (tg i)) i0 (A1 [.s ((tg i0).name),.bs 32 ((tg i0).key),.i .i64 ((tg i0).quota),.i .i64 ((tg i0).next),.os 20 33,.os 21 36,.os 22 33])) k (A1 [.s ((tg k).name),.bs 32 ((tg k).key),.i .i64 ((tg k).quota),.i .i64 ((tg k).next),.os 2848 33,.os 2912 36,.os 2976 33])),(20,.ar 33 ((tg i0).nb) fun i=>C3 ((tg i0).gb i)),(21,.ar 36 ((tg i0).ns) fun i=>C8 ((tg i0).gs i)),(22,.ar 33 ((tg i0).nd) fun i=>D7 ((tg i0).gd i)),(2848,.ar 33 ((tg k).nb) fun i=>C3 ((tg k).gb i)),(2912,.ar 36 ((tg k).ns) fun i=>C8 ((tg k).gs i)),(2976,.ar 33 ((tg k).nd) fun i=>D7 ((tg k).gd i))]) (fun(j:Nat)=>j<=(tg k).nb) (fun(j:Nat)=>(tg k).nb-j) [20,21,22,544,672,736,2848,2912,2976] 3984 0 zO ?_;rintro j hJ R1 iN
  refine cB ((j:Int)<((tg k).nb:Int)) (fun h6=>?_) fun h6=>?_
  ·have hdj:=hd j zO
   refine gR 2848 (.ar 33 ((tg k).nb) fun i=>C3 ((tg k).gb i)) (.fo 33 (.ar 33 ((tg k).nb) fun i=>C3 ((tg k).gb i)) j (C3 ((tg k).gb j))) (aA zO rfl) ?_;refine cC (k=k) ?_;refine cC (k=k) ?_;refine cC ((0:Int)<=(j:Int)/\(j:Int)<((tg k).nb:Int)) ?_;refine cC (j=j) ?_;refine cK [] (tZ (((tg k).gb j).data) bd) ?_;rintro out A0 ⟨rfl,rfl⟩
   refine cC ((0:Int)<=(j:Int)/\(j:Int)<((tg k).nb:Int)) ?_;refine cC (j=j) ?_;refine gR 2848 (.fo 33 (.ar 33 ((tg k).nb) fun i=>C3 ((tg k).gb i)) j (A1 [.bs 32 (((tg k).gb j).of),.bl 5010 (((tg k).gb j).data)])) (.ar 33 ((tg k).nb) fun i=>C3 ((tg k).gb i)) (fC rfl rfl rfl) ?_;exact cA hX (iN (j+1) zO zO) (hS:=⟨v0,v0,v0,v0,v0,v0,(vS bd),v0,zT⟩)
  refine gZ 2848 ?_
  refine gZ 2912 ?_;refine gZ 2976 ?_;refine gR 544 (.fo 38 (.fo 38 (.ar 38 n fun i=>B2 (tg i)) i0 (A1 [.s ((tg i0).name),.bs 32 ((tg i0).key),.i .i64 ((tg i0).quota),.i .i64 ((tg i0).next),.os 20 33,.os 21 36,.os 22 33])) k (A1 [.s ((tg k).name),.bs 32 ((tg k).key),.i .i64 ((tg k).quota),.i .i64 ((tg k).next),.sl 2848 33 ((tg k).nb) fun i=>C3 ((tg k).gb i),.sl 2912 36 ((tg k).ns) fun i=>C8 ((tg k).gs i),.sl 2976 33 ((tg k).nd) fun i=>D7 ((tg k).gd i)])) (.fo 38 (.ar 38 n fun i=>B2 (tg i)) i0 (A1 [.s ((tg i0).name),.bs 32 ((tg i0).key),.i .i64 ((tg i0).quota),.i .i64 ((tg i0).next),.os 20 33,.os 21 36,.os 22 33])) (Oy zO rfl rfl rfl rfl) ?_;exact cA hX (iO (k+1) (by dsimp only[cond_false,cond_true];omega) zO) (hS:=⟨v0,v0,v0,(vS bd),v0,zT⟩)
 exact xW hX (A1 [.bs 32 s.root,.i .i64 s.delay,.i .u64 s.serial,.os 16 38,.os 17 1,.os 18 38,.bs 32 s.head]) (.inl ⟨zO,rfl,rfl,rfl⟩)
end Go.Proofs.YtibmfodphlmnfaaGreatDoor
