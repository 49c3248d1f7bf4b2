/- Lemmas for the statement ModelRefused, part 5: rules of operations, walks through functions, plain laws. -/
import Derived.Test.YtiligejcokfhkaaGreatDoorModelRefusedG4
import Derived.DeepKeys3
import Derived.Ground.SlsfProg
import Derived.OrdersIn
import Derived.RangeFuncCalls
import Derived.RangeFuncIn
import Derived.RangeFuncLeaves
import Derived.RangeFuncRecord
import Derived.RangeFuncSeq
import Derived.Shelf.SlSortCmp.NoneTotal
import Derived.Shelf.Slices.Delete
import Derived.Shelf.Spec.SlicesInsertGrow
import Derived.TacticsIn
set_option maxRecDepth 100000
set_option linter.all false
namespace Go.Proofs.YtiligejcokfhkaaGreatDoor
open Go
open Go.IntKind (i64 u64 u8 u32)
open List (replicate)
open Nat (beq blt)
open BitVec (ofInt)
variable {V9:Array TypeId} {X X0:Cx} {fn:Func} {L:List Ch} {S lv lv':List Nat} {cs es vs xs:List Value} {M N c c' cap i m o q r:Nat} {h':Nat->Nat->V} {P:Program} {α:Type} {v':V} {x:Value} {w w' w0:World}
structure Itm where
 name:By
 kind:Int
 of:By
 size:Int
instance:Inhabited Itm:=⟨⟨[],0,[],0⟩⟩
def I5(x:Itm):V:=A1 [.s x.name,.i .i64 x.kind,.bs 32 x.of,.i .i64 x.size]
theorem Rn(l:By):Sat Tryz.prog 221 [.s l] [] (fun out A0=>A0=[]/\(∃p,out=.b p)):=by
 refine cF Tryz.func221 fun X0 w0 hX=>?_
 refine cB (1<=(l.length:Int)) (fun h1=>?_) fun h1=>?_
 ·refine cB ((l.length:Int)<=64) (fun h2=>?_) fun h2=>?_
  ·refine cN (l=[46]) (fun h3=>?_) fun h3=>?_
   ·refine cN (l=[46,46]) (fun h4=>?_) fun h4=>?_
    ·refine cK [] (XE l 47) ?_
     rintro out A0 ⟨rfl,rfl⟩
     refine cN (47∈l) (fun h5=>?_) fun h5=>?_
     ·refine cK [] (XE l 0) ?_
      rintro out A0 ⟨rfl,rfl⟩
      exact xW hX (.b (!(decide (0∈l)))) ⟨rfl,rfl,⟨_,rfl⟩⟩
     ·exact xW hX (.b false) ⟨rfl,rfl,⟨_,rfl⟩⟩
    ·exact xW hX (.b false) ⟨rfl,rfl,⟨_,rfl⟩⟩
   ·exact xW hX (.b false) ⟨rfl,rfl,⟨_,rfl⟩⟩
  ·exact xW hX (.b false) ⟨rfl,rfl,⟨_,rfl⟩⟩
 ·exact xW hX (.b false) ⟨rfl,rfl,⟨_,rfl⟩⟩
theorem Ro(n:Nat)(g:Nat->Itm)(hn:n<=100000):Sat Tryz.prog 206 [.sl 0 35 n fun i=>I5 (g i)] [] (fun out A0=>A0=[]/\(∃p,out=.b p)):=by
 refine cF Tryz.func206 fun X0 w0 hX=>?_
 refine cB (64<(n:Int)) (fun h1=>?_) fun h1=>?_
 ·exact xW hX (.b false) ⟨rfl,rfl,⟨_,rfl⟩⟩
 ·refine cM hX (fun(k:Nat)=>[(0,.sl 0 35 n fun i=>I5 (g i)),(8,.sl 0 35 n fun i=>I5 (g i)),(9,.i .i64 (n:Int)),(10,.i .i64 (k:Int))]) (fun(k:Nat)=>[]) (fun(k:Nat)=>k<=n) (fun(k:Nat)=>n-k) [] 464 0 (by simp) ?_
  rintro k hI R hR
  refine cB ((k:Int)<(n:Int)) (fun h2=>?_) fun h2=>?_
  ·refine cC ((0:Int)<=(k:Int)/\(k:Int)<(n:Int)) ?_
   refine cK [] (Rn ((g k).name)) ?_;rintro out A0 ⟨rfl,⟨qJ,rfl⟩⟩
   refine cn (qJ) (fun h3=>?_) fun h3=>?_
   ·refine Ma (qJ) h3 ?_
    exact xW hX (.b false) ⟨rfl,rfl,⟨_,rfl⟩⟩
   ·refine cB (0<(k:Int)) (fun h4=>?_) fun h4=>?_
    ·refine cC ((0:Int)<=(i64.wrap ((k:Int)-1))/\(i64.wrap ((k:Int)-1))<(n:Int)) ?_ bw
     refine cb (((Op.bytesLess ((g k).name) ((g (((i64.wrap ((k:Int)-1))).toNat)).name))||decide ((g k).name=(g (((i64.wrap ((k:Int)-1))).toNat)).name))) (fun h5=>?_) fun h5=>?_
     ·refine KX (((Op.bytesLess ((g k).name) ((g (((i64.wrap ((k:Int)-1))).toNat)).name))||decide ((g k).name=(g (((i64.wrap ((k:Int)-1))).toNat)).name))) h5 ?_
      exact xW hX (.b false) ⟨rfl,rfl,⟨_,rfl⟩⟩
     ·refine cB ((g k).size<0) (fun h6=>?_) fun h6=>?_
      ·exact xW hX (.b false) ⟨rfl,rfl,⟨_,rfl⟩⟩
      ·refine cB ((g k).kind≠1) (fun h7=>?_) fun h7=>?_
       ·refine cB ((g k).kind≠2) (fun h8=>?_) fun h8=>?_
        ·exact xW hX (.b false) ⟨rfl,rfl,⟨_,rfl⟩⟩
        ·refine cB ((g k).size≠0) (fun h9=>?_) fun h9=>?_
         ·exact xW hX (.b false) ⟨rfl,rfl,⟨_,rfl⟩⟩
         ·exact cA hX (hR (k+1) zO zO) (hS:=⟨v0,v0,v0,(vS bd),zT⟩)
       ·exact cA hX (hR (k+1) zO zO) (hS:=⟨v0,v0,v0,(vS bd),zT⟩)
    ·refine cB ((g k).size<0) (fun I7=>?_) fun I7=>?_
     ·exact xW hX (.b false) ⟨rfl,rfl,⟨_,rfl⟩⟩
     ·refine cB ((g k).kind≠1) (fun K8=>?_) fun K8=>?_
      ·refine cB ((g k).kind≠2) (fun h12=>?_) fun h12=>?_
       ·exact xW hX (.b false) ⟨rfl,rfl,⟨_,rfl⟩⟩
       ·refine cB ((g k).size≠0) (fun U3=>?_) fun U3=>?_
        ·exact xW hX (.b false) ⟨rfl,rfl,⟨_,rfl⟩⟩
        ·exact cA hX (hR (k+1) zO zO) (hS:=⟨v0,v0,v0,(vS bd),zT⟩)
      ·exact cA hX (hR (k+1) zO zO) (hS:=⟨v0,v0,v0,(vS bd),zT⟩)
  ·exact xW hX (.b true) ⟨rfl,rfl,⟨_,rfl⟩⟩
theorem Rp(b:By)(hb:b.length<=100000):Sat Tryz.prog 205 [.bl 0 b] [] (fun out A0=>A0=[]/\(∃x l p,out=A2 [I5 x,.bl 0 l,.b p]/\l.length<=b.length/\x.name.length<=b.length)):=by
 refine cF Tryz.func205 fun X0 w0 hX=>?_
 refine cB ((b.length:Int)=0) (fun h1=>?_) fun h1=>?_
 ·exact xW hX (A2 [I5 ⟨[],0,(replicate 32 0),0⟩,.bl 0 [],.b false]) ⟨rfl,rfl,⟨_,_,_,rfl,bd,bd⟩⟩ (hv:=vT (u:=A2 [A1 [.s [],.i .i64 0,.bs 32 (replicate 32 0),.i .i64 0],.bl 0 [],.b false]) (F5 ⟨C4 ⟨.rfl _,.rfl _,.rfl _,.rfl _,zT⟩,.rfl _,.rfl _,zT⟩))
 ·refine cC ((0:Int)<=0/\0<(b.length:Int)) ?_
  refine cC ((0:Int)<=1/\1<=(b.length:Int)) ?_;refine cK [] (LT ((b.drop 1).take (b.length-1)) bd) ?_;rintro out A0 ⟨fJ,C6,xe0,rfl,rfl,hxa0,hxs0⟩
  simp only[F7,K4]at hxa0 hxs0
  refine cB (xe0≠0) (fun h2=>?_) fun h2=>?_
  ·exact xW hX (A2 [I5 ⟨[],(i64.wrap ((b.getD 0 0).toNat:Int)),(replicate 32 0),0⟩,.bl 0 [],.b false]) ⟨rfl,rfl,⟨_,_,_,rfl,bd,bd⟩⟩ (hv:=vT (u:=A2 [A1 [.s [],.i .i64 (i64.wrap ((b.getD 0 0).toNat:Int)),.bs 32 (replicate 32 0),.i .i64 0],.bl 0 [],.b false]) (F5 ⟨C4 ⟨.rfl _,.rfl _,.rfl _,.rfl _,zT⟩,.rfl _,.rfl _,zT⟩))
  ·refine cC ((0:Int)<=(i64.wrap (1+C6))/\(i64.wrap (1+C6))<=(b.length:Int)) ?_ bw
   refine cB ((((b.drop (((i64.wrap (1+C6))).toNat)).take (b.length-((i64.wrap (1+C6))).toNat)).length:Int)<32) (fun h3=>?_) fun h3=>?_
   ·exact xW hX (A2 [I5 ⟨[],(i64.wrap ((b.getD 0 0).toNat:Int)),(replicate 32 0),0⟩,.bl 0 [],.b false]) ⟨rfl,rfl,⟨_,_,_,rfl,bd,bd⟩⟩ (hv:=vT (u:=A2 [A1 [.s [],.i .i64 (i64.wrap ((b.getD 0 0).toNat:Int)),.bs 32 (replicate 32 0),.i .i64 0],.bl 0 [],.b false]) (F5 ⟨C4 ⟨.rfl _,.rfl _,.rfl _,.rfl _,zT⟩,.rfl _,.rfl _,zT⟩))
   ·refine jA 2 6864 (fun(u:Unit)=>[(0,.bl 0 ((b.drop (((i64.wrap (1+C6))).toNat)).take (b.length-((i64.wrap (1+C6))).toNat))),(2,.pr 16 0 []),(5,.pr 208 0 [])]) (fun(u:Unit)=>[(16,A1 [.s [],.i .i64 0,.bs 32 (replicate 32 0),.i .i64 0]),(208,A1 [.s fJ,.i .i64 (i64.wrap ((b.getD 0 0).toNat:Int)),.bs 32 (((((b.drop (((i64.wrap (1+C6))).toNat)).take (b.length-((i64.wrap (1+C6))).toNat)).drop 0).take (32-0)).take 32),.i .i64 0])]) (fun(u:Unit)=>True) [] (fun R hR i hi=>?_) ?_
    ·revert i hi;refine f2 ?_ ?_<;>repeat' (first|refine al 2 (f2 ?_ ?_)|refine cC (e:=eE) ((0:Int)<=0/\(0:Int)<=32/\32<=(((b.drop (((i64.wrap (1+C6))).toNat)).take (b.length-((i64.wrap (1+C6))).toNat)).length:Int)) ?_ bw|refine cC (e:=eE) (32<=((((b.drop (((i64.wrap (1+C6))).toNat)).take (b.length-((i64.wrap (1+C6))).toNat)).drop 0).take (32-0)).length) ?_ bw|exact cA hX (hR () zT))
    ·rintro u hJ
     refine cC ((0:Int)<=32/\32<=(((b.drop (((i64.wrap (1+C6))).toNat)).take (b.length-((i64.wrap (1+C6))).toNat)).length:Int)) ?_ bw;refine cK [] (LS ((((b.drop (((i64.wrap (1+C6))).toNat)).take (b.length-((i64.wrap (1+C6))).toNat)).drop 32).take (((b.drop (((i64.wrap (1+C6))).toNat)).take (b.length-((i64.wrap (1+C6))).toNat)).length-32)) bd) ?_;rintro out A0 ⟨rfl,⟨vG,lJ,te1,rfl,vI⟩⟩
     refine cB (te1≠0) (fun h4=>?_) fun h4=>?_
     ·exact xW hX (A2 [I5 ⟨fJ,(i64.wrap ((b.getD 0 0).toNat:Int)),(((((b.drop (((i64.wrap (1+C6))).toNat)).take (b.length-((i64.wrap (1+C6))).toNat)).drop 0).take (32-0)).take 32),0⟩,.bl 0 [],.b false]) ⟨rfl,rfl,⟨_,_,_,rfl,bd,bd⟩⟩ (hv:=vT (u:=A2 [A1 [.s fJ,.i .i64 (i64.wrap ((b.getD 0 0).toNat:Int)),.bs 32 (((((b.drop (((i64.wrap (1+C6))).toNat)).take (b.length-((i64.wrap (1+C6))).toNat)).drop 0).take (32-0)).take 32),.i .i64 0],.bl 0 [],.b false]) (F5 ⟨C4 ⟨.rfl _,.rfl _,.rfl _,.rfl _,zT⟩,.rfl _,.rfl _,zT⟩))
     ·refine cB (9223372036854775807<vG) (fun h5=>?_) fun h5=>?_
      ·exact xW hX (A2 [I5 ⟨fJ,(i64.wrap ((b.getD 0 0).toNat:Int)),(((((b.drop (((i64.wrap (1+C6))).toNat)).take (b.length-((i64.wrap (1+C6))).toNat)).drop 0).take (32-0)).take 32),0⟩,.bl 0 [],.b false]) ⟨rfl,rfl,⟨_,_,_,rfl,bd,bd⟩⟩ (hv:=vT (u:=A2 [A1 [.s fJ,.i .i64 (i64.wrap ((b.getD 0 0).toNat:Int)),.bs 32 (((((b.drop (((i64.wrap (1+C6))).toNat)).take (b.length-((i64.wrap (1+C6))).toNat)).drop 0).take (32-0)).take 32),.i .i64 0],.bl 0 [],.b false]) (F5 ⟨C4 ⟨.rfl _,.rfl _,.rfl _,.rfl _,zT⟩,.rfl _,.rfl _,zT⟩))
      ·refine jA 2 12816 (fun(u:Unit)=>[(2,.pr 16 0 []),(3,.bl 0 ((((((b.drop (((i64.wrap (1+C6))).toNat)).take (b.length-((i64.wrap (1+C6))).toNat)).drop 32).take (((b.drop (((i64.wrap (1+C6))).toNat)).take (b.length-((i64.wrap (1+C6))).toNat)).length-32)).drop ((lJ).toNat)).take (((((b.drop (((i64.wrap (1+C6))).toNat)).take (b.length-((i64.wrap (1+C6))).toNat)).drop 32).take (((b.drop (((i64.wrap (1+C6))).toNat)).take (b.length-((i64.wrap (1+C6))).toNat)).length-32)).length-(lJ).toNat))),(4,.bc true)]) (fun(u:Unit)=>[(16,A1 [.s fJ,.i .i64 (i64.wrap ((b.getD 0 0).toNat:Int)),.bs 32 (((((b.drop (((i64.wrap (1+C6))).toNat)).take (b.length-((i64.wrap (1+C6))).toNat)).drop 0).take (32-0)).take 32),.i .i64 (i64.wrap vG)])]) (fun(u:Unit)=>True) [] (fun R hR i hi=>?_) ?_
       ·revert i hi;refine f2 ?_ ?_<;>repeat' (first|refine cC (e:=eE) ((0:Int)<=lJ/\lJ<=(((((b.drop (((i64.wrap (1+C6))).toNat)).take (b.length-((i64.wrap (1+C6))).toNat)).drop 32).take (((b.drop (((i64.wrap (1+C6))).toNat)).take (b.length-((i64.wrap (1+C6))).toNat)).length-32)).length:Int)) ?_ bw|exact cA hX (hR () zT))
       ·rintro u hJ
        exact xW hX (A2 [I5 ⟨fJ,(i64.wrap ((b.getD 0 0).toNat:Int)),(((((b.drop (((i64.wrap (1+C6))).toNat)).take (b.length-((i64.wrap (1+C6))).toNat)).drop 0).take (32-0)).take 32),(i64.wrap vG)⟩,.bl 0 ((((((b.drop (((i64.wrap (1+C6))).toNat)).take (b.length-((i64.wrap (1+C6))).toNat)).drop 32).take (((b.drop (((i64.wrap (1+C6))).toNat)).take (b.length-((i64.wrap (1+C6))).toNat)).length-32)).drop ((lJ).toNat)).take (((((b.drop (((i64.wrap (1+C6))).toNat)).take (b.length-((i64.wrap (1+C6))).toNat)).drop 32).take (((b.drop (((i64.wrap (1+C6))).toNat)).take (b.length-((i64.wrap (1+C6))).toNat)).length-32)).length-(lJ).toNat)),.b true]) ⟨rfl,rfl,⟨_,_,_,rfl,bd,bd⟩⟩ (hv:=vT (u:=A2 [A1 [.s fJ,.i .i64 (i64.wrap ((b.getD 0 0).toNat:Int)),.bs 32 (((((b.drop (((i64.wrap (1+C6))).toNat)).take (b.length-((i64.wrap (1+C6))).toNat)).drop 0).take (32-0)).take 32),.i .i64 (i64.wrap vG)],.bl 0 ((((((b.drop (((i64.wrap (1+C6))).toNat)).take (b.length-((i64.wrap (1+C6))).toNat)).drop 32).take (((b.drop (((i64.wrap (1+C6))).toNat)).take (b.length-((i64.wrap (1+C6))).toNat)).length-32)).drop ((lJ).toNat)).take (((((b.drop (((i64.wrap (1+C6))).toNat)).take (b.length-((i64.wrap (1+C6))).toNat)).drop 32).take (((b.drop (((i64.wrap (1+C6))).toNat)).take (b.length-((i64.wrap (1+C6))).toNat)).length-32)).length-(lJ).toNat)),.b true]) (F5 ⟨C4 ⟨.rfl _,.rfl _,.rfl _,.rfl _,zT⟩,.rfl _,.rfl _,zT⟩))
theorem XF(b:By):Sat Tryz.prog 186 [.bl 0 b] [] (fun out A0=>∃(l:List Itm) (e:Int),out=A2 [B4 2 35 I5 l,.i .i64 e]/\A0=[2]/\l.length<=64/\∀x∈l,x.name.length<=4000):=by
 refine cF Tryz.func186 fun X0 w0 hX=>?_
 refine cB (4000<(b.length:Int)) (fun h1=>?_) fun h1=>?_
 ·exact xW hX (A2 [B4 2 35 I5 [],.i .i64 4]) ⟨rfl,_,_,rfl,rfl,bd,by first|(simp;done)|exact hI.2.2.2⟩ (hv:=vT (u:=A2 [.sl 2 35 0 fun _=>.un,.i .i64 4]) (F5 ⟨vN,.rfl _,zT⟩))
 ·refine cK [] (Rl b [68,49]) ?_
  rintro out A0 ⟨rfl,rfl⟩
  refine cn (([68,49]:By).isPrefixOf b) (fun h2=>?_) fun h2=>?_
  ·exact xW hX (A2 [B4 2 35 I5 [],.i .i64 4]) ⟨rfl,_,_,rfl,rfl,bd,by first|(simp;done)|exact hI.2.2.2⟩ (hv:=vT (u:=A2 [.sl 2 35 0 fun _=>.un,.i .i64 4]) (F5 ⟨vN,.rfl _,zT⟩))
  ·have hp:=Rm h2
   simp only[I6,S0]at hp
   refine cC ((0:Int)<=2/\2<=(b.length:Int)) ?_;refine cK [] (LS ((b.drop 2).take (b.length-2)) bd) ?_;rintro out A0 ⟨rfl,⟨l4,Q3,bP,rfl,qH⟩⟩
   refine cB (bP≠0) (fun h3=>?_) fun h3=>?_
   ·exact xW hX (A2 [B4 2 35 I5 [],.i .i64 4]) ⟨rfl,_,_,rfl,rfl,bd,by first|(simp;done)|exact hI.2.2.2⟩ (hv:=vT (u:=A2 [.sl 2 35 0 fun _=>.un,.i .i64 4]) (F5 ⟨vN,.rfl _,zT⟩))
   ·refine cB (64<l4) (fun h4=>?_) fun h4=>?_
    ·exact xW hX (A2 [B4 2 35 I5 [],.i .i64 4]) ⟨rfl,_,_,rfl,rfl,bd,by first|(simp;done)|exact hI.2.2.2⟩ (hv:=vT (u:=A2 [.sl 2 35 0 fun _=>.un,.i .i64 4]) (F5 ⟨vN,.rfl _,zT⟩))
    ·refine cC ((0:Int)<=Q3/\Q3<=(((b.drop 2).take (b.length-2)).length:Int)) ?_ bd
     refine cM hX (fun(p:Nat×By×(List Itm))=>[(0,.bl 0 p.2.1),(7,B4 2 35 I5 p.2.2),(37,.i .u64 l4),(38,.i .u64 (p.1:Int))]) (fun(p:Nat×By×(List Itm))=>[]) (fun(p:Nat×By×(List Itm))=>(p.1:Int)<=l4/\p.2.1.length<=4000/\p.2.2.length=p.1/\∀x∈p.2.2,x.name.length<=4000) (fun(p:Nat×By×(List Itm))=>64-p.1) [2] 2320 (0,((((b.drop 2).take (b.length-2)).drop ((Q3).toNat)).take (((b.drop 2).take (b.length-2)).length-(Q3).toNat)),[]) ⟨zO,bd,rfl,by simp⟩ ?_ (hS:=⟨v0,(vT (vN (g:=fun _=>.un))),v0,v0,zT⟩);rintro⟨k,r,l⟩ hI R hR
     dsimp only at hI
     refine cB ((k:Int)<l4) (fun h5=>?_) fun h5=>?_
     ·refine cK [] (Rp r bd) ?_
      rintro out A0 ⟨rfl,⟨fi1,fr1,fp1,rfl,hfr1,hfn1⟩⟩
      refine cn (fp1) (fun h6=>?_) fun h6=>?_
      ·exact xW hX (A2 [B4 2 35 I5 [],.i .i64 4]) ⟨rfl,_,_,rfl,rfl,bd,by first|(simp;done)|exact hI.2.2.2⟩ (hv:=vT (u:=A2 [.sl 2 35 0 fun _=>.un,.i .i64 4]) (F5 ⟨vN,.rfl _,zT⟩))
      ·refine cC ((l.length+1)*64<=140737488355328) ?_
       exact cA hX (hR (k+1,fr1,l++[fi1]) ⟨bd,bd,by simp;omega,fun x hx=>by simp only[R9,O9]at hx;rcases hx with h|rfl;exact hI.2.2.2 x h;omega⟩ (by dsimp only;omega)) (hS:=⟨v0,(vT (oY l _)),v0,vU,zT⟩)
     ·refine cB (0<(r.length:Int)) (fun h7=>?_) fun h7=>?_
      ·exact xW hX (A2 [B4 2 35 I5 [],.i .i64 4]) ⟨rfl,_,_,rfl,rfl,bd,by first|(simp;done)|exact hI.2.2.2⟩ (hv:=vT (u:=A2 [.sl 2 35 0 fun _=>.un,.i .i64 4]) (F5 ⟨vN,.rfl _,zT⟩))
      ·refine cK [] (Ro l.length (fun i=>(l.getD i default)) bd) ?_
       rintro out A0 ⟨rfl,⟨pm2,rfl⟩⟩
       refine cn (pm2) (fun h8=>?_) fun h8=>?_
       ·exact xW hX (A2 [B4 2 35 I5 [],.i .i64 4]) ⟨rfl,_,_,rfl,rfl,bd,by first|(simp;done)|exact hI.2.2.2⟩ (hv:=vT (u:=A2 [.sl 2 35 0 fun _=>.un,.i .i64 4]) (F5 ⟨vN,.rfl _,zT⟩))
       ·exact xW hX (A2 [B4 2 35 I5 l,.i .i64 0]) ⟨rfl,_,_,rfl,rfl,bd,by first|(simp;done)|exact hI.2.2.2⟩
structure Fil where
 path:By
 dir:Bool
 data:By
instance:Inhabited Fil:=⟨⟨[],false,[]⟩⟩
def O7(x:Fil):V:=A1 [.s x.path,.b x.dir,.bl 0 x.data]
def FOk(l:List Fil):Prop:=∀f∈l,f.path.length<=200000/\f.data.length<=1000000
theorem FOk.nil:FOk []:=fun _ h=>by cases h
theorem FOk.snoc{l:List Fil}(h:FOk l){p d:By}{b:Bool}(hp:p.length<=200000:=by simp only[D0,F7,K4]at *;omega)(hd:d.length<=1000000:=by first|omega|(simp;done)):FOk (l++[⟨p,b,d⟩]):=fun f hf=>by
 rcases R9.1 hf with h1|h1
 ·exact h f h1
 ·rw[O9.1 h1];exact⟨hp,hd⟩
def tI(q:Nat)(K:List By)(a b:Nat)(c:Int)(p:Bool)(l:List Fil)(e:Int):V:=A1 [.mp a 0 ⟨1,K⟩,.mp b 0 ⟨0,K⟩,.i .i64 c,.b p,B4 q 3 O7 l,.i .i64 e]
theorem BF(K:List By)(a b:Nat)(c:Int)(p:Bool)(l:List Fil)(e:Int)(x:Int):SatHM Tryz.prog false 184 [.pr 2 0 [],.i .i64 x] [3] [(2,A1 [.mp a 0 ⟨1,K⟩,.mp b 0 ⟨0,K⟩,.i .i64 c,.b p,B4 3 3 O7 l,.i .i64 e])] (fun out ho A0=>∃e2,out=.b (decide (e2≠0))/\ho=[(2,tI 3 K a b c p l e2)]/\A0=[3]/\(e=0->e2=x)/\(e≠0->e2=e)):=by
 refine fH false Tryz.func184 fun X0 w0 hX hm=>?_
 refine cB (e=0) (fun h1=>?_) fun h1=>?_
 ·exact xW hX (.b (decide (x≠0))) (ho:=[(2,A1 [.mp a 0 ⟨1,K⟩,.mp b 0 ⟨0,K⟩,.i .i64 c,.b p,B4 3 3 O7 l,.i .i64 x])]) ⟨_,by simp,rfl,rfl,zO,zO⟩
 ·exact xW hX (.b (decide (e≠0))) (ho:=[(2,A1 [.mp a 0 ⟨1,K⟩,.mp b 0 ⟨0,K⟩,.i .i64 c,.b p,B4 3 3 O7 l,.i .i64 e])]) ⟨_,by simp,rfl,rfl,zO,zO⟩
theorem XG(K:List By)(a b:Nat)(c:Int)(p:Bool)(l:List Fil)(e:Int)(x:By)(hc:0<=c/\c<=1024)(he:e=0):SatHM Tryz.prog true 185 [.pr 2 0 [],.bs 32 x] [3] [(2,A1 [.mp a 0 ⟨1,K⟩,.mp b 0 ⟨0,K⟩,.i .i64 c,.b p,B4 3 3 O7 l,.i .i64 e])] (fun out ho A0=>∃d q c2 e2,out=A2 [.bl 0 d,.b q]/\ho=[(2,tI 3 K a b c2 p l e2)]/\A0=[3]/\c2=c+1/\(q=true->c2<=1024/\e2=0)/\(q=false->e2≠0)/\d.length<=1000000):=by
 refine fH true Tryz.func185 fun X0 w0 hX hm=>?_
 have hw:i64.wrap (c+1)=c+1:=N6 ⟨zO,zO⟩
 refine cB (1024<(i64.wrap (c+1))) (fun h1=>?_) fun h1=>?_
 ·refine kH [(2,2),(3,3)] [2] (BF K a b (i64.wrap (c+1)) p l e 2) ?_
  rintro out ho A0 ⟨we0,rfl,rfl,rfl,S9,hB0⟩
  exact xW hX (A2 [.bl 0 [],.b false]) ⟨_,_,_,_,rfl,rfl,rfl,rfl,by first|(simp;done)|(rw[hw]at h1;intro;exact⟨zO,he⟩),by first|(simp;done)|(simp;omega),by first|(simp;done)|omega⟩ (hH:=⟨(vT (u:=A1 [.mp a 0 ⟨1,K⟩,.mp b 0 ⟨0,K⟩,.i .i64 (i64.wrap (c+1)),.b p,B4 3 3 O7 l,.i .i64 we0]) (C4 ⟨.rfl _,.rfl _,(.of_eq (by rw[N6 ⟨zO,zO⟩])),.rfl _,.rfl _,.rfl _,zT⟩)),zT⟩)
 ·refine mL (t:=227) (kt:=34) (et:=36) (x:=.tmp 26) (y:=.tmp 27) (ok:=true) (d:=28) a ⟨1,K⟩ x gM ?_
  rintro _ mp1 ⟨ml1,hml1,rfl⟩ hmk1
  refine cn (mp1) (fun h2=>?_) fun h2=>?_
  ·refine kH [(2,2),(3,3)] [2] (BF K a b (i64.wrap (c+1)) p l e 15) ?_
   rintro out ho A0 ⟨we2,rfl,rfl,rfl,U1,hB2⟩
   exact xW hX (A2 [.bl 0 [],.b false]) ⟨_,_,_,_,rfl,rfl,rfl,rfl,by first|(simp;done)|(rw[hw]at h1;intro;exact⟨zO,he⟩),by first|(simp;done)|(simp;omega),by first|(simp;done)|omega⟩ (hH:=⟨(vT (u:=A1 [.mp a 0 ⟨1,K⟩,.mp b 0 ⟨0,K⟩,.i .i64 (i64.wrap (c+1)),.b p,B4 3 3 O7 l,.i .i64 we2]) (C4 ⟨.rfl _,.rfl _,(.of_eq (by rw[N6 ⟨zO,zO⟩])),.rfl _,.rfl _,.rfl _,zT⟩)),zT⟩)
  ·refine jA 2 6608 (fun(u:Unit)=>[(6,.bl 0 ml1)]) (fun(u:Unit)=>[(2,A1 [.mp a 0 ⟨1,K⟩,.mp b 0 ⟨0,K⟩,.i .i64 (i64.wrap (c+1)),.b p,B4 3 3 O7 l,.i .i64 e])]) (fun(u:Unit)=>True) [3] (fun R hR i hi=>?_) ?_
   ·match i,hi with
   |0,_=>
     refine mL (t:=201) (kt:=34) (et:=3) (x:=.tmp 38) (y:=.tmp 39) (ok:=false) (d:=40) b ⟨0,K⟩ x gM ?_;rintro _ mp3 ⟨mn3,rfl⟩ hmk3
     refine mE (t:=201) (kt:=34) (et:=3) (x:=.tmp 38) (y:=.tmp 39) (d:=42) b ⟨0,K⟩ x gM (hm rfl) (hmk1 (by assumption)) ?_;rintro _ ms4 ⟨mn4,rfl⟩
     refine FR (t:=201) (et:=3) (x:=.tmp 38) (y:=.tmp 43) (z:=.tmp 41) b ⟨0,K⟩ ms4 ⟨0,K⟩ (.i .i64 (i64.wrap (mn3+1))) (hm rfl) rfl ?_;exact cA hX (hR () zT)
   |1,_=>
     refine mE (t:=201) (kt:=34) (et:=3) (x:=.tmp 38) (y:=.tmp 39) (d:=42) b ⟨0,K⟩ x gM (hm rfl) (hmk1 (by assumption)) ?_;rintro _ ms5 ⟨mn5,rfl⟩
     refine mL (t:=201) (kt:=34) (et:=3) (x:=.tmp 38) (y:=.tmp 39) (ok:=false) (d:=40) b ⟨0,K⟩ x gM ?_;rintro _ mp6 ⟨mn6,rfl⟩ hmk6
     refine FR (t:=201) (et:=3) (x:=.tmp 38) (y:=.tmp 43) (z:=.tmp 41) b ⟨0,K⟩ ms5 ⟨0,K⟩ (.i .i64 (i64.wrap (mn6+1))) (hm rfl) rfl ?_;exact cA hX (hR () zT)
   ·rintro u hJ
    exact xW hX (A2 [.bl 0 ml1,.b true]) ⟨_,_,_,_,rfl,rfl,rfl,rfl,by first|(simp;done)|(rw[hw]at h1;intro;exact⟨zO,he⟩),by first|(simp;done)|(simp;omega),by first|(simp;done)|omega⟩ (hH:=⟨(vT (u:=A1 [.mp a 0 ⟨1,K⟩,.mp b 0 ⟨0,K⟩,.i .i64 (i64.wrap (c+1)),.b p,B4 3 3 O7 l,.i .i64 e]) (C4 ⟨.rfl _,.rfl _,(.of_eq (by rw[N6 ⟨zO,zO⟩])),.rfl _,.rfl _,.rfl _,zT⟩)),zT⟩)
theorem Rq(K:List By)(a b:Nat)(c:Int)(p:Bool)(l:List Fil)(e:Int)(x:Itm)(t:By)(hc:0<=c/\c<=1024)(he:e=0)(hl:(l.length:Int)<=c)(ht:t.length<=100000)(hx:x.name.length<=100000):SatHM Tryz.prog true 187 [.pr 2 0 [],I5 x,.s t] [3] [(2,A1 [.mp a 0 ⟨1,K⟩,.mp b 0 ⟨0,K⟩,.i .i64 c,.b p,B4 3 3 O7 l,.i .i64 e])] (fun out ho A0=>∃c2 l2 e2,ho=[(2,tI 16 K a b c2 p l2 e2)]/\A0=[16]/\c2=c+1/\(e2=0->c2<=1024)/\l2.length<=l.length+1/\(FOk l->FOk l2)):=by
 refine fH true Tryz.func187 fun X0 w0 hX hm=>?_
 refine mV 3 ?_;refine gI (fun _=>hm rfl) [(2,2),(16,3)] [2] (XG K a b c p l e x.of bd (by assumption)) ?_;rintro out ho A0 ⟨od0,oq0,oc0,oe0,rfl,rfl,rfl,hoc0,hoq0,hor0,hod0⟩
 refine cn (oq0) (fun h1=>?_) fun h1=>?_
 ·have hr:=hor0 h1
  exact xW hX (A2 []) (ho:=[(2,A1 [.mp a 0 ⟨1,K⟩,.mp b 0 ⟨0,K⟩,.i .i64 oc0,.b p,B4 16 3 O7 l,.i .i64 oe0])]) ⟨_,_,_,rfl,rfl,zO,zO,bd,fun h=>by first|exact h|exact h.snoc⟩
 ·have hq:=hoq0 h1
  refine cB ((od0.length:Int)≠x.size) (fun h2=>?_) fun h2=>?_
  ·refine kH [(2,2),(16,3)] [2] (BF K a b oc0 p l oe0 9) ?_
   rintro out ho A0 ⟨we1,rfl,rfl,rfl,P8,hB1⟩
   exact xW hX (A2 []) (ho:=[(2,A1 [.mp a 0 ⟨1,K⟩,.mp b 0 ⟨0,K⟩,.i .i64 oc0,.b p,B4 16 3 O7 l,.i .i64 we1])]) ⟨_,_,_,rfl,rfl,zO,zO,bd,fun h=>by first|exact h|exact h.snoc⟩
  ·refine cb (p) (fun h3=>?_) fun h3=>?_
   ·refine cC (t.length+x.name.length<=maxLen) ?_ bm
    refine cK [] (tF od0 bd) ?_;rintro out A0 ⟨rfl,rfl⟩
    refine cC ((l.length+1)*48<=140737488355328) ?_;exact xW hX (A2 []) ⟨_,_,_,rfl,rfl,zO,zO,bd,fun h=>by first|exact h|exact h.snoc⟩ (hH:=⟨(vT (u:=A1 [.mp a 0 ⟨1,K⟩,.mp b 0 ⟨0,K⟩,.i .i64 oc0,.b p,.sl 16 3 (l.length+1) fun i=>bif blt i l.length then O7 (l.getD i default) else A1 [.s (t++x.name),.b false,.bl 0 od0],.i .i64 oe0]) (C4 ⟨.rfl _,.rfl _,.rfl _,.rfl _,oY l ⟨t++x.name,false,od0⟩,.rfl _,zT⟩)),zT⟩)
   ·exact xW hX (A2 []) (ho:=[(2,A1 [.mp a 0 ⟨1,K⟩,.mp b 0 ⟨0,K⟩,.i .i64 oc0,.b p,B4 16 3 O7 l,.i .i64 oe0])]) ⟨_,_,_,rfl,rfl,zO,zO,bd,fun h=>by first|exact h|exact h.snoc⟩
theorem XH(n:Nat)(g:Nat->Obj)(p:Bool)(hn:n<=100000)(hd:∀i,i<n->(g i).data.length<=100000):SatM Tryz.prog true 162 [.sl 0 33 n fun i=>C5 (g i),.b p] [] (fun out ho A0=>∃a b,out=.pr 2 0 []/\ho=[(2,tI 3 ((List.range n).map fun i=>(g i).of) a b 0 p [] 0)]/\A0=[3]):=by
 refine fM true Tryz.func162 fun X0 w0 hX hm=>?_
 refine LJ (t:=227) (d:=11) ⟨1,((List.range n).map fun i=>(g i).of)⟩ fun bQ=>?_
 refine LJ (t:=201) (d:=12) ⟨0,((List.range n).map fun i=>(g i).of)⟩ fun mb1=>?_
 refine cM hX (fun(k:Nat)=>[(5,.pr 336 0 []),(15,.sl 0 33 n fun i=>C5 (g i)),(16,.i .i64 (n:Int)),(17,.i .i64 (k:Int))]) (fun(k:Nat)=>[(336,A1 [.mp bQ 0 ⟨1,((List.range n).map fun i=>(g i).of)⟩,.mp mb1 0 ⟨0,((List.range n).map fun i=>(g i).of)⟩,.i .i64 0,.b p,.sl 1 3 0 fun _=>.un,.i .i64 0])]) (fun(k:Nat)=>k<=n) (fun(k:Nat)=>n-k) [] 656 0 (by simp) ?_;rintro k hI R hR
 refine cB ((k:Int)<(n:Int)) (fun h1=>?_) fun h1=>?_
 ·have hk:=hd k zO
  refine cC ((0:Int)<=(k:Int)/\(k:Int)<(n:Int)) ?_;refine mL (t:=227) (kt:=34) (et:=36) (x:=.tmp 25) (y:=.tmp 27) (ok:=true) (d:=28) bQ ⟨1,((List.range n).map fun i=>(g i).of)⟩ ((g k).of) gM ?_;rintro _ mp2 ⟨ml2,hml2,rfl⟩ hmk2
  refine cn (mp2) (fun h2=>?_) fun h2=>?_
  ·refine Ni (t:=227) (kt:=34) (et:=36) (x:=.tmp 36) (y:=.tmp 38) (z:=.tmp 40) bQ ⟨1,((List.range n).map fun i=>(g i).of)⟩ ((g k).of) (.bl 0 ((g k).data)) gM (hm rfl) (Pu zO) (J4.2 ⟨k,yR.2 zO,rfl⟩) ?_
   exact cA hX (hR (k+1) zO zO) (hS:=⟨v0,v0,v0,(vS bd),zT⟩)
  ·exact cA hX (hR (k+1) zO zO) (hS:=⟨v0,v0,v0,(vS bd),zT⟩)
 ·exact xW hX (.pr 2 0 []) ⟨_,_,rfl,rfl,rfl⟩ (hH:=⟨(vT (u:=A1 [.mp bQ 0 ⟨1,((List.range n).map fun i=>(g i).of)⟩,.mp mb1 0 ⟨0,((List.range n).map fun i=>(g i).of)⟩,.i .i64 0,.b p,.sl 3 3 0 fun _=>.un,.i .i64 0]) (C4 ⟨.rfl _,.rfl _,.rfl _,.rfl _,vN,.rfl _,zT⟩)),zT⟩)
theorem bM{p:Prop}(h:p:=by have mx:maxLen=9223372036854775807:=rfl;simp only[D0,I6,S0]at *;omega):p:=h
def XI(R2:Int):Prop:=∀(K:List By) (a b:Nat) (c:Int) (tl:Bool) (l:List Fil) (e:Int) (x t:By),0<=c/\c<=1024->e=0->(l.length:Int)<=c->(t.length:Int)<=5000*R2->(1<R2->1<=t.length)->SatHM Tryz.prog true 163 [.pr 2 0 [],.bs 32 x,.s t,.i .i64 R2] [3] [(2,tI 3 K a b c tl l e)] (fun out ho A0=>∃c2 l2 e2,ho=[(2,tI 16 K a b c2 tl l2 e2)]/\A0=[16]/\(e2=0->0<=c2/\c2<=1024/\(l2.length:Int)<=c2)/\(FOk l->FOk l2))
theorem Rr{l:List Itm}{k:Nat}(h:∀x∈l,x.name.length<=4000):(l.getD k default).name.length<=4000:=by
 by_cases hk:k<l.length
 ·rw[j7,B7 hk];exact h _ (dS hk)
 ·rw[j7,V4 zO];exact L8 _
theorem Rt(l:List Fil)(n:By):VEq (.sl 20 3 (l.length+1) fun i=>bif blt i l.length then O7 (l.getD i default) else A1 [.s n,.b true,.bl 1 []]) (B4 20 3 O7 (l++[⟨n,true,[]⟩])):=Nl l ⟨n,true,[]⟩ (.st _ _ _ fun i hi=>match i,hi with|0,_=>.rfl _|1,_=>.rfl _|2,_=>.bl _)
theorem XJ(K:List By)(a b:Nat)(c:Int)(tl:Bool)(l:List Fil)(e:Int)(x t:By)(R2:Int)(hd:1<=R2/\R2<=9)(ih:R2<=8->∀d,d=R2+1->XI d)(hc:0<=c/\c<=1024)(he:e=0)(hl:(l.length:Int)<=c)(ht:(t.length:Int)<=5000*R2)(vI:1<R2->1<=t.length):SatHM Tryz.prog true 163 [.pr 2 0 [],.bs 32 x,.s t,.i .i64 R2] [3] [(2,A1 [.mp a 0 ⟨1,K⟩,.mp b 0 ⟨0,K⟩,.i .i64 c,.b tl,B4 3 3 O7 l,.i .i64 e])] (fun out ho A0=>∃c2 l2 e2,ho=[(2,tI 16 K a b c2 tl l2 e2)]/\A0=[16]/\(e2=0->0<=c2/\c2<=1024/\(l2.length:Int)<=c2)/\(FOk l->FOk l2)):=by
 refine fH true Tryz.func163 fun X0 w0 hX hm=>?_
 have hw:i64.wrap (R2+1)=R2+1:=N6 ⟨zO,zO⟩
 refine mV 3 ?_;refine cB (8<R2) (fun h1=>?_) fun h1=>?_
 ·refine kH [(2,2),(16,3)] [2] (BF K a b c tl l e 2) ?_
  rintro out ho A0 ⟨we0,rfl,rfl,rfl,S9,hB0⟩
  refine cB (we0≠0) (fun h2=>?_) fun h2=>?_
  ·exact xW hX (A2 []) (ho:=[(2,A1 [.mp a 0 ⟨1,K⟩,.mp b 0 ⟨0,K⟩,.i .i64 c,.b tl,B4 16 3 O7 l,.i .i64 we0])]) (by refine⟨_,_,_,rfl,rfl,fun q=>?_,fun h=>h⟩;omega)
  ·exact absurd (S9 he) zO
 ·refine gI (fun _=>hm rfl) [(2,2),(16,3)] [2] (XG K a b c tl l e x bd (by assumption)) ?_
  rintro out ho A0 ⟨od1,oq1,qL,oe1,rfl,rfl,rfl,hoc1,hoq1,hor1,hod1⟩
  refine cn (oq1) (fun h3=>?_) fun h3=>?_
  ·have hr:=hor1 h3
   exact xW hX (A2 []) (ho:=[(2,A1 [.mp a 0 ⟨1,K⟩,.mp b 0 ⟨0,K⟩,.i .i64 qL,.b tl,B4 16 3 O7 l,.i .i64 oe1])]) (by refine⟨_,_,_,rfl,rfl,fun q=>?_,fun h=>h⟩;omega)
  ·have hq:=hoq1 (by simpa using h3)
   refine cK [] (XF od1) ?_;rintro out A0 ⟨Z5,fe2,rfl,rfl,hfl2,hfn2⟩
   refine kH [(2,2),(16,3)] [2] (BF K a b qL tl l oe1 fe2) ?_;rintro out ho A0 ⟨we3,rfl,rfl,rfl,x7,hB3⟩
   refine cB (we3≠0) (fun h4=>?_) fun h4=>?_
   ·exact xW hX (A2 []) (ho:=[(2,A1 [.mp a 0 ⟨1,K⟩,.mp b 0 ⟨0,K⟩,.i .i64 qL,.b tl,B4 16 3 O7 l,.i .i64 we3])]) (by refine⟨_,_,_,rfl,rfl,fun q=>?_,fun h=>h⟩;omega)
   ·refine jB ((Z5.length:Int)=0) 5904 (fun(q:Bool)=>[(0,.pr 2 0 []),(2,.s t),(3,.i .i64 R2),(10,B4 1234 35 I5 Z5),(48,.b q)]) (fun(q:Bool)=>[(2,A1 [.mp a 0 ⟨1,K⟩,.mp b 0 ⟨0,K⟩,.i .i64 qL,.b tl,B4 16 3 O7 l,.i .i64 we3])]) (fun(q:Bool)=>q=true->1<R2) [16,1234] (fun R hR=>⟨fun h5=>?_,fun h5=>?_⟩) ?_
    ·refine cB (1<R2) (fun h6=>?_) fun h6=>?_
     ·exact cA hX (hR tl (by first|(simp;done)|(intro;omega)|(intro _;assumption)))
     ·exact cA hX (hR false (by first|(simp;done)|(intro;omega)|(intro _;assumption))) (hS:=⟨v0,v0,v0,v0,(vT (.bc false)),zT⟩)
    ·exact cA hX (hR false (by first|(simp;done)|(intro;omega)|(intro _;assumption))) (hS:=⟨v0,v0,v0,v0,(vT (.bc false)),zT⟩)
    ·rintro q hJ
     refine jb (q) 10000 (fun(m:List Fil)=>[(0,.pr 2 0 []),(2,.s t),(3,.i .i64 R2),(10,B4 1234 35 I5 Z5)]) (fun(m:List Fil)=>[(2,A1 [.mp a 0 ⟨1,K⟩,.mp b 0 ⟨0,K⟩,.i .i64 qL,.b tl,B4 20 3 O7 m,.i .i64 we3])]) (fun(m:List Fil)=>(m.length:Int)<=qL/\(FOk l->FOk m)) [20,1234] (fun R hR=>⟨fun h7=>?_,fun h7=>?_⟩) ?_
     ·have h1d:=vI (hJ h7)
      refine cC ((0:Int)<=0/\(0:Int)<=(i64.wrap ((t.length:Int)-1))/\(i64.wrap ((t.length:Int)-1))<=(t.length:Int)) ?_ bw;refine cC ((l.length+1)*48<=140737488355328) ?_;exact cA hX (hR (l++[⟨((t.drop 0).take (((i64.wrap ((t.length:Int)-1))).toNat-0)),true,[]⟩]) (by first|exact⟨zO,id⟩|exact⟨by simp only[D0,w8];omega,fun h=>h.snoc⟩)) (hH:=⟨(vT (u:=A1 [.mp a 0 ⟨1,K⟩,.mp b 0 ⟨0,K⟩,.i .i64 qL,.b tl,.sl 20 3 (l.length+1) fun i=>bif blt i l.length then O7 (l.getD i default) else A1 [.s ((t.drop 0).take (((i64.wrap ((t.length:Int)-1))).toNat-0)),.b true,.bl 1 []],.i .i64 we3]) (C4 ⟨.rfl _,.rfl _,.rfl _,.rfl _,Rt l (((t.drop 0).take (((i64.wrap ((t.length:Int)-1))).toNat-0))),.rfl _,zT⟩)),zT⟩)
     ·exact cA hX (hR l (by first|exact⟨zO,id⟩|exact⟨by simp only[D0,w8];omega,fun h=>h.snoc⟩))
     ·rintro m dC
      refine cM hX (fun(p:Nat×Int×(List Fil)×Int)=>[(0,.pr 2 0 []),(2,.s t),(3,.i .i64 R2),(64,B4 1234 35 I5 Z5),(65,.i .i64 (Z5.length:Int)),(66,.i .i64 (p.1:Int))]) (fun(p:Nat×Int×(List Fil)×Int)=>[(2,A1 [.mp a 0 ⟨1,K⟩,.mp b 0 ⟨0,K⟩,.i .i64 p.2.1,.b tl,B4 20 3 O7 p.2.2.1,.i .i64 p.2.2.2])]) (fun(p:Nat×Int×(List Fil)×Int)=>p.1<=Z5.length/\p.2.2.2=0/\(0<=p.2.1/\p.2.1<=1024)/\(p.2.2.1.length:Int)<=p.2.1/\(FOk l->FOk p.2.2.1)) (fun(p:Nat×Int×(List Fil)×Int)=>Z5.length-p.1) [20,1234] 10192 (0,qL,m,we3) (by dsimp only;exact⟨zO,zO,zO,zO,dC.2⟩) ?_;rintro⟨k,c3,l3,e3⟩ hI R hR
      dsimp only at hI
      refine cB ((k:Int)<(Z5.length:Int)) (fun h8=>?_) fun h8=>?_
      ·have hk:=Rr (k:=k) hfn2
       refine cC ((0:Int)<=(k:Int)/\(k:Int)<(Z5.length:Int)) ?_;refine cB ((Z5.getD k default).kind=2) (fun h9=>?_) fun h9=>?_
       ·refine cC (t.length+((Z5.getD k default).name).length<=maxLen) ?_ bm
        refine cC ((t++((Z5.getD k default).name)).length+[47].length<=maxLen) ?_ bM;refine gI (fun _=>hm rfl) [(2,2),(20,3)] [2] (ih zO (i64.wrap (R2+1)) hw K a b c3 tl l3 e3 ((Z5.getD k default).of) ((t++((Z5.getD k default).name))++[47]) bd hI.2.1 bd bM (fun _=>by simp only[D0,w8];omega)) ?_;rintro out ho A0 ⟨gc4,gl4,ge4,rfl,rfl,hgc4,hgf4⟩
        refine cB (ge4≠0) (fun I7=>?_) fun I7=>?_
        ·exact xW hX (A2 []) (ho:=[(2,A1 [.mp a 0 ⟨1,K⟩,.mp b 0 ⟨0,K⟩,.i .i64 gc4,.b tl,B4 16 3 O7 gl4,.i .i64 ge4])]) (by refine⟨_,_,_,rfl,rfl,fun q=>?_,fun h=>hgf4 (hI.2.2.2.2 h)⟩;omega)
        ·have hg:=hgc4 zO
         exact cA hX (hR (k+1,gc4,gl4,ge4) (by dsimp only;exact⟨zO,zO,zO,zO,fun h=>hgf4 (hI.2.2.2.2 h)⟩) (by dsimp only;omega)) (hS:=⟨v0,v0,v0,v0,v0,(vS bd),zT⟩)
       ·refine gI (fun _=>hm rfl) [(2,2),(20,3)] [2] (Rq K a b c3 tl l3 e3 (Z5.getD k default) t zO hI.2.1 bd bd bd) ?_
        rintro out ho A0 ⟨gc5,gl5,ge5,rfl,rfl,hgc5,hge5,hgl5,hgf5⟩
        refine cB (ge5≠0) (fun K8=>?_) fun K8=>?_
        ·exact xW hX (A2 []) (ho:=[(2,A1 [.mp a 0 ⟨1,K⟩,.mp b 0 ⟨0,K⟩,.i .i64 gc5,.b tl,B4 16 3 O7 gl5,.i .i64 ge5])]) (by refine⟨_,_,_,rfl,rfl,fun q=>?_,fun h=>hgf5 (hI.2.2.2.2 h)⟩;omega)
        ·exact cA hX (hR (k+1,gc5,gl5,ge5) (by dsimp only;exact⟨zO,zO,zO,zO,fun h=>hgf5 (hI.2.2.2.2 h)⟩) (by dsimp only;omega)) (hS:=⟨v0,v0,v0,v0,v0,(vS bd),zT⟩)
      ·exact xW hX (A2 []) (ho:=[(2,A1 [.mp a 0 ⟨1,K⟩,.mp b 0 ⟨0,K⟩,.i .i64 c3,.b tl,B4 16 3 O7 l3,.i .i64 e3])]) (by refine⟨_,_,_,rfl,rfl,fun q=>?_,fun h=>hI.2.2.2.2 h⟩;omega)
structure InsL (P:Program) (ρ:Go.Shelf.Ren) (z q:Nat) (zv:Value):Prop where
 mixed:P.follows .mixedOrders=true
 t0:P.underlying (ρ.t 0)=some (TypeDesc.tuple #[])
 a0:∀w,(isAgg (ρ.t 0)).run P w=.ok false w
 z0:∀w,(Go.sizeOf (ρ.t 0)).run P w=.ok 1 w
 v0:∀w,(zeroValue (ρ.t 0)).run P w=.ok (Value.tuple #[]) w
 t3:P.underlying (ρ.t 3)=some (TypeDesc.int i64)
 a3:∀w,(isAgg (ρ.t 3)).run P w=.ok false w
 z3:∀w,(Go.sizeOf (ρ.t 3)).run P w=.ok 1 w
 v3:∀w,(zeroValue (ρ.t 3)).run P w=.ok (Value.int i64 0) w
 t4:P.underlying (ρ.t 4)=some (TypeDesc.bool)
 a4:∀w,(isAgg (ρ.t 4)).run P w=.ok false w
 z4:∀w,(Go.sizeOf (ρ.t 4)).run P w=.ok 1 w
 v4:∀w,(zeroValue (ρ.t 4)).run P w=.ok (Value.bool false) w
 z9:∀w,(Go.sizeOf (ρ.t 9)).run P w=.ok z w
 t24:P.underlying (ρ.t 24)=some (TypeDesc.slice (ρ.t 9))
 a24:∀w,(isAgg (ρ.t 24)).run P w=.ok false w
 z24:∀w,(Go.sizeOf (ρ.t 24)).run P w=.ok 1 w
 v24:∀w,(zeroValue (ρ.t 24)).run P w=.ok (Value.slice none 0 0) w
 i9:(P.info? (ρ.t 9)).map (fun i=>(i.zero,i.size,i.bytes))=some (some zv,z,q)
 zp:0<z
 zs:zv.cells.size=z
 zo:∀v∈zv.cells.toList,v.oneCell'=true
def tJ(P:Program)(f:FuncId)(g:Func):Prop:=∃fn,P.funcs[f]? =some fn/\fn.body=g.body/\fn.ntmps=g.ntmps/\fn.results=g.results
theorem GJ{f:FuncId}{g:Func}{c:Code}{args:Array Value}{R:Ending->World->Prop}(hf:tJ P f g)(hb:g.body=some c)
  (h:c.wp P (bodyPost P g R) { tmps:=args++Array.replicate (g.ntmps-args.size) undef,defers:=[]} w):Calls P f args w R:=by
 obtain⟨fn,h1,h2,h3,h4⟩:=hf
 have e:bodyPost P fn R=bodyPost P g R:=by funext e a w;unfold bodyPost;cases e<;>simp only[results,h4]
 refine calls_of_wp h1 (h2.trans hb) ?_
 rw[e,h3];exact h
theorem GK(w:World)(dT sT ty elem:TypeId)(b o dLen dCap:Nat)(a:Addr)(sLen sCap:Nat)(cs:List Value){z:Nat}
  (hu:P.underlying dT=some (.slice elem))(hs:(P.info? elem).map (·.size)=some z)(hn:cs.length=Nat.min sLen dLen*z)
  (J8:∀j v,cs[j]? =some v->w.cell? (a.add j)=some v)(hc:∀j,j<cs.length->(w.cell? ⟨b,o+j,none⟩).isSome=true)(hf:∀j,j<cs.length->w.frozen? ⟨b,o+j,none⟩=false)(h1:∀v∈cs,v.oneCell'=true):
  (Builtin.copy_ #[dT,sT] ty #[.slice (some ⟨b,o,none⟩) dLen dCap,.slice (some a) sLen sCap]).run P w=.ok (goInt (Nat.min sLen dLen)) (w.setCells b o cs):=by
 have hl:=run_loadCells_list (P:=P) w a cs J8
 have I1:=run_storeCells_cells (P:=P) b o cs 0 w (by simpa using hc) (by simpa using hf) h1
 cases hq:P.info? elem with
|none=>simp[hq]at hs
|some i=>
  have hi:i.size=z:=by simpa [hq] using hs
  simp[Builtin.copy_,run_underlying hu,Builtin.lenOf,Builtin.firstCells,sizeOf,typeInfo,hq,hi, <-hn,hl,I1]
open Go.Shelf Go.RowKit Go.Lib in
set_option maxHeartbeats 4000000 in
set_option maxRecDepth 100000 in
theorem Ru{ρ:Go.Shelf.Ren}{z:Nat}{zv:Value}{f:FuncId}(L:InsL P ρ z q zv)(hF:tJ P f (Body2.n22 ρ))(b off n c i vb Z6 vc:Nat)(cs vs:List Value)(w:World)(hi:i<n)(g9:n+1<=c)(hc63:c<=9223372036854775807)
  (bJ:cs.length=n*z)(mX:vs.length=z)
  (v6:∀j v,cs[j]? =some v->w.cell? ⟨b,off+j,none⟩=some v)(fP:∀j,j<(n+1)*z->(w.cell? ⟨b,off+j,none⟩).isSome=true)(W4:∀j,j<(n+1)*z->w.frozen? ⟨b,off+j,none⟩=false)
  (X8:∀j v,vs[j]? =some v->w.cell? ⟨vb,Z6+j,none⟩=some v)(kW:∀v∈cs,v.oneCell'=true)(h1v:∀v∈vs,v.oneCell'=true)
  (Y5:vb=b->∀j k,j<z->k<(n+1)*z->Z6+j≠off+k)
  (hov:∀cb,(callFunc (ρ.f 29) #[.slice (some ⟨vb,Z6,none⟩) 1 vc,.slice (some ⟨b,off+(i+1)*z,none⟩) (n-i) cb]).run P w=.ok (.value (.bool false)) w):
  Calls P f #[.slice (some ⟨b,off,none⟩) n c,.int .i64 i,.slice (some ⟨vb,Z6,none⟩) 1 vc] w fun e w'=>
   e=.returned (.slice (some ⟨b,off,none⟩) (n+1) c)/\w'=(w.drew.setCells b (off+(i+1)*z) (cs.drop (i*z))).setCells b (off+i*z) vs:=by
 have t0:=L.t0;have a0:=L.a0;have z0:=L.z0;have v0:=L.v0;have t3:=L.t3;have a3:=L.a3;have z3:=L.z3;have v3:=L.v3;have t4:=L.t4;have a4:=L.a4;have z4:=L.z4;have v4:=L.v4;have z9:=L.z9;have t24:=L.t24;have a24:=L.a24;have z24:=L.z24;have v24:=L.v24
 have u0:=run_underlying L.t0;have u3:=run_underlying L.t3;have u4:=run_underlying L.t4;have u24:=run_underlying L.t24
 have jN:¬ ((i:Int)=(n:Int)):=by omega
 have G4:(P.info? (ρ.t 9)).map (·.size)=some z:=by
  obtain⟨i0,nB,h0,h1,h2⟩:=info_parts L.i9
  rw[nB];simp[h1]
 have qM:=L.zp
 have hIN:i*z+z<=n*z:=by have:=G8 z hi;rw[G9]at this;exact this
 have hn1:(n+1)*z=n*z+z:=G9 n z
 have jV:(i+1)*z=i*z+z:=G9 i z
 have X9:(cs.drop (i*z)).length=n*z-i*z:=by rw[K4,bJ]
 have qO:(n-i)*z=n*z-i*z:=mR n i z
 have mixed:=L.mixed
 have qF:i64.wrap ((i:Int)+1)=(i:Int)+1:=by rw[IntKind.wrap_i64];omega
 have P8:(0:Int)<=(i:Int)+1:=by omega
 have W0:i<=n:=by omega
 have htn:((i:Int)+1).toNat=i+1:=by omega
 have U1:¬ (c=i+1):=by omega
 have x7:(i:Int)<=(n:Int)+1:=by omega
 have hb4:¬ (c=i):=by omega
 have hcp1:∀ty dc sc,(Builtin.copy_ #[(ρ.t 24),(ρ.t 24)] ty #[.slice (some ⟨b,off+(i+1)*z,none⟩) (n-i) dc,.slice (some ⟨b,off+i*z,none⟩) (n+1-i) sc]).run P w.drew=.ok (goInt (Nat.min (n+1-i) (n-i))) (w.drew.setCells b (off+(i+1)*z) (cs.drop (i*z))):=fun ty dc sc=>
  GK w.drew _ _ ty (ρ.t 9) b (off+(i+1)*z) (n-i) dc ⟨b,off+i*z,none⟩ (n+1-i) sc (cs.drop (i*z)) L.t24 G4 (by rw[X9, <-qO];congr 1;simp only[Nat.min_def];split<;>omega)
   (fun j v hj=>by rw[Addr.add_lit,O8];exact v6 (i*z+j) v (by rwa [Q1]at hj))
   (fun j hj=>by rw[O8];exact fP _ zO) (fun j hj=>by rw[O8];exact W4 _ zO) (fun v hv=>kW v (IB hv))
 obtain⟨W1,v7⟩:∃W1,W1=w.drew.setCells b (off+(i+1)*z) (cs.drop (i*z)):=⟨_,rfl⟩
 have hsp1:∀k,k<(n+1)*z->(W1.cell? ⟨b,off+k,none⟩).isSome=true:=fun k hk=>by
  rw[v7]
  exact isSome_setCells b _ _ _ (fun j hj=>by rw[O8];exact fP _ zO) _ (fP k hk)
 have hcp2:∀(W:World),(∀x,W.cell? x=W1.cell? x)->(∀x,W.frozen? x=W1.frozen? x)->∀ty dc,(Builtin.copy_ #[(ρ.t 24),(ρ.t 24)] ty #[.slice (some ⟨b,off+i*z,none⟩) (n+1-i) dc,.slice (some ⟨vb,Z6,none⟩) 1 vc]).run P W=.ok (goInt (Nat.min 1 (n+1-i))) (W.setCells b (off+i*z) vs):=fun W qP hWf ty dc=>
  GK W _ _ ty (ρ.t 9) b (off+i*z) (n+1-i) dc ⟨vb,Z6,none⟩ 1 vc vs L.t24 G4 (by rw[mX,show Nat.min 1 (n+1-i)=1 by simp only[Nat.min_def];split<;>omega,pR])
   (fun j v hj=>by
    have hjz:j<z:=by have:=(N0.1 hj).1;omega
    rw[Addr.add_lit,qP,v7,mQ b _ _ _ _ (fun h _=>by
     show Z6+j<off+(i+1)*z\/off+(i+1)*z+(cs.drop (i*z)).length<=Z6+j
     by_cases h1:Z6+j<off+(i+1)*z
     ·exact .inl h1
     ·by_cases h2:off+(i+1)*z+(cs.drop (i*z)).length<=Z6+j
      ·exact .inr h2
      ·exact absurd (show Z6+j=off+(Z6+j-off) by omega) (Y5 h j (Z6+j-off) hjz zO))]
    exact X8 j v hj)
   (fun j hj=>by rw[qP,O8];exact hsp1 _ zO) (fun j hj=>by rw[hWf,v7,jL,O8];exact W4 _ zO) h1v
 rw[<-v7]at hcp1
 clear Y5 hIN hn1 jV X9 qO
 refine GJ hF rfl ?_
 simp only[Body2.n22_ntmps ρ,bD,I6,S0,Nat.reduceAdd,Nat.reduceSub,Array.replicate_succ,Array.replicate_zero,List.push_toArray,List.append_toArray,Y3,t6]
 go_wp2_with (simp only[hov])
 go_region_law_o (refine step_copy_runI rfl _ _ (ρ.t 24) (ρ.t 24) rfl _ _ (by simp[Act.eval,Act.put]) (by simp[Act.eval,Act.put]) (hcp1 _ _ _) ?_)
 go_wp2_with (at_builtin;refine wpList_copy_runI _ rfl _ _ (ρ.t 24) (ρ.t 24) rfl _ _ rfl rfl (hcp2 _ (fun _=>rfl) (fun _=>rfl) _ _) ?_)
 go_ret
 first|exact⟨rfl,rfl⟩|exact⟨rfl,by rw[v7]⟩
open Go.Shelf Go.RowKit Go.Lib in
set_option maxHeartbeats 4000000 in
set_option maxRecDepth 100000 in
theorem Rv{ρ:Go.Shelf.Ren}{z:Nat}{zv:Value}{f:FuncId}(L:InsL P ρ z q zv)(hF:tJ P f (Body2.n22 ρ))(P4:Option Addr)(n c vb Z6 vc:Nat)(w w':World)(v':Value)(hnil:P4=none->n=0)(hnc:n<=c)
  (I2:∀ty,(Builtin.append_ #[(ρ.t 24),(ρ.t 24)] ty #[.slice P4 n c,.slice (some ⟨vb,Z6,none⟩) 1 vc]).run P w=.ok v' w'):
  Calls P f #[.slice P4 n c,.int .i64 n,.slice (some ⟨vb,Z6,none⟩) 1 vc] w fun e w2=>e=.returned v'/\w2=w':=by
 have t0:=L.t0;have a0:=L.a0;have z0:=L.z0;have v0:=L.v0;have t3:=L.t3;have a3:=L.a3;have z3:=L.z3;have v3:=L.v3;have t4:=L.t4;have a4:=L.a4;have z4:=L.z4;have v4:=L.v4;have z9:=L.z9;have t24:=L.t24;have a24:=L.a24;have z24:=L.z24;have v24:=L.v24
 have u0:=run_underlying L.t0;have u3:=run_underlying L.t3;have u4:=run_underlying L.t4;have u24:=run_underlying L.t24
 have mixed:=L.mixed
 refine GJ hF rfl ?_
 simp only[Body2.n22_ntmps ρ,bD,I6,S0,Nat.reduceAdd,Nat.reduceSub,Array.replicate_succ,Array.replicate_zero,List.push_toArray,List.append_toArray,Y3,t6]
 cases P4 with
|none=>
  have h0:=hnil rfl
  subst h0
  go_wp2_with (at_builtin;refine Lib.wpList_append_run _ rfl _ _ _ _ rfl _ _ rfl rfl _ _ (I2 _) ?_)
  all_goals (go_ret;exact⟨rfl,rfl⟩)
|some a=>
  obtain⟨ab,ao,asp⟩:=a
  go_wp2_with (at_builtin;refine Lib.wpList_append_run _ rfl _ _ _ _ rfl _ _ rfl rfl _ _ (I2 _) ?_)
  all_goals (go_ret;exact⟨rfl,rfl⟩)
open Go.Shelf Go.RowKit Go.Lib in
set_option maxHeartbeats 4000000 in
set_option maxRecDepth 100000 in
theorem Rw{ρ:Go.Shelf.Ren}{z:Nat}{zv:Value}{f:FuncId}(L:InsL P ρ z q zv)(hF:tJ P f (Body2.n22 ρ))(b off n c i vb Z6 vc:Nat)(cs vs:List Value)(w:World)(hi:i<n)(hnc:n<=c)(g9:c<n+1)(hbig:(n+1)*q<=140737488355328)(hq:0<q)
  (bJ:cs.length=n*z)(mX:vs.length=z)
  (v6:∀j v,cs[j]? =some v->w.cell? ⟨b,off+j,none⟩=some v)
  (X8:∀j v,vs[j]? =some v->w.cell? ⟨vb,Z6+j,none⟩=some v)(kW:∀v∈cs,v.oneCell'=true)(h1v:∀v∈vs,v.oneCell'=true):
  Calls P f #[.slice (some ⟨b,off,none⟩) n c,.int .i64 i,.slice (some ⟨vb,Z6,none⟩) 1 vc] w fun e w'=>∃ROW G,ROW.size=G*z/\n+1<=G/\G<=maxLen/\ROW.toList.take (i*z)=cs.take (i*z)/\
   e=.returned (.slice (some ⟨w.heap.size,0,none⟩) (n+1) G)/\
   w'=(((w.alloc (.cells ROW (ρ.t 9))).drew.setCells w.heap.size (i*z) vs).drew).setCells w.heap.size ((i+1)*z) (cs.drop (i*z)):=by
 have t0:=L.t0;have a0:=L.a0;have z0:=L.z0;have v0:=L.v0;have t3:=L.t3;have a3:=L.a3;have z3:=L.z3;have v3:=L.v3;have t4:=L.t4;have a4:=L.a4;have z4:=L.z4;have v4:=L.v4;have z9:=L.z9;have t24:=L.t24;have a24:=L.a24;have z24:=L.z24;have v24:=L.v24
 have u0:=run_underlying L.t0;have u3:=run_underlying L.t3;have u4:=run_underlying L.t4;have u24:=run_underlying L.t24
 have mixed:=L.mixed
 have qM:=L.zp
 have dX:=L.zs
 obtain⟨i0,nB,x6,hzz,hzb⟩:=info_parts L.i9
 have hIN:i*z+z<=n*z:=by have:=G8 z hi;rw[G9]at this;exact this
 have hn1:(n+1)*z=n*z+z:=G9 n z
 have jV:(i+1)*z=i*z+z:=G9 i z
 have qO:(n-i)*z=n*z-i*z:=mR n i z
 have jN:¬ ((i:Int)=(n:Int)):=by omega
 have hz3:(c:Int)<(n:Int)+1:=by omega
 have G4:(P.info? (ρ.t 9)).map (·.size)=some z:=by rw[nB];simp[hzz]
 have jQ:b<w.heap.size:=block_lt_of_cell (v6 0 _ (B7 zO))
 have hvw:vb<w.heap.size:=block_lt_of_cell (X8 0 _ (B7 zO))
 have lG:(n:Int)+1-(i:Int)=((n+1-i:Nat):Int):=by omega
 have nH:i+(n+1-i)=n+1:=by omega
 have N2:n+1<=140737488355328:=N1 (uE _ hq) hbig
 have bL:(Builtin.firstCells i0.size i (.slice (some ⟨b,off,none⟩) i c)).run P w.drew=.ok (cs.take (i*z)).toArray w.drew:=by
  rw[hzz]
  exact run_firstCells_some w.drew z i ⟨b,off,none⟩ i c (cs.take (i*z)) (by rw[F7];omega) (fun j v hj=>by
   rw[Addr.add_lit]
   rw[r9]at hj
   split at hj
   ·exact v6 j v hj
   ·cases hj)
 have hrz:∀ty,(Builtin.append_ #[(ρ.t 24),(ρ.t 3)] ty #[.slice (some ⟨b,off,none⟩) i c,.int .i64 ((n:Int)+1-(i:Int))]).run P w=
   .ok (.slice (some ⟨w.heap.size,0,none⟩) (n+1) (grownCap w (n+1) c (ρ.t 9))) (w.drew.alloc (.cells ((cs.take (i*z)).toArray++Builtin.zeroCells zv.cells (n+1-i)++Builtin.zeroCells zv.cells (grownCap w (n+1) c (ρ.t 9)-(n+1))) (ρ.t 9))):=fun ty=>by
  have h:=Lib.run_append_grow_zeros w (ρ.t 24) (ρ.t 3) ty (ρ.t 9) i0 _ .i64 .i64 L.t24 L.t3 nB x6 (some ⟨b,off,none⟩) i c (cs.take (i*z)) bL (n+1-i) zO zO zO zO (by rw[hzb];exact N1 (G8 _ (by omega:n+1-i<=n+1)) zO) (by rw[hzb,nH];exact growslice_fits g9 hbig)
  rw[nH]at h
  rw[lG]
  exact h
 obtain⟨G,hG⟩:∃G,G=grownCap w (n+1) c (ρ.t 9):=⟨_,rfl⟩
 obtain⟨ROW,hROW⟩:∃ROW:Array Value,ROW=(cs.take (i*z)).toArray++Builtin.zeroCells zv.cells (n+1-i)++Builtin.zeroCells zv.cells (G-(n+1)):=⟨_,rfl⟩
 rw[<-hG]at hrz
 rw[<-hROW]at hrz
 have hGn:n+1<=G:=by rw[hG];exact grownCap_ge w _ _ _
 have hsz0:∀k,(Builtin.zeroCells zv.cells k).size=k*z:=fun k=>by rw[size_zeroCells,dX]
 have hRl:ROW.size=G*z:=by
  rw[hROW,yP,yP,hsz0,hsz0,bD,F7,jJ zO, <-V6, <-V6]
  congr 1;omega
 have hGz:(n+1)*z<=G*z:=G8 _ hGn
 have hRt:ROW.toList.take (i*z)=cs.take (i*z):=by
  rw[hROW,Array.toList_append,Array.toList_append,I0,kR (by rw[F7];omega),List.take_take,Nat.min_self]
 obtain⟨W1,v7⟩:∃W1,W1=w.drew.alloc (.cells ROW (ρ.t 9)):=⟨_,rfl⟩
 rw[<-v7]at hrz
 have hN:∀j,j<(n+1)*z->(W1.cell? ⟨w.heap.size,j,none⟩).isSome=true:=fun j hj=>by
  rw[v7,World.cell?_alloc_at (w:=w.drew) ROW _ w.heap.size j rfl,yQ zO];rfl
 have hNf:∀j,W1.frozen? ⟨w.heap.size,j,none⟩=false:=fun j=>by rw[v7];exact World.frozen?_alloc_at (w:=w.drew) ROW _ w.heap.size j rfl
 have hOb:∀j v,w.cell? ⟨b,j,none⟩=some v->W1.cell? ⟨b,j,none⟩=some v:=fun j v h=>by rw[v7,World.cell?_alloc_past (w:=w.drew) _ b j jQ];exact h
 have hOv:∀j v,w.cell? ⟨vb,j,none⟩=some v->W1.cell? ⟨vb,j,none⟩=some v:=fun j v h=>by rw[v7,World.cell?_alloc_past (w:=w.drew) _ vb j hvw];exact h
 have X9:(cs.drop (i*z)).length=n*z-i*z:=by rw[K4,bJ]
 have hcpA:∀(W:World),(∀x,W.cell? x=W1.cell? x)->(∀x,W.frozen? x=W1.frozen? x)->∀ty dc,(Builtin.copy_ #[(ρ.t 24),(ρ.t 24)] ty #[.slice (some ⟨w.heap.size,i*z,none⟩) (n+1-i) dc,.slice (some ⟨vb,Z6,none⟩) 1 vc]).run P W=.ok (goInt (Nat.min 1 (n+1-i))) (W.setCells w.heap.size (i*z) vs):=fun W qP hWf ty dc=>
  GK W _ _ ty (ρ.t 9) w.heap.size (i*z) (n+1-i) dc ⟨vb,Z6,none⟩ 1 vc vs L.t24 G4 (by rw[mX,show Nat.min 1 (n+1-i)=1 by simp only[Nat.min_def];split<;>omega,pR])
   (fun j v hj=>by rw[Addr.add_lit,qP];exact hOv _ v (X8 j v hj))
   (fun j hj=>by rw[qP];exact hN _ zO) (fun j hj=>by rw[hWf];exact hNf _) h1v
 have hG63:G<=9223372036854775807:=by
  have:=grownCap_le_maxLen w (n+1) c (ρ.t 9) (by unfold maxLen;omega)
  rw[<-hG]at this
  unfold maxLen at this
  omega
 have hGi:¬ (G=i):=by omega
 have hGim:¬ (G=i+1):=by omega
 have hci:¬ (c=i):=by omega
 have hbN:b≠w.heap.size:=by omega
 have hcpB:∀(W:World),(∀x,W.cell? x=(W1.setCells w.heap.size (i*z) vs).cell? x)->(∀x,W.frozen? x=(W1.setCells w.heap.size (i*z) vs).frozen? x)->∀ty dc sc,(Builtin.copy_ #[(ρ.t 24),(ρ.t 24)] ty #[.slice (some ⟨w.heap.size,(i+1)*z,none⟩) (n-i) dc,.slice (some ⟨b,off+i*z,none⟩) (n-i) sc]).run P W=.ok (goInt (Nat.min (n-i) (n-i))) (W.setCells w.heap.size ((i+1)*z) (cs.drop (i*z))):=fun W qP hWf ty dc sc=>
  GK W _ _ ty (ρ.t 9) w.heap.size ((i+1)*z) (n-i) dc ⟨b,off+i*z,none⟩ (n-i) sc (cs.drop (i*z)) L.t24 G4 (by rw[X9, <-qO];congr 1;simp only[Nat.min_def];split<;>omega)
   (fun j v hj=>by
    rw[Addr.add_lit,qP,mQ _ _ _ _ _ (fun h _=>absurd h hbN),O8]
    exact hOb _ v (v6 (i*z+j) v (by rwa [Q1]at hj)))
   (fun j hj=>by rw[qP];exact isSome_setCells _ _ _ _ (fun t ht=>hN _ zO) _ (hN _ zO))
   (fun j hj=>by rw[hWf,jL];exact hNf _) (fun v hv=>kW v (IB hv))
 subst v7
 have hE1:∀x,((w.alloc (.cells ROW (ρ.t 9))).drew).cell? x=(w.drew.alloc (.cells ROW (ρ.t 9))).cell? x:=fun x=>rfl
 have hE2:∀x,((w.alloc (.cells ROW (ρ.t 9))).drew).frozen? x=(w.drew.alloc (.cells ROW (ρ.t 9))).frozen? x:=fun x=>rfl
 have hF1:∀x,(((w.alloc (.cells ROW (ρ.t 9))).drew.setCells w.heap.size (i*z) vs).drew).cell? x=((w.drew.alloc (.cells ROW (ρ.t 9))).setCells w.heap.size (i*z) vs).cell? x:=fun x=>rfl
 have hF2:∀x,(((w.alloc (.cells ROW (ρ.t 9))).drew.setCells w.heap.size (i*z) vs).drew).frozen? x=((w.drew.alloc (.cells ROW (ρ.t 9))).setCells w.heap.size (i*z) vs).frozen? x:=fun x=>rfl
 have qF:i64.wrap ((i:Int)+1)=(i:Int)+1:=by rw[IntKind.wrap_i64];omega
 have P8:(0:Int)<=(i:Int)+1:=by omega
 have W0:i<=n:=by omega
 have htn:((i:Int)+1).toNat=i+1:=by omega
 have x7:(i:Int)<=(n:Int):=by omega
 have fin:Calls P f #[.slice (some ⟨b,off,none⟩) n c,.int .i64 i,.slice (some ⟨vb,Z6,none⟩) 1 vc] w fun e w'=>e=.returned (.slice (some ⟨w.heap.size,0,none⟩) (n+1) G)/\
   w'=(((w.alloc (.cells ROW (ρ.t 9))).drew.setCells w.heap.size (i*z) vs).drew).setCells w.heap.size ((i+1)*z) (cs.drop (i*z)):=by
  clear lG nH bL hROW hG hRl hRt hGz hsz0 hIN hn1 jV X9 qO hN hNf hOb hOv
  refine GJ hF rfl ?_
  simp only[Body2.n22_ntmps ρ,bD,I6,S0,Nat.reduceAdd,Nat.reduceSub,Array.replicate_succ,Array.replicate_zero,List.push_toArray,List.append_toArray,Y3,t6]
  go_wp2_with (first
  |(at_builtin;refine Lib.wpList_append_run _ rfl _ _ _ _ rfl _ _ rfl rfl _ _ (hrz _) ?_)
  |(at_builtin;refine wpList_copy_runI _ rfl _ _ (ρ.t 24) (ρ.t 24) rfl _ _ rfl rfl (hcpA _ hE1 hE2 _ _) ?_)
  |(at_builtin;refine wpList_copy_runI _ rfl _ _ (ρ.t 24) (ρ.t 24) rfl _ _ rfl rfl (hcpB _ (fun _=>rfl) (fun _=>rfl) _ _ _) ?_))
  go_region_law_o (refine step_copy_runI rfl _ _ (ρ.t 24) (ρ.t 24) rfl (.slice (some ⟨w.heap.size,(i+1)*z,none⟩) (n-i) (G-(i+1))) (.slice (some ⟨b,off+i*z,none⟩) (n-i) (c-i)) (by simp[Act.eval,Act.put]) (by simp[Act.eval,Act.put]) (hcpB _ hF1 hF2 (ρ.t 3) (G-(i+1)) (c-i)) ?_)
  go_wp2
  go_ret
  exact⟨rfl,rfl⟩
 exact fin.mono fun e w' ⟨h1,h2⟩=>⟨ROW,G,hRl,hGn,by unfold maxLen;omega,hRt,h1,h2⟩
theorem Rx(c:Array Value):(Builtin.zeroCells c 1).toList=c.toList:=by
 apply List.ext_getElem
 ·simp[Builtin.zeroCells]
 ·intro i h1 h2
  have h3:i<c.size:=by simpa using h2
  simp[Builtin.zeroCells,Nat.mod_eq_of_lt h3,getElem!_pos c i h3]
theorem Ry(w:World)(t e ty:TypeId)(z:Value)(ht:P.underlying t=some (.slice e))(hv:∀w,(zeroValue e).run P w=.ok z w)(h1:∀v∈z.cells.toList,v.oneCell'=true)(b o c:Nat)
  (hc:∀j,j<z.cells.size->(w.cell? ⟨b,o+j,none⟩).isSome=true)(hf:∀j,j<z.cells.size->w.frozen? ⟨b,o+j,none⟩=false):
  (Builtin.clear_ #[t] ty #[.slice (some ⟨b,o,none⟩) 1 c]).run P w=.ok (.tuple #[]) (w.setCells b o z.cells.toList):=by
 have I1:=run_storeCells_cells (P:=P) b o z.cells.toList 0 w (by simpa using hc) (by simpa using hf) h1
 simp only[s9]at I1
 simp[Builtin.clear_,run_underlying ht,hv,Rx,I1]
open Go.Shelf Go.RowKit Go.Lib Go.Sort in
set_option maxHeartbeats 4000000 in
set_option maxRecDepth 1000000 in
theorem Rz{ρ:Go.Shelf.Ren}{z:Nat}{zv:Value}{f:FuncId}(L:InsL P ρ z q zv)(hF:tJ P f (Body2.n24 ρ))(b off n c i:Nat)(cs:List Value)(w:World)(hi:i<n)(hnc:n<=c)(hc63:c<=9223372036854775807)
  (bJ:cs.length=n*z)(v6:∀j v,cs[j]? =some v->w.cell? ⟨b,off+j,none⟩=some v)(W4:∀j,j<n*z->w.frozen? ⟨b,off+j,none⟩=false)(kW:∀v∈cs,v.oneCell'=true):
  Calls P f #[.slice (some ⟨b,off,none⟩) n c,.int .i64 (i:Int),.int .i64 ((i:Int)+1)] w fun e w'=>e=.returned (.slice (some ⟨b,off,none⟩) (n-1) c)/\w'=(w.drew.setCells b (off+i*z) (cs.drop ((i+1)*z))).setCells b (off+(n-1)*z) zv.cells.toList:=by
 have mixed:=L.mixed;have t0:=L.t0;have a0:=L.a0;have z0:=L.z0;have v0:=L.v0;have t3:=L.t3;have a3:=L.a3;have z3:=L.z3;have v3:=L.v3;have t4:=L.t4;have a4:=L.a4;have z4:=L.z4;have v4:=L.v4;have z9:=L.z9;have t24:=L.t24;have a24:=L.a24;have z24:=L.z24;have v24:=L.v24
 have u0:=run_underlying L.t0;have u3:=run_underlying L.t3;have u4:=run_underlying L.t4;have u24:=run_underlying L.t24
 have dX:=L.zs
 obtain⟨i0,nB,x6,pU,jN⟩:=info_parts L.i9
 have v9:∀w,(zeroValue (ρ.t 9)).run P w=.ok zv w:=fun w=>by simp[zeroValue,typeInfo,nB,x6]
 have hIN:i*z+z<=n*z:=by have:=G8 z hi;rw[G9]at this;exact this
 have jV:(i+1)*z=i*z+z:=G9 i z
 have P0:(n-1)*z=n*z-z:=by rw[mR,pR]
 have qO:(n-(i+1))*z=n*z-(i+1)*z:=mR n (i+1) z
 obtain⟨news,fE⟩:∃news,news=cs.drop ((i+1)*z):=⟨_,rfl⟩
 have D8:news.length=n*z-(i+1)*z:=by rw[fE,K4,bJ]
 obtain⟨A,hA,J8⟩:∃A:Addr,(if c=i+1 then some (⟨b,off,none⟩:Addr) else some ⟨b,off+(i+1)*z,none⟩)=some A/\Hid (∀t u,news[t]? =some u->w.drew.cell? (A.add t)=some u):=by
  by_cases h:c=i+1
  ·refine⟨⟨b,off,none⟩,by simp[h],fun t u hu=>?_⟩
   have h0:news.length=0:=by rw[D8,show n=i+1 by omega,bG]
   rw[j5.1 h0]at hu
   simp at hu
  ·refine⟨⟨b,off+(i+1)*z,none⟩,by simp[h],fun t u hu=>?_⟩
   rw[Addr.add_lit,O8]
   exact v6 _ u (by rw[fE,Q1]at hu;exact hu)
 have s1:Hid (news.length=(n-(i+1))*z):=by rw[qO];exact D8
 have s2:Hid (∀u∈news,u.oneCell'=true):=by intro u hu;rw[fE]at hu;exact kW u (IB hu)
 have cell:∀t,t<n*z->(w.drew.cell? ⟨b,off+t,none⟩).isSome=true/\w.drew.frozen? ⟨b,off+t,none⟩=false:=fun t ht=>by
  refine⟨?_,W4 t ht⟩
  have:=v6 t _ (B7 zO)
  show(w.cell? _).isSome=true
  rw[this];rfl
 have s3:Hid (∀t,t<news.length->(w.drew.cell? ⟨b,off+i*z+t,none⟩).isSome=true/\w.drew.frozen? ⟨b,off+i*z+t,none⟩=false):=by
  intro t ht
  rw[O8];exact cell _ zO
 obtain⟨W1,v7⟩:∃W1,W1=w.drew.setCells b (off+i*z) news:=⟨_,rfl⟩
 have cell1:∀t,t<n*z->(W1.cell? ⟨b,off+t,none⟩).isSome=true/\W1.frozen? ⟨b,off+t,none⟩=false:=fun t ht=>by
  rw[v7]
  refine⟨isSome_setCells b _ _ _ (fun j hj=>by rw[O8];exact(cell _ zO).1) _ (cell t ht).1,?_⟩
  rw[jL];exact(cell t ht).2
 have hin2:i+(n-(i+1))=n-1:=by omega
 have hcle:∀ty d,(Builtin.clear_ #[ρ.t 24] ty #[.slice (some ⟨b,off+(i+(n-(i+1)))*z,none⟩) (n-(i+(n-(i+1)))) d]).run P W1=.ok (.tuple #[]) (W1.setCells b (off+(n-1)*z) zv.cells.toList):=fun ty d=>by
  rw[show n-(i+(n-(i+1)))=1 by omega,hin2]
  exact Ry W1 _ _ ty _ t24 v9 L.zo b (off+(n-1)*z) _ (fun t ht=>by rw[O8];exact(cell1 _ zO).1) (fun t ht=>by rw[O8];exact(cell1 _ zO).2)
 have hW:Hid (W1=w.drew.setCells b (off+i*z) news):=v7
 have hic:i<=c:=by omega
 have hjc:i+1<=c:=by omega
 have cU:i<=i+1:=by omega
 have hj:i+1<=n:=by omega
 have P8:(0:Int)<=(i:Int)+1:=by omega
 have htn:((i:Int)+1).toNat=i+1:=by omega
 have x7:(i:Int)<=(i:Int)+1:=by omega
 have hb5:(i:Int)+1<=(n:Int):=by omega
 have hb6:¬ ((i:Int)=(i:Int)+1):=by omega
 have hb7:(i:Int)+1<=(c:Int):=by omega
 obtain⟨Z,hZ⟩:∃Z,Z=zv.cells.toList:=⟨_,rfl⟩
 rw[<-hZ]at hcle ⊢
 have fin:Calls P f #[.slice (some ⟨b,off,none⟩) n c,.int .i64 (i:Int),.int .i64 ((i:Int)+1)] w fun e w'=>e=.returned (.slice (some ⟨b,off,none⟩) (i+(n-(i+1))) c)/\w'=W1.setCells b (off+(n-1)*z) Z:=by
  clear hZ hIN jV P0 qO D8 fE v6 W4 cell cell1 v7 hin2 bJ
  refine GJ hF rfl ?_
  simp only[Body2.n24_ntmps ρ,bD,I6,S0,Nat.reduceAdd,Nat.reduceSub,Array.replicate_succ,Array.replicate_zero,List.push_toArray,List.append_toArray,Y3,t6]
  go_wp2_with fail
  go_region_law_o (refine step_append_room rfl (.tmp 22) (.tmp 25) (ρ.t 24) rfl (ρ.t 9) i0 z t24 nB pU b off i c (by simp[Act.eval,Act.put]) A (n-(i+1)) (c-(i+1)) news (by simp[Act.eval,Act.put]) s1.out J8.out s2.out zO s3.out ?_;rw[<-hW.out])
  go_wp2
  go_ret
  exact⟨rfl,rfl⟩
 refine fin.mono fun e w' ⟨h1,h2⟩=>⟨by rw[h1,hin2],by rw[h2,v7,fE]⟩
def V1:Array Value->Nat->List Value->Array Value
|c,_,[]=>c
|c,o,v::r=>V1 (c.setIfInBounds o v) (o+1) r
theorem tL:∀(vs:List Value) (c:Array Value) (o:Nat),(V1 c o vs).size=c.size
|[],_,_=>rfl
|v::r,c,o=>by rw[V1,tL r];simp
theorem BG:∀(vs:List Value) (c:Array Value) (o j:Nat),(V1 c o vs)[j]? =if o<=j/\j<o+vs.length/\j<c.size then vs[j-o]? else c[j]?
|[],c,o,j=>by
  rw[V1,if_neg (by simp only[S0];omega)]
|v::r,c,o,j=>by
  rw[V1,BG r]
  simp only[Array.size_setIfInBounds,I6]
  by_cases h:o+1<=j/\j<o+1+r.length/\j<c.size
  ·rw[if_pos h,if_pos zO,show j-o=(j-(o+1))+1 by omega,CC]
  ·rw[if_neg h,HZ]
   by_cases e:o=j
   ·subst e
    by_cases hs:o<c.size
    ·rw[if_pos rfl,if_pos hs,if_pos zO,bG];rfl
    ·rw[if_pos rfl,if_neg hs,if_neg zO,CG zO]
   ·rw[if_neg e,if_neg zO]
def tM(F:Array Value->Array Value):Go.Obj->Go.Obj
|.cells c e fr=>.cells (F c) e fr
|o=>o
theorem Sa(h:Array Go.Obj)(b:Nat)(f:Go.Obj->Go.Obj)(hf:∀o,f o=o):h.modify b f=h:=by
 apply Array.ext
 ·simp
 ·intro i h1 h2
  rw[Array.getElem_modify]
  split
  ·exact hf _
  ·rfl
theorem MR(h:Array Go.Obj)(b:Nat)(f g k:Go.Obj->Go.Obj)(hk:∀o,g (f o)=k o):(h.modify b f).modify b g=h.modify b k:=by
 apply Array.ext
 ·simp
 ·intro i h1 h2
  simp only[Array.getElem_modify]
  split
  ·exact hk _
  ·rfl
theorem xV(b:Nat):∀(vs:List Value) (o:Nat) (w:World),w.setCells b o vs={ w with heap:=w.heap.modify b (tM fun c=>V1 c o vs)}
|[],o,w=>by
  rw[World.setCells,Sa _ _ _ fun o=>by cases o<;>rfl]
|v::r,o,w=>by
  rw[World.setCells,xV b r]
  unfold World.setCell
  simp only[World.mk.injEq,and_self,and_true]
  exact MR _ _ _ _ _ fun o=>by cases o<;>rfl
theorem Sb{h:Array Go.Obj}{b:Nat}{C:Array Value}{T:TypeId}{fr:Nat×Nat}(hb:h[b]? =some (.cells C T fr))(F F':Array Value->Array Value)(e:F C=F' C):h.modify b (tM F)=h.modify b (tM F'):=by
 apply Array.ext
 ·simp
 ·intro i h1 h2
  simp only[Array.getElem_modify]
  split
  ·rename_i hi
   subst hi
   have:h[b]'(by simpa using h1)=.cells C T fr:=by
    rw[yQ (by simpa using h1)]at hb;exact pM hb
   rw[this];simp only[tM,e]
  ·rfl
theorem XK{b:Nat}{C:Array Value}{T:TypeId}{fr:Nat×Nat}(hb:w.heap[b]? =some (.cells C T fr))(o1 o2 p1 p2:Nat)(x1 x2 y1 y2:List Value)(e:∀j:Nat,(V1 (V1 C o1 x1) o2 x2)[j]? =(V1 (V1 C p1 y1) p2 y2)[j]?):(w.setCells b o1 x1).setCells b o2 x2=(w.setCells b p1 y1).setCells b p2 y2:=by
 rw[xV b x2,xV b x1,xV b y2,xV b y1]
 simp only[World.mk.injEq,and_self,and_true]
 rw[MR _ _ _ _ (tM fun c=>V1 (V1 c o1 x1) o2 x2) fun o=>by cases o<;>rfl,MR _ _ _ _ (tM fun c=>V1 (V1 c p1 y1) p2 y2) fun o=>by cases o<;>rfl]
 exact Sb hb _ _ (IA e)
theorem XL(w:World)(C:Array Value)(T:TypeId)(fr:Nat×Nat)(o:Nat)(xs:List Value):(w.alloc (.cells C T fr)).setCells w.heap.size o xs=w.alloc (.cells (V1 C o xs) T fr):=by
 rw[xV]
 unfold World.alloc
 simp only[World.mk.injEq,and_self,and_true]
 apply Array.ext
 ·simp
 ·intro i h1 h2
  simp only[Array.getElem_modify]
  split
  ·rename_i hi
   subst hi
   simp[tM]
  ·rename_i hi
   simp only[Array.size_modify,Array.size_push]at h1
   rw[Array.getElem_push_lt zO,Array.getElem_push_lt zO]
theorem GL{b:Nat}(h:(w.cell? (ad b i)).isSome=true):∃C T fr,w.heap[b]? =some (.cells C T fr)/\i<C.size:=by
 unfold World.cell? at h
 cases hb:w.heap[b]? with
|none=>simp[hb]at h
|some ob=>
  cases ob<;>simp only[hb]at h<;>try (cases h;done)
  rename_i C T fr
  refine⟨C,T,fr,rfl,?_⟩
  rcases Nat.lt_or_ge i C.size with h'|h'
  ·exact h'
  ·simp[CG h']at h
def T8(g:Nat->V)(i:Nat)(v:V):Nat->V:=fun k=>bif blt k i then g k else bif beq k i then v else g (k-1)
def gP(g:Nat->V)(i:Nat):Nat->V:=fun k=>bif blt k i then g k else g (k+1)
section
variable {P:Program} {X0 X:Cx} {h:Nat->Nat->V} {lv:List Nat} {c:Nat} {w0 w:World} {z n i:Nat} {g:Nat->V} {v:V} {cs es:List Value}
theorem XM(hi:i<=n)(h1:rep X (.ar z n g) [] 2 cs)(h2:rep X v [] 2 es)(hm:v.mem=true)(hl:es.length=z):rep X (.ar z (n+1) (T8 g i v)) [] 2 (cs.take (i*z)++es++cs.drop (i*z)):=by
 obtain⟨e1,e2⟩:=h1
 have lF:i*z<=n*z:=G8 _ hi
 have ht:(cs.take (i*z)).length=i*z:=by rw[F7];omega
 refine⟨by simp only[D0,K4,ht,hl,e1];rw[G9];omega,fun k hk=>?_⟩
 unfold T8
 rw[I0]
 by_cases dA:k<i
 ·rw[dN dA]
  have h5:k*z+z<=i*z:=by have:=G8 z dA;rw[G9]at this;exact this
  rw[pK zO,kR (by rw[K4];omega),List.drop_take,List.take_take,jJ zO]
  exact e2 k zO
 ·rw[iZ zO]
  simp only[cond_false]
  have h5:i*z<=k*z:=G8 _ zO
  rw[tY,dV zO,Y3,ht]
  by_cases hke:k=i
  ·subst hke
   rw[Q9]
   simp only[cond_true,bG,pJ]
   rw[kR zO, <-hl,List.take_length]
   exact⟨h2,hm⟩
  ·rw[show beq k i=false by (cases hb:beq k i;rfl;exact absurd (A6 hb) hke)]
   simp only[cond_false]
   have h6:k*z=(k-1)*z+z:=by rw[<-G9];congr 1;omega
   have h7:i*z<=(k-1)*z:=G8 _ zO
   rw[tY,dV zO,Y3,hl,List.drop_drop,show i*z+(k*z-i*z-z)=(k-1)*z by omega]
   exact e2 (k-1) zO
theorem Sc(hi:i<n)(h1:rep X (.ar z n g) [] 2 cs):rep X (.ar z (n-1) (gP g i)) [] 2 (cs.take (i*z)++cs.drop ((i+1)*z)):=by
 obtain⟨e1,e2⟩:=h1
 have lF:i*z+z<=n*z:=by have:=G8 z hi;rw[G9]at this;exact this
 have jV:(i+1)*z=i*z+z:=G9 i z
 have hnz:(n-1)*z=n*z-z:=by rw[mR,pR]
 have ht:(cs.take (i*z)).length=i*z:=by rw[F7];omega
 refine⟨by simp only[D0,K4,ht,e1];omega,fun k hk=>?_⟩
 unfold gP
 by_cases dA:k<i
 ·rw[dN dA]
  have h5:k*z+z<=i*z:=by have:=G8 z dA;rw[G9]at this;exact this
  rw[pK zO,kR (by rw[K4];omega),List.drop_take,List.take_take,jJ zO]
  exact e2 k zO
 ·rw[iZ zO]
  simp only[cond_false]
  have h5:i*z<=k*z:=G8 _ zO
  rw[tY,dV zO,Y3,ht,List.drop_drop,show(i+1)*z+(k*z-i*z)=(k+1)*z by (have mU:(k+1)*z=k*z+z:=G9 k z;omega)]
  exact e2 (k+1) zO
theorem Wd.unh(H:Wd X0 X h lv c w0 w){h2:Nat->Nat->V}(hh:∀r j,h2 r j=h r j\/h2 r j=.un):Wd X0 X h2 lv c w0 w:={ H with rt:=fun r j b o N hr=>(by
 rcases hh r j with e|e
 ·rw[e];exact H.rt r j b o N hr
 ·rw[e];trivial)}
end
section
variable {P:Program} {ρ:Go.Shelf.Ren} {z q:Nat} {zv:Value} {f:FuncId}
theorem InsL.ty(L:InsL P ρ z q zv):SlTy P (ρ.t 24) (ρ.t 9) z q:=⟨L.t24,by
 have:=L.i9
 cases hi:P.info? (ρ.t 9) with
|none=>rw[hi]at this;cases this
|some i=>
  rw[hi]at this
  simp only[X6,F2,G7]at this
  exact⟨i,zv,rfl,this.1,this.2.1,this.2.2,L.zs⟩⟩
def xX(P:Program)(ρ:Go.Shelf.Ren):Prop:=∀args w,(callFunc (ρ.f 29) args).run P w=((Extern.SlicesOverlaps.overlaps #[ρ.t 24,ρ.t 24] #[ρ.t 4] args).run P w).andThen fun v w'=>.ok (.value v) w'
theorem Sd(L:InsL P ρ z q zv)(hO:xX P ρ){vb vo b lb vc cb:Nat}(h1:(w.cell? (ad vb vo)).isSome=true)(h2:(w.cell? (ad b 0)).isSome=true)(hf:∀j,w.frozen? (ad b j)=false)(Y5:vb=b->¬ (vo<o+lb*z/\o<vo+z)):
  (callFunc (ρ.f 29) #[.slice (some ⟨vb,vo,none⟩) 1 vc,.slice (some ⟨b,o,none⟩) lb cb]).run P w=.ok (.value (.bool false)) w:=by
 obtain⟨C,T,fr,c1,c2⟩:=GL h1
 obtain⟨D,U,gr,d1,d2⟩:=GL h2
 have s1:w.shape? vb=some (T,C.size):=by simp[World.shape?, c1]
 have s2:w.shape? b=some (U,D.size):=by simp[World.shape?, d1]
 have hfo:w.frozen? ⟨b,o,none⟩=false:=hf o
 have hfe:w.frozen? ⟨b,D.size,none⟩=false:=hf _
 have mU:¬ C.size=0:=by omega
 have hk2:¬ D.size=0:=by omega
 rw[hO]
 have key:(Extern.SlicesOverlaps.overlaps #[ρ.t 24,ρ.t 24] #[ρ.t 4] #[.slice (some ⟨vb,vo,none⟩) 1 vc,.slice (some ⟨b,o,none⟩) lb cb]).run P w=.ok (.bool false) w:=by
  change Sem.run P (α:=Value) (do
   let some t:=(#[ρ.t 24,ρ.t 24]:Array TypeId)[0]?|stuck "slices.overlaps: no parameter types"
   let .slice elem <-underlying t|stuck "slices.overlaps: slice type expected"
   let size <-sizeOf elem
   match (some ⟨vb,vo,none⟩:Option Addr),(some ⟨b,o,none⟩:Option Addr) with
  |some a,some b=>
    if 1=0\/lb=0\/size=0 then pure (Value.bool false)
    else if a.block != b.block&&(<-frozen a)&&(<-frozen b) then unsupported .addressObserved
    else do
     if a.block != b.block then do
      noView a;noView b
      if <-mayBeOne a b then return Value.bool ((<-choose (.extern "sameAddr.stringBytes" 2))==1)
     pure (Value.bool (a.block==b.block&&a.off<b.off+lb*size&&b.off<a.off+1*size))
  |_,_=>pure (Value.bool false)) w=_
  have qM:=L.zp
  by_cases h0:lb=0
  ·simp[run_underlying L.t24,L.z9,h0]
  ·have pZ:¬ ((1:Nat)=0\/lb=0\/z=0):=by omega
   by_cases P5:vb=b
   ·subst P5
    have:=Y5 rfl
    simp[run_underlying L.t24,L.z9,pZ,frozen,Sem.run]
    intros
    omega
   ·have e1:(vb != b)=true:=by simpa using P5
    have e2:(vb==b)=false:=by simpa using P5
    cases hC:C.size with
   |zero=>omega
   |succ k=>
     cases hD:D.size with
    |zero=>omega
    |succ m=>
      rw[hC]at s1;rw[hD]at s2 hfe
      cases ha:w.frozen? ⟨vb,vo,none⟩<;>cases hae:w.frozen? ⟨vb,k+1,none⟩<;>
       simp[run_underlying L.t24,L.z9,pZ,e1,e2,frozen,noView,viewAt,mayBeOne,stringish,shape,Sem.run,s1,s2,hfo,hfe,ha,hae]
 rw[key];rfl
end
section
variable {P:Program} {ρ:Go.Shelf.Ren} {z q:Nat} {zv:Value} {f:FuncId}
theorem MT{X':Cx}{G:Nat->V}(HW:Wd X0 X' h' lv' 17 w w')(hl:lv'=[16])(hh:h' 16 0=.ar z N G)(hr:rep X' (.os 16 z) lv' 17 [x]):
  ∃X' ho A0 out,(out=.os 16 z/\ho=[(16,.ar z N G)]/\A0=[16])/\repv X' A0 64 out x/\Wd X0 X' (S4 ho) A0 64 w w':=by
 subst hl
 refine⟨X',_,_,_,⟨rfl,rfl,rfl⟩,rep.mono (Cx.le.rfl' X' [16] 17) zO hr,(HW.up zO).unh fun r j=>?_⟩
 cases j with
|succ j=>exact .inr rfl
|zero=>
  show lk _ r=_\/lk _ r=_
  by_cases e:r=16
  ·subst e;exact .inl hh.symm
  ·right
   simp only[lk]
   rw[show beq r 16=false by (cases hb:beq r 16;rfl;exact absurd (A6 hb) e)];rfl
theorem Se{A B C:List Value}(c:Array Value)(o:Nat)(hc:o+A.length+B.length<=c.size)(j:Nat)(hB:True:=trivial):(V1 (V1 c (o+A.length) B) o A)[j]? =(V1 c o (A++B))[j]? :=by
 simp only[BG,tL,D0]
 by_cases h1:o<=j/\j<o+A.length/\j<c.size
 ·rw[if_pos h1,if_pos zO,N7 zO]
 ·rw[if_neg h1]
  by_cases h2:o+A.length<=j/\j<o+A.length+B.length/\j<c.size
  ·rw[if_pos h2,if_pos zO,L7 zO];congr 1;omega
  ·rw[if_neg h2,if_neg zO]
theorem GM(L:InsL P ρ z q zv)(hF:tJ P f (Body2.n22 ρ))(hO:xX P ρ)(n i:Nat)(g:Nat->V)(v:V)(hi:i<=n)(hm:v.mem=true)(hb:(n+1)*q<=140737488355328)(hq:0<q):
  SatHM P false f [.os 2 z,.i .i64 (i:Int),.sl 1 z 1 fun _=>v] [2] [(2,.ar z n g)] (fun out ho A0=>out=.os 16 z/\ho=[(16,.ar z (n+1) (T8 g i v))]/\A0=[16]):=by
 intro X w vs D8 aN H _
 match vs,D8 with
|[x0,x1,x2],_=>
 have r0:repv X [2] 16 (.os 2 z) x0:=aN 0 _ _ rfl rfl
 have r1:repv X [2] 16 (.i .i64 (i:Int)) x1:=aN 1 _ _ rfl rfl
 have r2:repv X [2] 16 (.sl 1 z 1 fun _=>v) x2:=aN 2 _ _ rfl rfl
 have qM:=L.zp
 have x5:aV (S4 [(2,V.ar z n g)]) 2 z=some n:=by
  unfold aV H8
  rw[show S4 [(2,V.ar z n g)] 2 0=.ar z n g from rfl]
  simp[V.row,V.mem]
 obtain⟨_,_,_,b,o,a,cap,e1,e2,e3,e4,eo,esp,e5⟩:=sH H r0 x5
 subst eo
 have e1x:x1=.int .i64 (i:Int):=(M0 r1).1
 have hR:RtR X [2] 16 w 2 0 b 0 (n*z) (.ar z n g):=H.rt 2 0 b 0 _ e1
 obtain⟨cs,c1,c2,c3,c4⟩:=hR
 obtain⟨_,av,vc,y1,y2,y3,_,y5,y6⟩:=r2
 have y1:x2=.slice av 1 vc:=by simpa using y1
 rcases y6 with⟨_,h0⟩|⟨vb,vo,rfl,hw,_⟩
 ·omega
 obtain⟨es,v1,v2,v3,v4⟩:=hw 0 zO
 rw[Nat.zero_mul,s9]at v4
 have es1:=o5 v3 v1
 have qQ:=o5 (v:=.ar z n g) (lv:=[]) (c:=2) c2 c1
 have hvc:∀j u,es[j]? =some u->w.cell? (ad vb (vo+j))=some u:=fun j u hj=>H.cell (v4 j u hj) (es1 u (E3 hj))
 have J8:∀u,(∀x,u.cell? x=w.cell? x)->Src P z (ρ.t 24) x2 1 es u:=fun u hu=>by
  rw[y1]
  exact Src.ofSlice u L.t24 ⟨vb,vo,none⟩ 1 vc es (by rw[v2,pR]) (fun j x hj=>by rw[Addr.add_lit,hu];exact hvc j x hj) es1
 have N2:n+1<=maxLen:=by
  have:n+1<=(n+1)*q:=uE _ hq
  have:maxLen=9223372036854775807:=rfl
  omega
 have vJ:rep X (.ar z (n+1) (T8 g i v)) [] 2 (cs.take (i*z)++es++cs.drop (i*z)):=XM hi c1 v1 hm v2
 have wR:∀(u:World),(∀x,u.cell? x=w.cell? x)->Wd (X.ent [2]) X (S4 [(2,V.ar z n g)]) [2] 16 w u->Q6 X u 2 0 b 0 cs->∀(ty:TypeId) (V2:V),V2.mem=true->rep X V2 [] 2 (cs++es)->_:=fun u hu HU hL ty V2 fG aK=>
  ED (ty:=ty) (u:=ρ.t 24) (tx:=ρ.t 24) (y:=x2) (nm:=16) (r:=2) (n:=n) (m:=1) (cap:=cap) (a:=a) (v:=V2) HU (B5 16) zO qM c3 e3 e4 (e5.imp (fun⟨h0,h1⟩=>⟨h0,h1 (by simp)⟩) fun⟨h0,h1,h2⟩=>⟨b,0,rfl,h0,e1,hL,.inr ⟨h1,h2 (by simp)⟩⟩) L.ty (J8 u hu) esp hb N2 qQ fG aK
 by_cases W0:i=n
 ·subst W0
  have hd:cs.take (i*z)++es++cs.drop (i*z)=cs++es:=by rw[V7 zO,dV zO,Z4]
  rw[hd]at vJ
  obtain⟨a',M4,w',X',q1,q2,q3,q4,q5⟩:=wR w (fun _=>rfl) H c4 0 _ rfl vJ
  rw[y1]at q1
  have key:=Rv L hF a i cap vb vo vc w w' _ (fun e=>by
   rcases e5 with⟨h,_⟩|⟨_,h,_⟩
   ·exact h
   ·rw[h]at e;cases e) e3 (fun ty=>q1)
  rw[e2,e1x,y1]
  exact w9 key fun e w2 ⟨h1,h2⟩=>⟨_,h1,by subst h2;exact MT q3 rfl (j0 _ _ _ _) q4⟩
 ·have hlt:i<n:=by omega
  have hn0:0<n:=by omega
  rcases e5 with⟨h0,_⟩|⟨_,rfl,P7⟩
  ·omega
  have P7:=P7 (by simp)
  have lF:i*z+z<=n*z:=by have:=G8 z hlt;rw[G9]at this;exact this
  have hn1:(n+1)*z=n*z+z:=G9 n z
  have jV:(i+1)*z=i*z+z:=G9 i z
  have P2:∀j x,cs[j]? =some x->w.cell? (ad b (0+j))=some x:=fun j x hj=>(c4 j x hj).2.1
  have qC:=c4 0 _ (B7 zO)
  have uR:∀j,w.frozen? (ad b j)=false:=qC.2.2.2 rfl
  have hcell0:(w.cell? (ad b 0)).isSome=true:=by have:=qC.2.1;rw[J3]at this;rw[this];rfl
  have hvcell:(w.cell? (ad vb vo)).isSome=true:=by
   have:=hvc 0 _ (B7 zO);rw[s9]at this;rw[this];rfl
  by_cases g9:n+1<=cap
  ·have hcz:(n+1)*z<=cap*z:=G8 _ g9
   have hG:∀k,k<(n+1)*z->(∃r j k',X.G b k=.rt r j k')\/∃t,X.G b k=.tp t:=fun k hk=>by
    by_cases hk2:k<n*z
    ·have:=(c4 k _ (B7 zO)).1
     rw[J3]at this;exact .inl ⟨_,_,_,this⟩
    ·have:=P7 k zO zO
     rw[J3]at this;exact .inr ⟨_,this⟩
   have Y5:vb=b->∀j k,j<z->k<(n+1)*z->vo+j≠0+k:=fun e j k hj hk he=>by
    subst e
    have W4:=v4 j _ (B7 zO)
    rw[he,J3]at W4
    rcases hG k hk with⟨r,j',k',h⟩|⟨t,h⟩<;>rw[h]at W4<;>cases W4
   have fP:∀j,j<(n+1)*z->(w.cell? ⟨b,0+j,none⟩).isSome=true:=fun j hj=>by
    by_cases hj2:j<n*z
    ·rw[P2 j _ (B7 zO)];rfl
    ·exact(H.tp _ _ _ (P7 j zO zO)).1
   have hov:∀cb,(callFunc (ρ.f 29) #[.slice (some ⟨vb,vo,none⟩) 1 vc,.slice (some ⟨b,0+(i+1)*z,none⟩) (n-i) cb]).run P w=.ok (.value (.bool false)) w:=fun cb=>Sd L hO hvcell hcell0 uR fun e h=>by
    have hd:(n-i)*z=n*z-i*z:=mR n i z
    have h3:vo<(n+1)*z:=by omega
    exact Y5 e 0 vo zO h3 zO
   have key:=Ru L hF b 0 n cap i vb vo vc cs es w hlt g9 (by have:maxLen=9223372036854775807:=rfl;omega) c3 v2 P2 fP (fun j _=>uR _) hvc qQ es1 Y5 hov
   obtain⟨a',M4,w1,X1,q1,q2,q3,q4,q5⟩:=wR w.drew (fun _=>rfl) H.drew c4 0 (.ar z (n+1) (T8 g n v)) rfl (by
    have:=XM (B5 n) c1 v1 hm v2
    rwa [V7 zO,dV zO,Z4]at this)
   obtain⟨S7,zv',cW,hzv,K6,fC,dX⟩:=L.ty.row
   have hr:=run_append_room_src (P:=P) w.drew (ρ.t 24) (ρ.t 24) 0 (ρ.t 9) S7 L.t24 cW b 0 n cap x2 1 es (by rw[K6];exact J8 w.drew fun _=>rfl) g9 (fun j hj=>by rw[K6,J3];have:=fP (n*z+j) zO;rw[J3]at this;exact this) (fun j hj=>uR _)
   rw[K6]at hr
   rw[hr]at q1
   simp only[Result.ok.injEq,Value.slice.injEq]at q1
   obtain⟨⟨rfl,_,rfl⟩,rfl⟩:=q1
   obtain⟨_,_,b',n',p1,p2,_⟩:=q4
   obtain⟨a2,cap2,p3,p4,p5,p6,p7,p8⟩:=p2
   simp only[uC,Value.slice.injEq,and_true]at p3
   obtain⟨rfl,hn',rfl⟩:=p3
   subst hn'
   rcases p8 with⟨h0,_⟩|⟨b2,o2,p9,p10,p11⟩
   ·rcases h0 with h0|h0<;>cases h0
   simp only[F2,Addr.mk.injEq,and_true]at p9
   obtain⟨rfl,rfl⟩:=p9
   obtain⟨rfl,_⟩:=p10 zO
   have lK:=q3.rt 16 0 b 0 _ p1
   rw[j0]at lK
   obtain⟨ds,d1,d2,d3,d4⟩:=lK
   have hws:∀j x,(cs++es)[j]? =some x->ds[j]? =some x:=fun j x hj=>by
    have hlt2:=(N0.1 hj).1
    rw[D0]at hlt2
    have h1:=(d4 j _ (B7 zO)).2.1
    rw[B7 zO]
    rw[<-h1]
    show(w.drew.setCells b (0+n*z) es).cell? (ad b (0+j))=some x
    by_cases hjc:j<cs.length
    ·rw[N7 hjc]at hj
     rw[mQ b es _ _ _ (fun _ _=>.inl (by show 0+j<0+n*z;omega))]
     exact P2 j x hj
    ·rw[L7 zO]at hj
     have:=yN b es (0+n*z) w.drew (fun k hk=>by have:=fP (n*z+k) zO;rw[<-O8]at this;exact this) (j-cs.length) zO
     rw[show 0+n*z+(j-cs.length)=0+j by omega]at this
     rw[this, <-hj,B7 zO]
   have hds:ds=cs++es:=by
    apply V5
    intro j
    by_cases hj:j<(cs++es).length
    ·rw[hws j _ (B7 hj),B7 hj]
    ·rw[V4 (by rw[D0]at hj;omega),V4 zO]
   subst hds
   have X9:(cs.drop (i*z)).length=n*z-i*z:=by rw[K4,c3]
   have hins:A4 (cs++es) (i*z) (es++cs.drop (i*z))=cs.take (i*z)++es++cs.drop (i*z):=by
    have B3:(cs++es).length<=i*z+(es++cs.drop (i*z)).length:=by simp only[D0,X9];omega
    unfold A4
    rw[kR zO,dV B3,Z4,I0]
   have HS:=q3.store (off:=i*z) (xs:=es++cs.drop (i*z)) p1 d4 d3 (by simp only[D0,X9];omega) (v:=.ar z (n+1) (T8 g i v)) rfl (by
    rw[hins]
    exact((vJ.mono q2.nil (B5 2)).out (fun t ht=>(q3.lvc t ht).1) zO:rep X1 (.ar z (n+1) (T8 g i v)) _ 17 _))
   rw[e2,e1x,y1]
   refine w9 key fun e w2 ⟨h1,h2⟩=>⟨_,h1,?_⟩
   obtain⟨C,T,fr,k1,k2⟩:=GL (fP ((n+1)*z-1) zO)
   have hwe:w2=((w.drew.setCells b (0+n*z) es).setCells b (0+i*z) (es++cs.drop (i*z))):=by
    rw[h2]
    refine XK (w:=w.drew) k1 _ _ _ _ _ _ _ _ fun j=>?_
    have hp:=Se (A:=es) (B:=cs.drop (i*z)) (C:=[]) C (0+i*z) (by rw[X9];omega) j
    rw[show 0+i*z+es.length=0+(i+1)*z by omega]at hp
    rw[hp]
    simp only[BG,tL,D0,X9]
    by_cases h3:0+i*z<=j/\j<0+i*z+(es.length+(n*z-i*z))/\j<C.size
    ·rw[if_pos h3,if_pos h3]
    ·rw[if_neg h3,if_neg h3,if_neg zO]
   rw[hwe]
   refine MT HS rfl (j0 _ _ _ _) ⟨zO,qM,b,n+1,p1,⟨_,cap,rfl,p4,p5,p6,p7,.inr ⟨b,0,rfl,p10,p11⟩⟩,fun h _=>by omega⟩
  ·have key:=Rw L hF b 0 n cap i vb vo vc cs es w hlt e3 zO hb hq c3 v2 P2 hvc qQ es1
   rw[e2,e1x,y1]
   refine w9 key fun e w2 ⟨ROW,G,g1,g2,g3,g4,g5,g6⟩=>⟨_,g5,?_⟩
   have hGz:(n+1)*z<=G*z:=G8 _ g2
   have X9:(cs.drop (i*z)).length=n*z-i*z:=by rw[K4,c3]
   have jT:w2=(w.drew.drew).alloc (.cells (V1 (V1 ROW (i*z) es) ((i+1)*z) (cs.drop (i*z))) (ρ.t 9)):=by
    rw[g6,show(w.alloc (.cells ROW (ρ.t 9))).drew=w.drew.alloc (.cells ROW (ρ.t 9)) from rfl]
    have h1:w.heap.size=w.drew.heap.size:=rfl
    rw[h1,XL w.drew ROW (ρ.t 9) (0,0),show((w.drew.alloc (.cells (V1 ROW (i*z) es) (ρ.t 9))).drew)=w.drew.drew.alloc (.cells (V1 ROW (i*z) es) (ρ.t 9)) from rfl]
    exact XL w.drew.drew _ (ρ.t 9) (0,0) _ _
   generalize hC:V1 (V1 ROW (i*z) es) ((i+1)*z) (cs.drop (i*z))=C at jT
   have qA:C.size=G*z:=by rw[<-hC,tL,tL,g1]
   have hCt:C.toList.take ((n+1)*z)=cs.take (i*z)++es++cs.drop (i*z):=by
    apply V5
    intro j
    have ht:(cs.take (i*z)).length=i*z:=by rw[F7];omega
    by_cases hj:j<(n+1)*z
    ·rw[dU hj,uD, <-hC]
     simp only[BG,tL,X9,g1]
     rw[I0]
     by_cases h1:j<i*z
     ·rw[if_neg zO,if_neg zO,N7 zO, <-g4,dU h1,uD]
     ·rw[L7 zO,ht]
      by_cases h2:j<(i+1)*z
      ·rw[if_neg zO,if_pos zO,N7 zO]
      ·rw[if_pos zO,L7 zO,v2];congr 1;omega
    ·rw[V4 (by rw[F7];omega),V4 (by simp only[D0,ht,X9];omega)]
   obtain⟨k1,k2,k3⟩:=H.drew.drew.newOwn (nm:=16) (B5 16) C (ρ.t 9) hGz (by rw[qA];exact B5 _) (v:=.ar z (n+1) (T8 g i v)) rfl (by rw[hCt];exact vJ)
   have k4:=(k2.relv (lv':=[16]) (B5 17) (fun t ht _=>by simp at ht;subst ht;simp) (fun t ht=>by simp at ht;omega)).2
   rw[jT]
   have hws:w.drew.drew.heap.size=w.heap.size:=rfl
   refine MT (x:=.slice (some ⟨w.heap.size,0,none⟩) (n+1) G) (k4.unh (h2:=S4 [(16,.ar z (n+1) (T8 g i v))]) fun r j=>?_) rfl rfl ⟨zO,qM,w.heap.size,n+1,by simp only[Cx.ownS,and_self,if_true,hws],⟨_,G,rfl,g2,g3,zO,fun h=>by omega,.inr ⟨w.heap.size,0,rfl,fun _=>⟨rfl,rfl⟩,fun _ k hk g7=>?_⟩⟩,fun h _=>by omega⟩
   ·cases j with
   |succ j=>exact .inr rfl
   |zero=>
     by_cases e:r=16
     ·subst e;exact .inl (j0 _ _ _ _).symm
     ·right
      show lk _ r=_
      simp only[lk]
      rw[show beq r 16=false by (cases hb:beq r 16;rfl;exact absurd (A6 hb) e)];rfl
   ·simp only[Cx.ownS,hws,if_true,J3]
    rw[if_neg zO,if_pos g7]
end
def Cx.cutD(X:Cx)(nm b N n:Nat):Cx:=⟨fun b' i=>if b'=b/\i<n then (if i<N then .rt nm 0 i else .tp nm) else X.G b' i,fun r j=>if r=nm/\j=0 then some (b,0,N) else X.ρ r j,X.Φ,X.κ,X.ν,X.wr⟩
section
variable {P:Program} {ρ:Go.Shelf.Ren} {z q:Nat} {zv:Value} {f:FuncId}
theorem XN(L:InsL P ρ z q zv)(hF:tJ P f (Body2.n24 ρ))(lvi:List Nat)(n i:Nat)(g:Nat->V)(hi:i<n):
  SatHM P false f [.os 2 z,.i .i64 (i:Int),.i .i64 ((i:Int)+1)] lvi [(2,.ar z n g)] (fun out ho A0=>out=.os 16 z/\ho=[(16,.ar z (n-1) (gP g i))]/\A0=[]):=by
 intro X w vs D8 aN H _
 match vs,D8 with
|[x0,x1,x2],_=>
 have r0:repv X lvi 16 (.os 2 z) x0:=aN 0 _ _ rfl rfl
 have r1:repv X lvi 16 (.i .i64 (i:Int)) x1:=aN 1 _ _ rfl rfl
 have r2:repv X lvi 16 (.i .i64 ((i:Int)+1)) x2:=aN 2 _ _ rfl rfl
 have qM:=L.zp
 have x5:aV (S4 [(2,V.ar z n g)]) 2 z=some n:=by
  unfold aV H8
  rw[show S4 [(2,V.ar z n g)] 2 0=.ar z n g from rfl]
  simp[V.row,V.mem]
 obtain⟨_,_,_,b,o,a,cap,e1,e2,e3,e4,eo,esp,e5⟩:=sH H r0 x5
 subst eo
 have e1x:x1=.int .i64 (i:Int):=(M0 r1).1
 have e2x:x2=.int .i64 ((i:Int)+1):=(M0 r2).1
 have hR:RtR X lvi 16 w 2 0 b 0 (n*z) (.ar z n g):=H.rt 2 0 b 0 _ e1
 obtain⟨cs,c1,c2,c3,c4⟩:=hR
 rcases e5 with⟨h0,_⟩|⟨hn0,rfl,_⟩
 ·omega
 have qQ:=o5 (v:=.ar z n g) (lv:=[]) (c:=2) c2 c1
 have P2:∀j x,cs[j]? =some x->w.cell? (ad b (0+j))=some x:=fun j x hj=>(c4 j x hj).2.1
 have lF:i*z+z<=n*z:=by have:=G8 z hi;rw[G9]at this;exact this
 have jV:(i+1)*z=i*z+z:=G9 i z
 have hnz:(n-1)*z=n*z-z:=by rw[mR,pR]
 have uR:∀j,w.frozen? (ad b j)=false:=(c4 0 _ (B7 zO)).2.2.2 rfl
 have key:=Rz L hF b 0 n cap i cs w hi e3 (by have:maxLen=9223372036854775807:=rfl;omega) c3 P2 (fun j _=>uR _) qQ
 rw[e2,e1x,e2x]
 refine w9 key fun e w2 ⟨h1,h2⟩=>⟨_,h1,?_⟩
 have X9:(cs.drop ((i+1)*z)).length=n*z-(i+1)*z:=by rw[K4,c3]
 have qK:zv.cells.toList.length=z:=by rw[t1,L.zs]
 obtain⟨C,T,fr,k1,k2⟩:=GL (show(w.cell? (ad b (n*z-1))).isSome=true by
  have:=P2 (n*z-1) _ (B7 zO)
  rw[J3]at this;rw[this];rfl)
 have jT:w2=w.drew.setCells b (0+i*z) (cs.drop ((i+1)*z)++zv.cells.toList):=by
  have:w.drew.setCells b (0+i*z) (cs.drop ((i+1)*z)++zv.cells.toList)=(w.drew.setCells b (0+i*z) (cs.drop ((i+1)*z)++zv.cells.toList)).setCells b 0 []:=rfl
  rw[h2,this]
  refine XK (w:=w.drew) k1 _ _ _ _ _ _ _ _ fun j=>?_
  simp only[BG,tL,D0,S0,X9,qK]
  by_cases h3:0+(n-1)*z<=j/\j<0+(n-1)*z+z/\j<C.size
  ·rw[if_pos h3,if_neg zO,if_pos zO,L7 zO];congr 1;omega
  ·rw[if_neg h3,if_neg (show ¬ (0<=j/\j<0+0/\j<C.size) by omega)]
   by_cases h4:0+i*z<=j/\j<0+i*z+(n*z-(i+1)*z)/\j<C.size
   ·rw[if_pos h4,if_pos zO,N7 zO]
   ·rw[if_neg h4,if_neg zO]
 have hinl:(A4 cs (i*z) (cs.drop ((i+1)*z)++zv.cells.toList)).length=n*z:=by rw[n9 (by simp only[D0,X9,qK];omega),c3]
 have HS:=H.drew.store (off:=i*z) (xs:=cs.drop ((i+1)*z)++zv.cells.toList) e1 c4 c3 (by simp only[D0,X9,qK];omega) (v:=.uk (n*z)) rfl ⟨hinl,fun x hx=>by
  unfold A4 at hx
  rcases R9.1 hx with hx|hx
  ·rcases R9.1 hx with hx|hx
   ·exact qQ x (List.mem_of_mem_take hx)
   ·rcases R9.1 hx with hx|hx
    ·exact qQ x (IB hx)
    ·exact L.zo x hx
  ·exact qQ x (IB hx)⟩
 rw[<-jT]at HS
 have hR2:=HS.rt 2 0 b 0 _ e1
 rw[j0]at hR2
 obtain⟨ds,d1,d2,d3,d4⟩:=hR2
 have cV:∀j x,(A4 cs (i*z) (cs.drop ((i+1)*z)++zv.cells.toList))[j]? =some x->w2.cell? (ad b (0+j))=some x:=fun j x hj=>by
  have hjl:=(N0.1 hj).1
  have hins:∀m,m<(cs.drop ((i+1)*z)++zv.cells.toList).length->(w.drew.cell? ⟨b,0+i*z+m,none⟩).isSome=true:=fun m hm=>by
   simp only[D0,X9,qK]at hm
   have:=P2 (i*z+m) _ (B7 zO)
   rw[O8];show(w.cell? _).isSome=true;rw[this];rfl
  rw[jT]
  unfold A4 at hj
  have ht:(cs.take (i*z)).length=i*z:=by rw[F7];omega
  have hdn:cs.drop (i*z+(cs.drop ((i+1)*z)++zv.cells.toList).length)=[]:=dV (by simp only[D0,X9,qK];omega)
  rw[hdn,Z4]at hj
  by_cases h3:j<i*z
  ·rw[N7 zO,dU h3]at hj
   rw[mQ b _ _ _ _ (fun _ _=>.inl (by show 0+j<0+i*z;omega))]
   exact P2 j x hj
  ·rw[L7 zO,ht]at hj
   have uX:=(N0.1 hj).1
   have:=yN b (cs.drop ((i+1)*z)++zv.cells.toList) (0+i*z) w.drew hins (j-i*z) uX
   rw[show 0+i*z+(j-i*z)=0+j by omega]at this
   rw[this, <-hj,B7 uX]
 have vJ:=Sc hi c1
 have hlr:(cs.take (i*z)++cs.drop ((i+1)*z)).length=(n-1)*z:=vJ.1
 have uO:∀j x,(cs.take (i*z)++cs.drop ((i+1)*z))[j]? =some x->w2.cell? (ad b (0+j))=some x:=fun j x hj=>cV j x (by
  have hjl:=(N0.1 hj).1
  unfold A4
  have hdn:cs.drop (i*z+(cs.drop ((i+1)*z)++zv.cells.toList).length)=[]:=dV (by simp only[D0,X9,qK];omega)
  rw[hdn,Z4, <-I0,N7 hjl];exact hj)
 have hG2:∀k,k<n*z->X.G b k=.rt 2 0 k/\(w2.cell? (ad b k)).isSome=true/\FrN w2 b k:=fun k hk=>by
  obtain⟨g1,g2,g3⟩:=d4 k _ (B7 zO)
  rw[J3]at g1 g2 g3
  exact⟨g1,by rw[g2];rfl,g3⟩
 have hR:∀r' j p,(X.cutD 16 b ((n-1)*z) (n*z)).ρ r' j=some p->X.ρ r' j=some p\/(r'=16/\j=0):=fun r' j p h=>by
  simp only[Cx.cutD]at h
  split at h
  ·right;assumption
  ·exact .inl h
 have iD:∀r' j p,X.ρ r' j=some p->(X.cutD 16 b ((n-1)*z) (n*z)).ρ r' j=some p:=fun r' j p h=>by
  simp only[Cx.cutD]
  rw[if_neg (fun e=>by have:=HS.ρc _ _ _ h;omega)];exact h
 obtain⟨B3,HW⟩:=HS.regh (X':=X.cutD 16 b ((n-1)*z) (n*z)) (h':=E0 (E0 (E0 (S4 [(2,V.ar z n g)]) 2 0 (.uk (n*z))) 2 0 .un) 16 0 (.ar z (n-1) (gP g i))) (lv':=[]) (c':=17) (r:=2) (nm:=16) (B5 16) zO (fun b' k=>by
  simp only[Cx.cutD]
  by_cases hc:b'=b/\k<n*z
  ·obtain⟨rfl,hk⟩:=hc
   obtain⟨g1,g2,g3⟩:=hG2 k hk
   refine .inr ⟨.inr (.inl ⟨k,g1⟩),?_⟩
   rw[if_pos ⟨rfl,hk⟩]
   by_cases h3:k<(n-1)*z
   ·rw[if_pos h3];exact .inr ⟨k,rfl⟩
   ·rw[if_neg h3];exact .inl ⟨rfl,g2,g3.1⟩
  ·rw[if_neg hc];exact .inl rfl) hR iD zW (zX zO) (fun t ht=>by simp at ht) (fun b' o' N B3 hp=>by
   rw[j0]
   simp only[Cx.cutD,and_self,if_true,F2,G7]at hp
   obtain⟨rfl,rfl,rfl⟩:=hp
   refine dI rfl ((vJ.mono B3.nil (B5 2)).out (fun t ht=>by simp at ht) zO) hlr fun k x hk=>?_
   have hkl:=(N0.1 hk).1
   rw[hlr]at hkl
   obtain⟨g1,g2,g3⟩:=hG2 k zO
   refine⟨by simp only[Cx.cutD,J3];rw[if_pos ⟨zT,zO⟩,if_pos hkl],uO k x hk,by rw[J3];exact g3⟩)
 refine⟨_,_,_,_,⟨rfl,rfl,rfl⟩,rep.mono (v:=.os 16 z) (Cx.le.rfl' _ [] 17) (by omega:17<=64) ⟨zO,qM,b,n-1,by simp only[Cx.cutD,and_self,if_true],⟨_,cap,rfl,zO,e4,zO,fun h=>by omega,.inr ⟨b,0,rfl,fun _=>⟨rfl,rfl⟩,fun h=>by simp at h⟩⟩,fun _ h=>by simp at h⟩,(HW.up zO).unh fun r j=>?_⟩
 cases j with
|succ j=>exact .inr rfl
|zero=>
  show lk _ r=_\/lk _ r=_
  by_cases e:r=16
  ·subst e;exact .inl (j0 _ _ _ _).symm
  ·right
   simp only[lk]
   rw[show beq r 16=false by (cases hb:beq r 16;rfl;exact absurd (A6 hb) e)];rfl
end
def ρi(tS tE fo fr:Nat):Go.Shelf.Ren:=⟨fun f=>bif beq f 29 then fo else bif beq f 30 then fr else f,fun t=>bif beq t 24 then tS else bif beq t 9 then tE else t,fun g=>g⟩
noncomputable def pG (P:Program) (t:Nat):Value:=((P.info? t).bind (·.zero)).getD undef
theorem XO:InsL Tryz.prog (ρi 73 110 159 160) 33 56 (pG Tryz.prog 110) where
 mixed:=by kernel_rfl
 t0:=by kernel_rfl
 t3:=by kernel_rfl
 t4:=by kernel_rfl
 t24:=by kernel_rfl
 i9:=by kernel_rfl
 zs:=by kernel_rfl
 a0:=fun w=>by kernel_rfl
 z0:=fun w=>by kernel_rfl
 v0:=fun w=>by kernel_rfl
 a3:=fun w=>by kernel_rfl
 z3:=fun w=>by kernel_rfl
 v3:=fun w=>by kernel_rfl
 a4:=fun w=>by kernel_rfl
 z4:=fun w=>by kernel_rfl
 v4:=fun w=>by kernel_rfl
 z9:=fun w=>by kernel_rfl
 a24:=fun w=>by kernel_rfl
 z24:=fun w=>by kernel_rfl
 v24:=fun w=>by kernel_rfl
 zp:=by decide
 zo:=fun v hv=>Q7.1 (show((pG Tryz.prog 110).cells.toList.all fun v=>v.oneCell')=true by kernel_rfl) v hv
theorem Sf:xX Tryz.prog (ρi 73 110 159 160):=fun args w=>run_callFunc_extern Tryz.func159 zK zK zK (e:=Extern.SlicesOverlaps.overlaps #[73,73] #[4]) zK args w
theorem MU(n i:Nat)(g:Nat->V)(v:V)(hi:i<=n)(hn:n<=1000000000)(hm:v.mem=true):SatHM Tryz.prog false 116 [.os 2 33,.i .i64 (i:Int),.sl 1 33 1 fun _=>v] [2] [(2,.ar 33 n g)] (fun out ho A0=>out=.os 16 33/\ho=[(16,.ar 33 (n+1) (T8 g i v))]/\A0=[16]):=GM XO ⟨Tryz.f116,Tryz.func116,by kernel_rfl,by kernel_rfl,by kernel_rfl⟩ Sf n i g v hi hm zO (by decide)
theorem Sg(lvi:List Nat)(n i:Nat)(g:Nat->V)(hi:i<n):SatHM Tryz.prog false 136 [.os 2 33,.i .i64 (i:Int),.i .i64 ((i:Int)+1)] lvi [(2,.ar 33 n g)] (fun out ho A0=>out=.os 16 33/\ho=[(16,.ar 33 (n-1) (gP g i))]/\A0=[]):=XN XO ⟨Tryz.f136,Tryz.func136,by kernel_rfl,by kernel_rfl,by kernel_rfl⟩ lvi n i g hi
theorem XP:InsL Tryz.prog (ρi 75 117 176 177) 33 40 (pG Tryz.prog 117) where
 mixed:=by kernel_rfl
 t0:=by kernel_rfl
 t3:=by kernel_rfl
 t4:=by kernel_rfl
 t24:=by kernel_rfl
 i9:=by kernel_rfl
 zs:=by kernel_rfl
 a0:=fun w=>by kernel_rfl
 z0:=fun w=>by kernel_rfl
 v0:=fun w=>by kernel_rfl
 a3:=fun w=>by kernel_rfl
 z3:=fun w=>by kernel_rfl
 v3:=fun w=>by kernel_rfl
 a4:=fun w=>by kernel_rfl
 z4:=fun w=>by kernel_rfl
 v4:=fun w=>by kernel_rfl
 z9:=fun w=>by kernel_rfl
 a24:=fun w=>by kernel_rfl
 z24:=fun w=>by kernel_rfl
 v24:=fun w=>by kernel_rfl
 zp:=by decide
 zo:=fun v hv=>Q7.1 (show((pG Tryz.prog 117).cells.toList.all fun v=>v.oneCell')=true by kernel_rfl) v hv
theorem Sh:xX Tryz.prog (ρi 75 117 176 177):=fun args w=>run_callFunc_extern Tryz.func176 zK zK zK (e:=Extern.SlicesOverlaps.overlaps #[75,75] #[4]) zK args w
theorem MV(n i:Nat)(g:Nat->V)(v:V)(hi:i<=n)(hn:n<=1000000000)(hm:v.mem=true):SatHM Tryz.prog false 134 [.os 2 33,.i .i64 (i:Int),.sl 1 33 1 fun _=>v] [2] [(2,.ar 33 n g)] (fun out ho A0=>out=.os 16 33/\ho=[(16,.ar 33 (n+1) (T8 g i v))]/\A0=[16]):=GM XP ⟨Tryz.f134,Tryz.func134,by kernel_rfl,by kernel_rfl,by kernel_rfl⟩ Sh n i g v hi hm zO (by decide)
theorem Si(lvi:List Nat)(n i:Nat)(g:Nat->V)(hi:i<n):SatHM Tryz.prog false 158 [.os 2 33,.i .i64 (i:Int),.i .i64 ((i:Int)+1)] lvi [(2,.ar 33 n g)] (fun out ho A0=>out=.os 16 33/\ho=[(16,.ar 33 (n-1) (gP g i))]/\A0=[]):=XN XP ⟨Tryz.f158,Tryz.func158,by kernel_rfl,by kernel_rfl,by kernel_rfl⟩ lvi n i g hi
theorem Sj:InsL Tryz.prog (ρi 43 77 168 169) 38 136 (pG Tryz.prog 77) where
 mixed:=by kernel_rfl
 t0:=by kernel_rfl
 t3:=by kernel_rfl
 t4:=by kernel_rfl
 t24:=by kernel_rfl
 i9:=by kernel_rfl
 zs:=by kernel_rfl
 a0:=fun w=>by kernel_rfl
 z0:=fun w=>by kernel_rfl
 v0:=fun w=>by kernel_rfl
 a3:=fun w=>by kernel_rfl
 z3:=fun w=>by kernel_rfl
 v3:=fun w=>by kernel_rfl
 a4:=fun w=>by kernel_rfl
 z4:=fun w=>by kernel_rfl
 v4:=fun w=>by kernel_rfl
 z9:=fun w=>by kernel_rfl
 a24:=fun w=>by kernel_rfl
 z24:=fun w=>by kernel_rfl
 v24:=fun w=>by kernel_rfl
 zp:=by decide
 zo:=fun v hv=>Q7.1 (show((pG Tryz.prog 77).cells.toList.all fun v=>v.oneCell')=true by kernel_rfl) v hv
theorem Sk:xX Tryz.prog (ρi 43 77 168 169):=fun args w=>run_callFunc_extern Tryz.func168 zK zK zK (e:=Extern.SlicesOverlaps.overlaps #[43,43] #[4]) zK args w
theorem GN(n i:Nat)(g:Nat->V)(v:V)(hi:i<=n)(hn:n<=1000000000)(hm:v.mem=true):SatHM Tryz.prog false 128 [.os 2 38,.i .i64 (i:Int),.sl 1 38 1 fun _=>v] [2] [(2,.ar 38 n g)] (fun out ho A0=>out=.os 16 38/\ho=[(16,.ar 38 (n+1) (T8 g i v))]/\A0=[16]):=GM Sj ⟨Tryz.f128,Tryz.func128,by kernel_rfl,by kernel_rfl,by kernel_rfl⟩ Sk n i g v hi hm zO (by decide)
theorem Sm:InsL Tryz.prog (ρi 44 42 170 171) 1 8 (pG Tryz.prog 42) where
 mixed:=by kernel_rfl
 t0:=by kernel_rfl
 t3:=by kernel_rfl
 t4:=by kernel_rfl
 t24:=by kernel_rfl
 i9:=by kernel_rfl
 zs:=by kernel_rfl
 a0:=fun w=>by kernel_rfl
 z0:=fun w=>by kernel_rfl
 v0:=fun w=>by kernel_rfl
 a3:=fun w=>by kernel_rfl
 z3:=fun w=>by kernel_rfl
 v3:=fun w=>by kernel_rfl
 a4:=fun w=>by kernel_rfl
 z4:=fun w=>by kernel_rfl
 v4:=fun w=>by kernel_rfl
 z9:=fun w=>by kernel_rfl
 a24:=fun w=>by kernel_rfl
 z24:=fun w=>by kernel_rfl
 v24:=fun w=>by kernel_rfl
 zp:=by decide
 zo:=fun v hv=>Q7.1 (show((pG Tryz.prog 42).cells.toList.all fun v=>v.oneCell')=true by kernel_rfl) v hv
theorem Sn:xX Tryz.prog (ρi 44 42 170 171):=fun args w=>run_callFunc_extern Tryz.func170 zK zK zK (e:=Extern.SlicesOverlaps.overlaps #[44,44] #[4]) zK args w
theorem GO(n i:Nat)(g:Nat->V)(v:V)(hi:i<=n)(hn:n<=1000000000)(hm:v.mem=true):SatHM Tryz.prog false 130 [.os 2 1,.i .i64 (i:Int),.sl 1 1 1 fun _=>v] [2] [(2,.ar 1 n g)] (fun out ho A0=>out=.os 16 1/\ho=[(16,.ar 1 (n+1) (T8 g i v))]/\A0=[16]):=GM Sm ⟨Tryz.f130,Tryz.func130,by kernel_rfl,by kernel_rfl,by kernel_rfl⟩ Sn n i g v hi hm zO (by decide)
structure It where
 name:List UInt8
 kind:Int
 of:A8
 size:Int
deriving DecidableEq
def It.num(x:It):Prop:=(0<=x.kind/\x.kind<256)/\0<=x.size
def It.fits(x:It):Prop:=x.num/\x.name.length<=65536/\x.size<=9223372036854775807
section
structure Ob where
 of:A8
 data:Sl
structure RO where
 data:Sl
 hit:Bool
def Z2(l:List Ob)(k:A8):Option Sl:=(l.find? fun o=>o.of=k).map (·.data)
theorem xY{l:List Ob}{k:A8}{s:Sl}(h:Z2 l k=some s):∃o∈l,o.of=k/\o.data=s:=by
 rw[Z2]at h
 cases hf:l.find? fun o=>o.of=k with
|none=>rw[hf]at h;cases h
|some o=>
  rw[hf]at h
  have h2:=List.find?_some hf
  simp only[decide_eq_true_eq]at h2
  exact⟨o,List.mem_of_find?_eq_some hf,h2,pM h⟩
theorem XQ(l:List Ob)(o:Ob)(k:A8):Z2 (l++[o]) k=if (Z2 l k).isSome then Z2 l k else if k=o.of then some o.data else none:=by
 rw[Z2,Z2,List.find?_append]
 cases hf:l.find? fun o=>o.of=k with
|some x=>rfl
|none=>
  simp only[Option.none_or,Option.map_none,Option.isSome_none,yM,if_false,List.find?_cons,List.find?_nil]
  by_cases h:o.of=k
  ·simp[h]
  ·have:k≠o.of:=fun e=>h e.symm
   simp[h,this]
def cJ(l:List Ob)(k:A8):Option RO:=(Z2 l k).map fun s=>⟨s,false⟩
theorem XR(l:List Ob)(k:A8):(cJ l k).isSome=(Z2 l k).isSome:=by rw[cJ];cases Z2 l k<;>rfl
variable {l:List Ob} {F:A8->Option RO}
def FD(l:List Ob)(F:A8->Option RO):Prop:=∀k,(F k).map (·.data)=Z2 l k
theorem GP(h:FD l F){k:A8}{v:RO}(hv:F k=some v):Z2 l k=some v.data:=by rw[<-h k,hv];rfl
theorem FD.start:FD l (cJ l):=fun k=>by rw[cJ];cases Z2 l k<;>rfl
theorem FD.hit{x:A8}{v:RO}(h:FD l F)(hv:F x=some v):FD l (bA F x ⟨v.data,true⟩):=fun k=>by
 rw[bA]
 by_cases e:k=x
 ·rw[if_pos e,e,GP h hv];rfl
 ·rw[if_neg e];exact h k
def dQ(F:A8->Option RO)(o:Ob):Bool:=match F o.of with|some v=> !v.hit|none=>false
def unh(l:List Ob)(F:A8->Option RO):Nat:=(l.filter (dQ F)).length
theorem So{x:A8}{v:RO}(h:FD l F)(hv:F x=some v)(hh:v.hit=false):unh l (bA F x ⟨v.data,true⟩)<unh l F:=by
 obtain⟨o,ho,e1,_⟩:=xY (GP h hv)
 have:∀m:List Ob,(m.filter (dQ (bA F x ⟨v.data,true⟩))).length<=(m.filter (dQ F)).length/\(o∈m->(m.filter (dQ (bA F x ⟨v.data,true⟩))).length<(m.filter (dQ F)).length):=by
  intro m
  induction m with
 |nil=>exact⟨B5 _,fun h=>(by cases h)⟩
 |cons y m ih=>
   by_cases e:y.of=x
   ·have a1:dQ (bA F x ⟨v.data,true⟩) y=false:=by rw[dQ,bA,if_pos e];rfl
    have a2:dQ F y=true:=by rw[dQ,e,hv];simp[hh]
    rw[NZ (by rw[a1];simp),OA a2,I6]
    exact⟨zO,fun _=>by omega⟩
   ·have a1:dQ (bA F x ⟨v.data,true⟩) y=dQ F y:=by rw[dQ,bA,if_neg e];rfl
    have hoy:o∈y::m->o∈m:=fun h=>by
     rcases K5.1 h with h|h
     ·rw[<-h]at e;exact absurd e1 e
     ·exact h
    by_cases hb:dQ F y=true
    ·rw[OA (by rw[a1];exact hb),OA hb,I6,I6]
     exact⟨zO,fun h=>by have:=ih.2 (hoy h);omega⟩
    ·rw[NZ (by rw[a1];exact hb),NZ hb]
     exact⟨ih.1,fun h=>ih.2 (hoy h)⟩
 exact(this l).2 ho
end
section
open Go Go.Shelf
def Tryz.sortA_ren:Go.Shelf.Ren:=⟨fun|6=>189|15=>209|14=>208|28=>230|29=>231|20=>222|21=>223|22=>224|23=>225|24=>226|25=>227|26=>228|27=>229|46=>237|47=>238|48=>239|49=>240|50=>241|57=>245|n=>n,fun|22=>181|24=>34|25=>219|3=>3|39=>172|0=>0|53=>247|55=>42|4=>4|46=>292|45=>291|50=>132|5=>5|9=>9|66=>302|70=>306|76=>309|77=>310|n=>n,fun|n=>n⟩
theorem Tryz.sortA:Go.Proofs.SlLaysF0.n6 Tryz.prog Tryz.sortA_ren:={
 mixed:=by kernel_rfl
 f6:=⟨Tryz.f189.name,by decide,Tryz.func189.trans (congrArg some zK)⟩
 f14:=⟨Tryz.f208.name,by decide,Tryz.func208.trans (congrArg some zK)⟩
 f15:=Tryz.func209.trans (congrArg some zK)
 f20:=⟨Tryz.f222.name,by decide,Tryz.func222.trans (congrArg some zK)⟩
 f21:=⟨Tryz.f223.name,by decide,Tryz.func223.trans (congrArg some zK)⟩
 f22:=⟨Tryz.f224.name,by decide,Tryz.func224.trans (congrArg some zK)⟩
 f23:=⟨Tryz.f225.name,by decide,Tryz.func225.trans (congrArg some zK)⟩
 f24:=⟨Tryz.f226.name,by decide,Tryz.func226.trans (congrArg some zK)⟩
 f25:=⟨Tryz.f227.name,by decide,Tryz.func227.trans (congrArg some zK)⟩
 f26:=⟨Tryz.f228.name,by decide,Tryz.func228.trans (congrArg some zK)⟩
 f27:=⟨Tryz.f229.name,by decide,Tryz.func229.trans (congrArg some zK)⟩
 f28:=Tryz.func230.trans (congrArg some zK)
 f29:=Tryz.func231.trans (congrArg some zK)
 f46:=⟨Tryz.f237.name,by decide,Tryz.func237.trans (congrArg some zK)⟩
 f47:=Tryz.func238.trans (congrArg some zK)
 f48:=Tryz.func239.trans (congrArg some zK)
 f49:=⟨Tryz.f240.name,by decide,Tryz.func240.trans (congrArg some zK)⟩
 f50:=⟨Tryz.f241.name,by decide,Tryz.func241.trans (congrArg some zK)⟩
 f57:=⟨Tryz.f245.name,by decide,Tryz.func245.trans (congrArg some zK)⟩
 t0:=Tryz.underlying0
 a0:=Tryz.isAgg0
 z0:=Tryz.sizeOf0
 v0:=Tryz.zeroValue0
 t3:=Tryz.underlying3
 a3:=Tryz.isAgg3
 z3:=Tryz.sizeOf3
 v3:=Tryz.zeroValue3
 t4:=Tryz.underlying4
 a4:=Tryz.isAgg4
 z4:=Tryz.sizeOf4
 v4:=Tryz.zeroValue4
 t5:=Tryz.underlying5
 a5:=Tryz.isAgg5
 z5:=Tryz.sizeOf5
 v5:=Tryz.zeroValue5
 t9:=Tryz.underlying9
 a9:=Tryz.isAgg9
 z9:=Tryz.sizeOf9
 v9:=Tryz.zeroValue9
 t22:=Tryz.underlying181
 a22:=Tryz.isAgg181
 z22:=Tryz.sizeOf181
 v22:=Tryz.zeroValue181
 t25:=Tryz.underlying219
 a25:=Tryz.isAgg219
 z25:=Tryz.sizeOf219
 v25:=Tryz.zeroValue219
 t39:=Tryz.underlying172
 a39:=Tryz.isAgg172
 z39:=Tryz.sizeOf172
 v39:=Tryz.zeroValue172
 t45:=Tryz.underlying291
 a45:=Tryz.isAgg291
 z45:=Tryz.sizeOf291
 v45:=Tryz.zeroValue291
 t46:=Tryz.underlying292
 a46:=Tryz.isAgg292
 z46:=Tryz.sizeOf292
 v46:=Tryz.zeroValue292
 t50:=Tryz.underlying132
 a50:=Tryz.isAgg132
 z50:=Tryz.sizeOf132
 v50:=Tryz.zeroValue132
 t53:=Tryz.underlying247
 a53:=Tryz.isAgg247
 z53:=Tryz.sizeOf247
 v53:=Tryz.zeroValue247
 t55:=Tryz.underlying42
 a55:=Tryz.isAgg42
 z55:=Tryz.sizeOf42
 v55:=Tryz.zeroValue42
 t66:=Tryz.underlying302
 a66:=Tryz.isAgg302
 z66:=Tryz.sizeOf302
 v66:=Tryz.zeroValue302
 t70:=Tryz.underlying306
 a70:=Tryz.isAgg306
 z70:=Tryz.sizeOf306
 v70:=Tryz.zeroValue306
 t76:=Tryz.underlying309
 a76:=Tryz.isAgg309
 z76:=Tryz.sizeOf309
 v76:=Tryz.zeroValue309
 t77:=Tryz.underlying310
 a77:=Tryz.isAgg310
 z77:=Tryz.sizeOf310
 v77:=Tryz.zeroValue310}
end
section
open Go Go.MapKept
def kA(x:A8):Value:=.agg (x.1.map V8).toArray
theorem Sp(e:Bool)(l:List UInt8)(hl:l.length=32)(w:World)(n:Nat):(Instr.checkKey e (n+2) 34 (.agg (l.map V8).toArray)).run Tryz.prog w=.ok () w:=by
 obtain⟨i,hi⟩:∃i,Tryz.prog.info? 5=some i:=info_of_underlying (by kernel_rfl:Tryz.prog.underlying 5=some (.int .u8))
 have hs:Tryz.prog.cellsOf 5=1:=by kernel_rfl
 rw[show n+2=(n+1)+1 from rfl,Instr.checkKey]
 simp only[D1,run_underlying (by kernel_rfl:Tryz.prog.underlying 34=some (.array 32 5)),F6]
 simp only[Std.Legacy.Range.forIn_eq_forIn_range',Std.Legacy.Range.size,pN,Nat.add_one_sub_one,Nat.div_one]
 have vC:∀j∈List.range' 0 32,j<32:=by intro j hj;simpa using hj
 generalize List.range' 0 32=is at vC
 induction is with
|nil=>simp
|cons j is ih=>
  have hj:=vC j (by simp)
  have p1:(part 5 (l.map V8).toArray (j*Tryz.prog.cellsOf 5)).run Tryz.prog w=.ok (V8 (l.getD j 0)) w:=by
   rw[hs,j6]
   exact Qp zK (by rw[eY,Sl.get l j zO])
  have p2:(Instr.checkKey e (n+1) 5 (V8 (l.getD j 0))).run Tryz.prog w=.ok () w:=run_checkKey (d:=.int .u8) zK (by simp[IsKey]) e n
  simp only[List.forIn_cons,D1,run_sizeOf w hi,F6,p1,p2,gV]
  exact ih (fun y hy=>vC y (by simp[hy]))
theorem Sq(p q:A8)(w:World):(Op.equal 34 (kA p) (kA q)).run Tryz.prog w=.ok (decide (p=q)) w:=by
 have h:=Qq (P:=Tryz.prog) (t:=34) (m:=32) zK (e:=5) zK zK 9998 p.1 q.1 p.2 q.2 (w:=w)
 have e:decide (p.1=q.1)=decide (p=q):=by
  rw[tZ]
  simp only[decide_eq_true_eq]
  exact⟨fun h=>Subtype.ext h,fun h=>by rw[h]⟩
 rw[<-e]
 exact h
theorem Sr(p:A8):Instr.sameBits 10000 (kA p) (kA p)=true:=by
 show Instr.sameBits (9999+1) (.agg _) (.agg _)=true
 simp only[Instr.sameBits,beq_self_eq_true,Bool.true_and,Q7]
 intro x hx
 obtain⟨i,hi,e⟩:=HX hx
 rw[List.getElem_zip]at e
 rw[<-e]
 have hm:=dS (l:=p.1.map V8) (n:=i) (by simpa using hi)
 simp only at hm ⊢
 generalize (p.1.map V8)[i]'(by simpa using hi)=v at hm
 obtain⟨u,_,rfl⟩:=J4.1 hm;exact sameBits_self (d:=.int .u8) (by simp[IsKey]) _
theorem BH:KeyOf Tryz.prog 34 kA:=KeyOf.ask zK (fun e p w=>Sp e p.1 p.2 w 9998) Sq Sr
end
theorem Hp.shrinkV(H:Hp w0 w S L){n sz:Nat}{a:Option Nat}{T:TypeId}(hi:L[i]? =some (.own a n c xs T sz))(hm:m<=n):Hp w0 w S (L.set i (.own a m c (xs.take (m*sz)) T sz)):=by
 have h:=H.has _ (E3 hi)
 refine H.turn hi (c':=.own a m c (xs.take (m*sz)) T sz) ?_ (fun b hb=>.inl ?_) rfl rfl rfl (B5 _) (fun _ _ _=>rfl)
 ·cases a with
 |none=>
   obtain⟨h1,h2,h3⟩:=h
   exact⟨zO,h2,by rw[h3];simp⟩
 |some b=>
   obtain⟨q1,q2,q3,rest,hw,q5⟩:=h
   refine⟨?_,zO,q3,xs.drop (m*sz)++rest,?_,?_⟩
   ·rw[F7,q1];exact jJ (G8 sz hm)
   ·rw[<-I0,tX];exact hw
   ·rw[<-I0,tX];exact q5
 ·cases a with
 |none=>cases hb
 |some b'=>exact hb
theorem XS{α:Type}{enc:α->List Value}{sz:Nat}(hk:∀x,(enc x).length=sz):∀(l:List α) (m:Nat),(l.flatMap enc).take (m*sz)=(l.take m).flatMap enc
|[],m=>by simp
|x::l,0=>by simp
|x::l,m+1=>by
  rw[gX,List.take_succ_cons,gX, <-XS hk l m,V6,pR,List.take_append,hk]
  rw[V7 (by rw[hk];omega),Nat.add_sub_cancel]
theorem Hp.shrink{enc:α->List Value}(H:Hp w0 w S L){n sz:Nat}(m:Nat){a:Option Nat}{l:List α}{T:TypeId}(hi:L[i]? =some (.own a n c (l.flatMap enc) T sz))(hk:∀x,(enc x).length=sz)(hm:m<=n):Hp w0 w S (L.set i (.own a m c ((l.take m).flatMap enc) T sz)):=by
 rw[<-XS hk];exact H.shrinkV hi hm
section
variable {P:Program} {Q:Exit->Act->World->Prop} {n:Nat} {σ:Nat->Value} {w w0:World} {K:Act->World->Prop}
 {ty:TypeId} {pos:String} {aft:Array Edge} {g:Option (Nat×Bool)} {d:Nat} {t:TypeId} {x y:Operand} {S:List Nat} {L:List Ch}
end
section
variable {P:Program} {Q:Exit->Act->World->Prop} {n:Nat} {σ:Nat->Value} {w w0:World} {K:Act->World->Prop}
 {ty:TypeId} {pos:String} {aft:Array Edge} {g:Option (Nat×Bool)} {d:Nat} {t:TypeId} {S:List Nat} {L:List Ch}
end
theorem Ss{a:Addr}{v:Value}(h:w.cell? a=some v):(load a).run P w=.ok v w:=by simp[load,Sem.run,h]
theorem XT{P:Program}{w:World}{b:Nat}{C:Array Value}{T fr}(hb:w.heap[b]? =some (.cells C T fr)):∀(l:List UInt8) (o:Nat) (K7:ByteArray),(∀i v,(l.map V8)[i]? =some v->C[o+i]? =some v)->
  (Extern.Bytes.loadBytes ⟨b,o,none⟩ l.length K7).run P w=.ok ⟨(K7.data.toList++l).toArray⟩ w
|[],o,K7,_=>by simp[Extern.Bytes.loadBytes]
|c::l,o,K7,h=>by
  have h0:C[o]? =some (V8 c):=by simpa using h 0 (V8 c) (by simp)
  have hc:w.cell? ⟨b,o,none⟩=some (V8 c):=by simp[World.cell?, hb,h0]
  have ih:=XT (P:=P) hb l (o+1) (K7.push c) (fun i v hv=>by
   have:=h (i+1) v (by simpa using hv)
   rw[show o+1+i=o+(i+1) by omega];exact this)
  rw[I6,Extern.Bytes.loadBytes]
  simp only[D1,Ss hc,F6,V8]
  have e1:((c.toNat:Int)).toNat.toUInt8=c:=by simp
  rw[e1]
  have e2:(⟨b,o,none⟩:Addr).add 1=⟨b,o+1,none⟩:=rfl
  rw[e2,ih]
  simp[ByteArray.push]
theorem XU{s:Sl}(hs:s.ok w):(Extern.Bytes.bytesOf s.v).run P w=.ok ⟨s.l.toArray⟩ w:=by
 have hl:=hs.ln
 rcases hs.rd with h|⟨b,o,C,T,fr,ha,hb,hc⟩
 ·have h0:s.l=[]:=by simpa using h
  rw[h0]at hl ⊢
  have fI:s.len=0:=hl.symm
  unfold Sl.v
  rw[fI]
  cases s.a with
 |none=>simp[Extern.Bytes.bytesOf];rfl
 |some a=>simp[Extern.Bytes.bytesOf,Extern.Bytes.loadBytes];rfl
 ·unfold Sl.v
  rw[ha, <-hl]
  have:=XT (P:=P) hb s.l o .empty hc
  simpa [Extern.Bytes.bytesOf] using this
theorem Su{s u:Sl}(hs:s.ok w)(hu:u.ok w):(Extern.BytealgCompare.compare #[s.v,u.v]).run P w=.ok (.int .i64 (Lib.compareBytes s.l u.l)) w:=by
 change Sem.run P (do pure (goInt (Extern.BytealgCompare.cmp (<-Extern.Bytes.bytesOf s.v) (<-Extern.Bytes.bytesOf u.v)))) w=_
 simp only[D1,XU hs,XU hu,F6,gV,Lib.cmp_eq]
 rfl
open Go.Proofs in
set_option maxHeartbeats 1000000 in
theorem XV(w:World)(s u:Sl)(hs:s.ok w)(hu:u.ok w):Ret Tryz.prog 71 [s.v,u.v] w fun v w'=>v=VI (Lib.compareBytes s.l u.l)/\w'=w:=by
 have hc:=Su (P:=Tryz.prog) hs hu
 unfold Sl.v at hc ⊢
 have h:Calls Tryz.prog 71 #[.slice s.a s.len s.cap,.slice u.a u.len u.cap] w fun e w'=>e=.returned (VI (Lib.compareBytes s.l u.l))/\w'=w:=by
  go_enter Tryz.func71,Tryz.ntmps71
  go_wp2
  rw[run_callFunc_extern Tryz.func111 zK zK zK (e:=Extern.BytealgCompare.compare) zK,hc]
  simp only[Result.andThen]
  rw[BX]
  go_wp2
  go_ret
  exact⟨rfl,rfl⟩
 exact w9 h fun e w' ⟨he,hw⟩=>⟨_,he,rfl,hw⟩
section
variable {α:Type} [Inhabited α] {enc:α->List Value} {k:Nat}
theorem XW(hk:∀x,(enc x).length=k)(h0:0<k):∀(l:List α) (t:Nat),t<l.length*k->(l.flatMap enc)[t]? =(enc (l[t / k]!))[t % k]?
|[],t,h=>by simp at h
|x::l,t,h=>by
  rw[gX]
  by_cases ht:t<k
  ·rw[N7 (by rw[hk];exact ht),Nat.div_eq_of_lt ht,Nat.mod_eq_of_lt ht];rfl
  ·have h2:t-k<l.length*k:=by rw[I6,V6,pR]at h;omega
   have e1:t / k=(t-k) / k+1:=Nat.div_eq_sub_div h0 zO
   have e2:t % k=(t-k) % k:=Nat.mod_eq_sub_mod zO
   rw[L7 (by rw[hk];omega),hk,XW hk h0 l (t-k) h2,e1,e2]
   rfl
theorem BI(hk:∀x,(enc x).length=k):∀l:List α,(l.flatMap enc).length=l.length*k
|[]=>by simp
|x::l=>by rw[gX,D0,hk,BI hk l,I6,V6,pR,Nat.add_comm]
open Go.Sort in
theorem XX(hk:∀x,(enc x).length=k)(h0:0<k)(l:List α):flatK enc k l.toArray=(l.flatMap enc).toArray:=by
 refine ext_get! (by simp[BI hk]) fun t ht=>?_
 have ht':t<l.length*k:=by simpa using ht
 rw[get_flatK enc k _ t (by simpa using ht')]
 have hl:=XW hk h0 l t ht'
 have hlt:t<(l.flatMap enc).length:=by rw[BI hk];exact ht'
 rw[B7 hlt]at hl
 have e1:(l.flatMap enc).toArray[t]! =(l.flatMap enc)[t]:=by
  rw[getElem!_pos _ t (by simpa using hlt)];simp
 rw[e1]
 have hm:t % k<(enc l[t / k]!).length:=by rw[hk];exact Nat.mod_lt _ h0
 rw[B7 hm]at hl
 have e2:l.toArray[t / k]! =l[t / k]! :=by simp
 rw[e2,getElem!_pos (enc l[t / k]!) (t % k) hm]
 exact(pM hl).symm
open Go.Sort in
theorem Sv(d xs rest:List Value)(h:d.length=xs.length):putCells id 0 d.toArray (xs++rest).toArray=(d++rest).toArray:=by
 apply IA
 intro k
 simp only[putCells,Array.getElem?_mapIdx,eY,J3,pN,L8,true_and,bD,id]
 by_cases hk:k<d.length
 ·rw[N7 zO,N7 (by simpa using hk),B7 zO,B7 hk]
  simp[hk]
 ·rw[L7 zO,L7 (by simpa using hk),h]
  have hk2:¬ k<xs.length:=by omega
  cases rest[k-xs.length]? <;>simp[hk,hk2]
open Go.Sort in
theorem Sw{b n:Nat}{l d:List α}{T:TypeId}{os:Array Go.Obj}(hk:∀x,(enc x).length=k)(h0:0<k)(H:Hp w0 w S L)(hi:L[i]? =some (.own (some b) n c (l.flatMap enc) T k))(hd:d.length=l.length):
  Hp w0 (sortWorldK enc k w b 0 m d.toArray os) S (L.set i (.own (some b) n c (d.flatMap enc) T k)):=by
 obtain⟨q1,q2,q3,rest,hw,q5⟩:=H.has _ (E3 hi)
 have hlt:b<w.heap.size:=(Z3.1 hw).1
 have X9:(d.flatMap enc).length=(l.flatMap enc).length:=by rw[BI hk,BI hk,hd]
 have e0:sortWorldK enc k w b 0 m d.toArray os=grow (putRow id (Sort.ahead w m) b 0 (d.flatMap enc).toArray) os:=by
  unfold sortWorldK putRowK;rw[XX hk h0]
 rw[e0]
 have G4:(putRow id (Sort.ahead w m) b 0 (d.flatMap enc).toArray).heap.size=w.heap.size:=by rw[size_putRow];rfl
 have bL:∀k,k<w.heap.size->(grow (putRow id (Sort.ahead w m) b 0 (d.flatMap enc).toArray) os).heap[k]? =(w.heap.modify b (onCells (putCells id 0 (d.flatMap enc).toArray)))[k]? :=fun k hk=>by
  show((putRow id (Sort.ahead w m) b 0 (d.flatMap enc).toArray).heap++os)[k]? =_
  rw[NW (by rw[G4];exact hk)];rfl
 refine H.turn hi (c':=.own (some b) n c (d.flatMap enc) T k) ⟨by rw[X9];exact q1,q2,q3,rest,?_,by rw[D0,X9, <-D0];exact q5⟩ (fun b' I3=>.inl I3) rfl rfl rfl (by show w.heap.size<=((putRow id (Sort.ahead w m) b 0 (d.flatMap enc).toArray).heap++os).size;rw[yP,G4];omega) fun b' aI D6=>?_
 ·rw[bL b hlt,HY,if_pos rfl,hw]
  simp only[X6,onCells,Sv _ _ rest X9]
 ·rw[bL b' aI,HY,if_neg (fun e=>D6 (by rw[<-e];rfl))]
open Go.Sort in
theorem Sx{b n:Nat}{l:List α}{T:TypeId}(hk:∀x,(enc x).length=k)(h0:0<k)(h:(Ch.own (some b) n c (l.flatMap enc) T k).ok w):HoldsK enc k w b 0 l.toArray:=by
 obtain⟨q1,q2,q3,rest,hw,q5⟩:=h
 unfold HoldsK
 rw[XX hk h0]
 intro j hj
 have hj':j<(l.flatMap enc).length:=by simpa using hj
 refine⟨?_,?_⟩
 ·simp only[World.cell?, hw,J3,eY]
  rw[N7 hj',B7 hj']
  rw[getElem!_pos _ j hj];simp
 ·simp[World.frozen?, hw]
def xZ(cf:α->α->Int)(l:List α):List α:=l.mergeSort fun x y=> !(decide (cf y x<0))
open Go.Sort Go.Shelf in
theorem XY{ρ:Ren}(Ly:SlLaysF0.n6 Tryz.prog ρ)(aE:∀w,(isAgg (ρ.t 24)).run Tryz.prog w=.ok true w)(zE:∀w,(Go.sizeOf (ρ.t 24)).run Tryz.prog w=.ok k w)(hk:∀x,(enc x).length=k)(h0:0<k)(h1:∀x,∀v∈enc x,v.oneCell'=true)(cf:α->α->Int)(hO:SWO (ltOf cf))(hT:∀x y,ltOf cf x y=false->ltOf cf y x=false->x=y)
  {g:FuncId}{fn:Func}(hf:Tryz.prog.funcs[g]? =some fn)(hb:fn.body.isSome=true)(fA:(fn.name == "runtime.NumGoroutine")=false)
  (hcmp:∀(W:World) (x y:α),Calls Tryz.prog g #[.agg (enc x).toArray,.agg (enc y).toArray] W fun e w'=>e=.returned (VI (cf x y))/\∃q os',w'=grow (W.drewN q) os')
  {w:World}{n:Nat}{a:Option Nat}{l:List α}{T:TypeId}(H:Hp w0 w S L)(hi:L[i]? =some (.own a n c (l.flatMap enc) T k))(hn:l.length=n)(hbd:n<=1099511627776):
  Ret Tryz.prog (ρ.f 6) [.slice (hd a) n c,.func (.func g) #[] #[]] w fun v w'=>v=.tuple #[]/\Hp w0 w' S (L.set i (.own a n c ((xZ cf l).flatMap enc) T k)):=by
 subst hn
 have eg:∀args w,(callFunc g args).run Tryz.prog w=.ok (.enter g args) w:=fun args w=>by
  have hn':fn.body≠none:=by cases hh:fn.body<;>simp_all
  have P0:fn.name≠ "runtime.NumGoroutine" :=by intro e;simp[e]at fA
  simp[callFunc,hf,P0,hn']
 cases a with
|none=>
  obtain⟨cZ,h2,h3⟩:=(H.has _ (E3 hi):(Ch.own none l.length c (l.flatMap enc) T k).ok w)
  have hl:l=[]:=List.eq_nil_of_length_eq_zero cZ
  subst hl
  have h:=AnyF.slices_SortFunc_none (P:=Tryz.prog) (ρ:=ρ) Ly none c (.func (.func g) #[] #[]) w
  refine w9 h fun e w' ⟨he,hU⟩=>⟨_,he,rfl,?_⟩
  have e1:xZ cf ([]:List α)=[]:=by simp[xZ]
  rw[hU,e1]
  have e2:L.set i (.own none ([]:List α).length c (([]:List α).flatMap enc) T k)=L:=by
   apply V5
   intro j
   rw[List.getElem?_set]
   by_cases e:i=j
   ·subst e
    have:=(N0.1 hi).1
    rw[if_pos rfl,if_pos this,hi]
   ·rw[if_neg e]
  rw[e2];exact H
|some b=>
  have hc:=H.has _ (E3 hi)
  have hlt:b<w.heap.size:=Ch.lt hc rfl
  have h:=AnyQ.slices_SortFunc_total Ly k aE zE enc hk h1 cf hO g #[] b 0 c l.toArray w eg (fun m os dk _ x y=>hcmp _ x y) (Sx hk h0 hc) hlt (by simp;omega) hT
  simp only[bD]at h
  refine w9 h fun e w' ⟨he,m,os,hU⟩=>⟨_,he,rfl,?_⟩
  rw[hU]
  exact Sw (m:=m) (os:=os) (d:=xZ cf l) hk h0 H hi (by rw[xZ,List.length_mergeSort])
end
def C2(x:A8):List Value:=x.1.map V8
theorem aC(x:A8):(C2 x).length=32:=by rw[C2,J5,x.2]
theorem tO(x:A8):(C2 x).all (·.oneCell')=true:=by
 rw[C2,Q7];intro v hv;obtain⟨c,_,rfl⟩:=J4.1 hv;rfl
theorem MW:∀a b:List UInt8,Lib.compareBytes a b<0↔a<b
|[],[]=>by simp[Lib.compareBytes]
|[],_::_=>by simp[Lib.compareBytes]
|_::_,[]=>by simp[Lib.compareBytes]
|a::xs,b::ys=>by
  rw[Lib.compareBytes,List.cons_lt_cons_iff]
  by_cases h1:a<b
  ·simp[h1]
  ·by_cases h2:b<a
   ·have:a≠b:=fun e=>by subst e;exact h1 h2
    simp[h1,h2,this]
   ·have e:a=b:=CB.1 (by
     have g1:¬ a.toNat<b.toNat:=fun h=>h1 (UInt8.lt_iff_toNat_lt.2 h)
     have g2:¬ b.toNat<a.toNat:=fun h=>h2 (UInt8.lt_iff_toNat_lt.2 h)
     omega)
    subst e
    simp[h1,MW xs ys]
instance:Inhabited A8:=⟨⟨replicate 32 0,by simp⟩⟩
def cO(x y:A8):Int:=Lib.compareBytes x.1 y.1
open Go.Sort in
theorem GQ(x y:A8):ltOf cO x y=decide (x.1<y.1):=by
 rw[ltOf,tZ,decide_eq_true_eq,decide_eq_true_eq];exact MW _ _
theorem XZ(a:List UInt8):¬ a<a:=List.lt_irrefl a
theorem YA{a b:List UInt8}(h1:¬ a<b)(h2:¬ b<a):a=b:=List.le_antisymm (List.not_lt.1 h2) (List.not_lt.1 h1)
theorem YB{a b c:List UInt8}(h1:a<b)(h2:b<c):a<c:=List.lt_trans h1 h2
open Go.Sort in
theorem YC:SWO (ltOf cO) where
 irrefl x:=by rw[GQ];exact decide_eq_false (XZ _)
 trans x y z h1 h2:=by rw[GQ,decide_eq_true_eq]at *;exact YB h1 h2
 ntrans x y z h1 h2:=by
  rw[GQ,decide_eq_false_iff_not] at*
  exact List.not_lt.2 (List.le_trans (List.not_lt.1 h2) (List.not_lt.1 h1))
theorem YD(x y:A8)(h1:ltOf cO x y=false)(h2:ltOf cO y x=false):x=y:=by
 rw[GQ,decide_eq_false_iff_not] at*
 exact Subtype.ext (YA h1 h2)
def sortA(l:List A8):List A8:=xZ cO l
section
variable {P:Program} {Q:Exit->Act->World->Prop} {n:Nat} {σ:Nat->Value} {w:World} {K:Act->World->Prop}
 {ty:TypeId} {pos:String} {aft:Array Edge} {g:Option (Nat×Bool)} {d:Nat} {t:TypeId} {x:Operand}
theorem GR{v:Value}(hx:ev n σ x=v)(h:K (mk n (up σ d (.pointer (some ⟨w.heap.size,0,none⟩)))) (w.alloc (.cells v.cells t))):Oper.wp P ⟨some d,.box t x,ty,pos,aft,g⟩ (mk n σ) w K Q:=by
 refine G6 (v:=.pointer (some ⟨w.heap.size,0,none⟩)) (w':=w.alloc (.cells v.cells t)) ?_ h
 simp[execOp,Instr.box,hx,newVar,newRow]
end
theorem GS{b:Nat}{x:A8}{T fr}(h:w.heap[b]? =some (.cells (C2 x).toArray T fr)):(⟨some ⟨b,0,none⟩,32,32,x.1⟩:Sl).ok w:=
 ⟨.inr ⟨b,0,_,T,fr,rfl,h,fun i v hv=>by rw[J3,eY];exact hv⟩,x.2,B5 _,(by decide:(32:Nat)<=9223372036854775807)⟩
theorem Sz(x y:A8)(W:World):Calls Tryz.prog 195 #[.agg (C2 x).toArray,.agg (C2 y).toArray] W fun e w'=>e=.returned (VI (cO x y))/\∃q os',w'=Go.Sort.grow (W.drewN q) os':=by
 refine IE (args:=[kA x,kA y]) Tryz.func195 rfl Tryz.ntmps195 (by simp) ?_
 refine D9 ?_;refine CM ?_;refine A3 (GR (v:=kA x) rfl ?_);refine A3 (GR (v:=kA y) rfl ?_);refine aZ ?_;refine IF ?_;refine D9 ?_;refine rP mixed zK ?_;refine A9 (xO (h:=32) (m:=32) (lv:=none) (hv:=none) (mv:=none) rfl rQ rfl rfl rfl (fun w=>xP w)) ?_;refine A9 (xO (h:=32) (m:=32) (lv:=none) (hv:=none) (mv:=none) rfl rQ rfl rfl rfl (fun w=>xP w)) ?_;have hs:((W.alloc (.cells (kA x).cells 34)).alloc (.cells (kA y).cells 34)).drew.heap[W.heap.size]? =some (.cells (C2 x).toArray 34 (0,0)):=by
  have h1:=fT (W.alloc (.cells (kA x).cells 34)) (.cells (kA y).cells 34) W.heap.size (by simp)
  exact h1.trans (i8 W _)
 have hu:((W.alloc (.cells (kA x).cells 34)).alloc (.cells (kA y).cells 34)).drew.heap[(W.alloc (.cells (kA x).cells 34)).heap.size]? =some (.cells (C2 y).toArray 34 (0,0)):=i8 _ _
 refine nZ (v:=VI (cO x y)) Tryz.func71 rfl rfl rfl (XV _ ⟨some ⟨W.heap.size,0,none⟩,32,32,x.1⟩ ⟨some ⟨(W.alloc (.cells (kA x).cells 34)).heap.size,0,none⟩,32,32,y.1⟩ (GS hs) (GS hu)) ?_
 refine A9 (eG) ?_;refine jZ ?_;refine iL ?_;refine v8 (v:=VI (cO x y)) Tryz.results195 rfl ?_
 refine⟨rfl,1, #[.cells (kA x).cells 34,.cells (kA y).cells 34],?_⟩
 rw[Go.Sort.alloc_eq_grow,Go.Sort.alloc_eq_grow,Go.Sort.grow_grow]
 rfl
theorem Ta{w:World}{n:Nat}{a:Option Nat}{l:List A8}(H:Hp w0 w S L)(hi:L[i]? =some (.own a n c (l.flatMap C2) 34 32))(hn:l.length=n)(hb:n<=1099511627776):
  Ret Tryz.prog 189 [.slice (hd a) n c,.func (.func 195) #[] #[]] w fun v w'=>v=.tuple #[]/\Hp w0 w' S (L.set i (.own a n c ((sortA l).flatMap C2) 34 32)):=
 XY Tryz.sortA Tryz.isAgg34 Tryz.sizeOf34 aC (by decide) (fun x v hv=>Q7.1 (tO x) v hv) cO YC YD Tryz.func195 rfl rfl (fun W x y=>Sz x y W) H hi hn hb
theorem Tb(x y:A8)(W:World):Calls Tryz.prog 166 #[.agg (C2 x).toArray,.agg (C2 y).toArray] W fun e w'=>e=.returned (VI (cO x y))/\∃q os',w'=Go.Sort.grow (W.drewN q) os':=by
 refine IE (args:=[kA x,kA y]) Tryz.func166 rfl Tryz.ntmps166 (by simp) ?_
 refine D9 ?_;refine CM ?_;refine A3 (GR (v:=kA x) rfl ?_);refine A3 (GR (v:=kA y) rfl ?_);refine aZ ?_;refine IF ?_;refine D9 ?_;refine rP mixed zK ?_;refine A9 (xO (h:=32) (m:=32) (lv:=none) (hv:=none) (mv:=none) rfl rQ rfl rfl rfl (fun w=>xP w)) ?_;refine A9 (xO (h:=32) (m:=32) (lv:=none) (hv:=none) (mv:=none) rfl rQ rfl rfl rfl (fun w=>xP w)) ?_;have hs:((W.alloc (.cells (kA x).cells 34)).alloc (.cells (kA y).cells 34)).drew.heap[W.heap.size]? =some (.cells (C2 x).toArray 34 (0,0)):=by
  have h1:=fT (W.alloc (.cells (kA x).cells 34)) (.cells (kA y).cells 34) W.heap.size (by simp)
  exact h1.trans (i8 W _)
 have hu:((W.alloc (.cells (kA x).cells 34)).alloc (.cells (kA y).cells 34)).drew.heap[(W.alloc (.cells (kA x).cells 34)).heap.size]? =some (.cells (C2 y).toArray 34 (0,0)):=i8 _ _
 refine nZ (v:=VI (cO x y)) Tryz.func71 rfl rfl rfl (XV _ ⟨some ⟨W.heap.size,0,none⟩,32,32,x.1⟩ ⟨some ⟨(W.alloc (.cells (kA x).cells 34)).heap.size,0,none⟩,32,32,y.1⟩ (GS hs) (GS hu)) ?_
 refine A9 (eG) ?_;refine jZ ?_;refine iL ?_;refine v8 (v:=VI (cO x y)) Tryz.results166 rfl ?_
 refine⟨rfl,1, #[.cells (kA x).cells 34,.cells (kA y).cells 34],?_⟩
 rw[Go.Sort.alloc_eq_grow,Go.Sort.alloc_eq_grow,Go.Sort.grow_grow]
 rfl
theorem Tc{w:World}{n:Nat}{a:Option Nat}{l:List A8}(H:Hp w0 w S L)(hi:L[i]? =some (.own a n c (l.flatMap C2) 34 32))(hn:l.length=n)(hb:n<=1099511627776):
  Ret Tryz.prog 189 [.slice (hd a) n c,.func (.func 166) #[] #[]] w fun v w'=>v=.tuple #[]/\Hp w0 w' S (L.set i (.own a n c ((sortA l).flatMap C2) 34 32)):=
 XY Tryz.sortA Tryz.isAgg34 Tryz.sizeOf34 aC (by decide) (fun x v hv=>Q7.1 (tO x) v hv) cO YC YD Tryz.func166 rfl rfl (fun W x y=>Tb x y W) H hi hn hb
section
variable {P:Program} {ops:Array Oper} {Q:Exit->Act->World->Prop} {n l:Nat} {K:Act->World->Prop}
theorem Td{row:String}{args:Array Value}{R:Value->World->Prop}(h:Rows P row args w R):RowsIn (Fence.wide.inRound l) n P row args w R:=
 fun c cs _=>let⟨v,w',r,s⟩:=h c cs;⟨v,w',r,stepsIn_wide.2 s⟩
theorem Te{f:FuncId}{args:Array Value}{R:Ending->World->Prop}(h:Calls P f args w R):CallsIn (Fence.wide.inRound l) n P f args w R:=CallsIn.inRound l (callsIn_wide.2 h)
theorem uponIn_round{o:Oper}{a:Act}{r:Result Next}(h:o.upon P a K Q r):o.uponIn (Fence.wide.inRound l) n P a K Q r:=by
 cases r with
|ok x w'=>
  cases x<;>simp only[Oper.upon,Oper.uponIn]at h ⊢<;>
   first
   |exact h
   |exact⟨fun h=>(by cases h),Te h⟩
   |exact⟨fun h=>(by cases h),Td h⟩
   |exact h.elim
|halt x w'=>cases x<;>simp only[Oper.upon,Oper.uponIn]at h ⊢<;>exact h
def Oper.plain(o:Oper):Bool:=match o.op with|.defer _=>false|_=>true
theorem Tf{o:Oper}(h:Oper.plain o=true)(ρ:Operand->Value):Oper.semAt (some l) ρ o=execOp ρ o:=by
 unfold Oper.semAt
 unfold Oper.plain at h
 split
 ·rename_i uN;rw[uN]at h;cases h
 ·rfl
theorem YE{o:Oper}{a:Act}(hp:Oper.plain o=true)(h:o.wp P a w K Q):o.wpIn (Fence.wide.inRound l) n P a w K Q:=by
 refine⟨fun _ _=>trivial,?_⟩
 rw[show(Fence.wide.inRound l).round=some l from rfl,Tf hp]
 exact uponIn_round h
theorem GT(hp:∀o∈ops,Oper.plain o=true)(hQ:¬ LetsOut Q):∀(is:List Nat) (a:Act) (w:World),wpOps P ops Q is a w->wpOpsIn (Fence.wide.inRound l) n P ops Q is a w
|[],a,w,h=>h
|i::is,a,w,h=>by
  unfold wpOps at h
  unfold wpOpsIn
  cases ho:ops[i]? with
 |none=>rw[ho]at h;exact GT hp hQ is a w h
 |some o=>
   rw[ho]at h
   dsimp only at h ⊢
   by_cases hw:Region.wanted o (yielded ops a.tmps)=true
   ·rw[if_pos hw]at h ⊢
    rcases h with h|h
    ·refine YE (hp o (Array.mem_of_getElem? ho)) (Oper.wp_mono (fun a w h=>GT hp hQ is a w h) h)
    ·exact absurd h.2 hQ
   ·rw[if_neg hw]at h ⊢
    exact⟨fun _ _=>trivial,GT hp hQ is _ w h⟩
theorem MX{L:Array Oper}(hp:∀o∈L,Oper.plain o=true)(hQ:¬ LetsOut Q):∀(is:List Oper) (a:Act) (w:World),(∀o∈is,o∈L)->wpList P L Q is a w->wpListIn (Fence.wide.inRound l) n P L Q is a w
|[],a,w,_,h=>h
|o::is,a,w,hs,h=>by
  unfold wpList at h
  unfold wpListIn
  by_cases hw:Region.wanted o (yielded L a.tmps)=true
  ·rw[if_pos hw]at h ⊢
   rcases h with h|h
   ·exact YE (hp o (hs o (X7 ..))) (Oper.wp_mono (fun a w h=>MX hp hQ is a w (fun o ho=>hs o (Q8 _ ho)) h) h)
   ·exact absurd h.2 hQ
  ·rw[if_neg hw]at h ⊢
   exact⟨fun _ _=>trivial,MX hp hQ is _ w (fun o ho=>hs o (Q8 _ ho)) h⟩
def YF(L:List Oper):Bool:=L.all Oper.plain
theorem GU{id:Nat}{L:List Oper}{a:Act}(hp:YF L=true)(hQ:¬ LetsOut Q)(h:wpList P L.toArray Q L a w):(Code.region id L.toArray false).wpIn (Fence.wide.inRound l) n P Q a w:=
 wpIn_region_lit (MX (fun o ho=>Q7.1 hp o (by simpa using ho)) hQ L a w (fun o ho=>by simpa using ho) h)
theorem Tg{id:Nat}{L:List Oper}{a:Act}(S':World->Prop)(hm:P.follows .mixedOrders=true)(hp:YF L=true)(hQ:¬ LetsOut Q)
  (h:wpAnyH P .any L.toArray Q S' L.length (Array.replicate L.length false) a w.drew):(Code.region id L.toArray true).wpIn (Fence.wide.inRound l) n P Q a w:=
 wpIn_region_draw fun t=>by
  simp only[Region.schedule,hm,Bool.true_or,if_true]
  refine GT (fun o ho=>Q7.1 hp o (by simpa using ho)) hQ _ a _ ?_;exact wpAny_sound L.toArray.size t _ a _ (wpAny_of_held _ _ _ _ (by simpa using h))
end
section
variable {P:Program} {ops:Array Oper} {Q:Exit->Act->World->Prop} {n l m:Nat} {K:Act->World->Prop} {σ:Nat->Value} {w:World}
 {ty:TypeId} {pos:String} {aft:Array Edge} {g:Option (Nat×Bool)} {d:Nat} {rest:List Oper}
theorem Th{o:Oper}{a:Act}{r:Result Next}(h:o.upon P a K Q r):o.uponIn Fence.wide m P a K Q r:=by
 cases r with
|ok x w'=>
  cases x<;>simp only[Oper.upon,Oper.uponIn]at h ⊢<;>
   first
   |exact h
   |exact⟨fun h=>(by cases h),callsIn_wide.2 h⟩
   |exact⟨fun h=>(by cases h),fun c cs _=>let⟨v,w',r,s⟩:=h c cs;⟨v,w',r,stepsIn_wide.2 s⟩⟩
   |exact h.elim
|halt x w'=>cases x<;>simp only[Oper.upon,Oper.uponIn]at h ⊢<;>exact h
theorem yA{op:Op}{dst:Option Tmp}{a:Act}(h:Oper.wp P ⟨dst,op,ty,pos,aft,none⟩ a w (wpListIn Fence.wide m P ops Q rest) Q):wpListIn Fence.wide m P ops Q (⟨dst,op,ty,pos,aft,none⟩::rest) a w:=by
 unfold wpListIn
 rw[if_pos (by simp[Region.wanted])]
 exact⟨fun _ _=>trivial,Th h⟩
theorem YG{y:Code}{a:Act}(h:y.wp P Q a w):wpListIn Fence.wide m P ops (Exit.then (y.wp P Q) Q) [] a w:=h
theorem YH{x y:Operand}{v:Value}{b:Bool}{R:World->Prop}(hx:ev n σ x=.func (.yield l) #[] #[])(hnf:∀f,x≠ .func f)(hy:ev n σ y=v)
  (hY:YieldAt Fence.wide (m-1) P l #[v] w fun e W'=>e=.returned (.bool b)/\R W')
  (h:∀W',R W'->wpListIn Fence.wide m P ops Q rest (mk n (up σ d (.bool b))) W'):
  wpListIn Fence.wide m P ops Q (⟨some d,.call ⟨.value x, #[y],V9⟩,ty,pos,aft,none⟩::rest) (mk n σ) w:=by
 obtain⟨fn,tmps,assign,body,I2,hR⟩:=hY
 unfold wpListIn
 rw[if_pos (by simp[Region.wanted])]
 refine⟨fun _ _=>trivial,?_⟩
 have e:(execOp (mk n σ).eval ⟨some d,.call ⟨.value x, #[y],V9⟩,ty,pos,aft,none⟩).run P w=.ok (.round l fn tmps assign body) w:=by
  rw[W6]
  cases x with
 |func f=>exact absurd rfl (hnf f)
 |_=>simp[execOp,resolve,hx,hy,Deferred.ofValue,invoke,I2]
 rw[show Fence.wide.round=none from rfl,Oper.semAt_none,e,Oper.uponIn_round]
 refine⟨fun h=>(by cases h),hR.mono fun e W' he=>?_⟩
 obtain⟨he,hr⟩:=he
 subst he
 show wpListIn Fence.wide m P ops Q rest ((mk n σ).put (some d) (.bool b)) W'
 rw[eF]
 exact h W' hr
end
theorem Ti{ι α:Type}{w1:World}{bb b l:Nat}{enc:α->Value}{M:List (A8×Value×Nat)}{F:A8->Option α}(hM:MOk M c)(hF:MIs enc M F)(Lv:ι->List Ch)(I:List A8->ι->Prop)(x0:ι)(h0:I [] x0)(H0:Hp w0 w1 S (Ch.blk bb ([.map (some b)]) 241::Ch.obj b (B8 kA M c)::Lv x0))(hY:∀(it:Nat) (A5:List A8) (x:ι) (k:A8) (a:α) (W:World),I A5 x->F k=some a->k∉A5->(∀j∈A5,(F j).isSome=true)->A5.Nodup->Hp w0 W S (Ch.obj it (T7 b M c (A5++[k]))::Ch.blk bb ([.map (some b)]) 241::Ch.obj b (B8 kA M c)::Lv x)->YieldAt Fence.wide 0 Tryz.prog l #[kA k] W fun e W'=>e=.returned (.bool true)/\∃x',I (A5++[k]) x'/\Hp w0 W' S (Ch.obj it (T7 b M c (A5++[k]))::Ch.blk bb ([.map (some b)]) 241::Ch.obj b (B8 kA M c)::Lv x')):
 Ret Tryz.prog 216 [.func (.yield l) #[] #[],.pointer (some ⟨bb,0,none⟩)] w1 fun v w'=>∃A5 x,I A5 x/\A5.Nodup/\(∀k,k∈A5↔(F k).isSome=true)/\Hp w0 w' S (Ch.blk bb ([.map (some b)]) 241::Ch.obj b (B8 kA M c)::Lv x):=by
 refine T4 Tryz.func216 rfl Tryz.ntmps216 (by simp) ?_
 have H:=H0
 refine rG ?_;refine lV (Q4 H (i:=0) rfl rfl JG rfl) ?_;refine A3 (WZ (kv:=kA) H (i:=1) rfl Tryz.underlying241 rfl (fun b1 w H P8=>?_));replace H:=H.rot
 replace H:Hp _ w _ (Ch.obj b1 (T7 b M c ([]))::Ch.blk bb ([.map (some b)]) 241::Ch.obj b (B8 kA M c)::Lv x0):=H
 refine eN ?_
 refine qB ?_;repeat refine D9 ?_
 refine LY (fun(A5:List A8) (x:ι)=>[(0,.func (.yield l) #[] #[]),(5,.pointer (some ⟨b1,0,none⟩))])
  (fun(A5:List A8) (x:ι) w=>(A5.Nodup/\(∀k∈A5,(F k).isSome=true)/\I A5 x)/\Hp w0 w S (Ch.obj b1 (T7 b M c A5)::Ch.blk bb ([.map (some b)]) 241::Ch.obj b (B8 kA M c)::Lv x))
  (fun(A5:List A8) (x:ι)=>M.length-A5.length) ([]) x0 ⟨rfl,rfl,zT⟩ ⟨⟨List.nodup_nil,fun _ h=>(by cases h),h0⟩,H⟩ ?_
 clear H
 rintro A5 x τ w ⟨⟨aO,hv,hI⟩,H⟩
 refine rG ?_;refine A3 (XA (kv:=kA) (enc:=enc) H (i:=2) (j:=0) rfl rfl hM hF hv rfl (fun hall2 w H=>?_) (fun R4 va4 vK hkn6 w H=>?_))
 ·
  refine lV (bZ rfl rfl) ?_;refine eN ?_
  refine qN ?_;refine W7 ?_;refine eZ ?_;refine CO Tryz.results216 ?_
  refine⟨_,rfl,?_⟩
  exact⟨A5,x,hI,aO,fun k=>⟨hv k,hall2 k⟩,H.sub (.cons _ (.cons_cons _ (.cons_cons _ (pS _))))⟩
 ·
  replace H:Hp _ w _ (Ch.obj b1 (T7 b M c (A5++[R4]))::Ch.blk bb ([.map (some b)]) 241::Ch.obj b (B8 kA M c)::Lv x):=H
  refine lV (bZ rfl rfl) ?_;refine eN ?_
  refine qY ?_;refine M5 ?_;refine qB ?_;refine rG ?_;refine lV (XB (kv:=kA) (enc:=enc) H (i:=2) (j:=0) rfl rfl hM hF vK rfl) ?_;refine lV (bZ rfl rfl) ?_;refine A3 (W8 H aR (fun b7 w H hb7=>?_));replace H:=H.rot
  replace H:Hp _ w _ (Ch.blk b7 ((replicate 32 (0:UInt8)).map V8) 34::Ch.obj b1 (T7 b M c (A5++[R4]))::Ch.blk bb ([.map (some b)]) 241::Ch.obj b (B8 kA M c)::Lv x):=H
  refine A3 (mH (l':=R4.1) H (i:=0) rfl rfl rfl iQ (show(replicate 32 (0:UInt8)).length=32 from(jK ..)) (show(R4.1).length=32 from R4.2) (fun w H=>?_));replace H:Hp _ w _ (Ch.blk b7 ((R4.1).map V8) 34::Ch.obj b1 (T7 b M c (A5++[R4]))::Ch.blk bb ([.map (some b)]) 241::Ch.obj b (B8 kA M c)::Lv x):=H
  refine eN ?_
  repeat refine D9 ?_
  have X8:=GI aO hv vK hkn6
  have mX:=XC hF X8.1 X8.2
  rw[D0,w8]at mX
  refine(wpIn_wide (n:=1)).1 ?_;refine wpIn_region_lit ?_;refine yA (G6 L0 ?_);refine yA (G6 (tB (l:=R4.1) H (i:=0) rfl rfl aQ (show(R4.1).length=32 from R4.2)) ?_);have H1:=H.sub (.cons _ (.cons_cons _ (.cons_cons _ (.cons_cons _ (pS _)))))
  have hy:=hY _ A5 x R4 va4 _ hI vK hkn6 hv aO H1
  refine YH (v:=kA R4) (b:=true) rfl (fun f e=>by cases e) rfl hy ?_;rintro w ⟨x',pT,H2⟩
  clear H H1 hy;have H:=H2;clear H2
  refine yA (G6 (zF rfl) ?_);refine YG ?_;refine qN ?_;refine M5 ?_;refine U4 (A5++[R4],x') ?_ ?_ ?_
  ·exact⟨rfl,rfl,zT⟩
  ·refine⟨?_,?_⟩
   ·try dsimp only
    exact⟨X8.1,X8.2,pT⟩
   ·exact H
  ·show M.length-(A5++[R4]).length<M.length-A5.length;rw[D0,w8];omega
def gQ(n:Nat)(σ:Nat->Value)(ds:List Deferred):Act:={ mk n σ with defers:=ds}
section
variable {P:Program} {Q:Exit->Act->World->Prop} {n l m i d:Nat} {K:Act->World->Prop} {σ:Nat->Value} {w w0:World} {S:List Nat} {L:List Ch}
 {ty:TypeId} {pos:String} {aft:Array Edge} {g:Option (Nat×Bool)} {rest:List Oper} {ds:List Deferred} {ops:Array Oper}
theorem YI:(gQ n σ ds).eval=ev n σ:=by
 rw[<-W6];funext x;cases x<;>rfl
theorem YJ{v:Value}:(gQ n σ ds).put (some d) v=gQ n (up σ d v) ds:=by
 show(gQ n σ ds).put (some d) v={ mk n (up σ d v) with defers:=ds}
 rw[<-eF];rfl
theorem Hp.putObj{o o':Go.Obj}(H:Hp w0 w S L)(hi:L[i]? =some (.obj r o)):Hp w0 (w.putObj r o') S (L.set i (.obj r o')):=by
 have hr:w.heap[r]? =some o:=H.has _ (E3 hi)
 have hlt:=(Z3.1 hr).1
 refine H.turn hi (c':=.obj r o') (World.putObj_heap_same hlt) (fun b hb=>.inl hb) rfl rfl rfl (by simp[World.putObj]) (fun b _ D6=>World.putObj_heap_other fun e=>D6 (by rw[e];rfl))
theorem BJ{op:Op}{v:Value}(I2:(execOp (ev n σ) ⟨some d,op,ty,pos,aft,g⟩).run P w=.ok (.value v) w')(h:K (gQ n (up σ d v) ds) w'):Oper.wp P ⟨some d,op,ty,pos,aft,g⟩ (gQ n σ ds) w K Q:=by
 unfold Oper.wp
 rw[YI,I2,BX,YJ]
 exact h
theorem Tj{f:FuncId}{fn:Func}{args:Array Operand}{vs:List Value}{R:Value->World->Prop}(hf:P.funcs[f]? =some fn)(hb:fn.body.isSome=true)(fA:(fn.name == "runtime.NumGoroutine")=false)
  (ha:rA n σ args.toList=vs)(hc:Ret P f vs w R)(h:∀v w',R v w'->K (gQ n (up σ d v) ds) w'):Oper.wp P ⟨some d,.call ⟨.value (.func f),args,V9⟩,ty,pos,aft,g⟩ (gQ n σ ds) w K Q:=by
 unfold Oper.wp
 rw[YI]
 have hn:fn.body≠none:=by cases hh:fn.body<;>simp_all
 have P0:fn.name≠ "runtime.NumGoroutine" :=by intro e;simp[e]at fA
 have X8:args.map (ev n σ)=vs.toArray:=by apply U0;rw[<-ha,yU];simp
 have:(execOp (ev n σ) ⟨some d,.call ⟨.value (.func f),args,V9⟩,ty,pos,aft,g⟩).run P w=.ok (.enter f vs.toArray) w:=by
  simp[execOp,resolve,ev,Deferred.ofValue,invoke,callFunc,hf,P0,hn,X8]
 rw[this,Oper.upon_enter]
 refine w9 hc fun e w' ⟨v,he,hv⟩=>?_
 subst he
 show K ((gQ n σ ds).put (some d) v) w'
 rw[YJ];exact h v w' hv
theorem Tk{f:FuncId}{fn:Func}{c:Code}{args:List Value}{R:Ending->World->Prop}(hf:P.funcs[f]? =some fn)(hb:fn.body=some c)(hn:fn.ntmps=n)(B3:args.length<=n)
  (h:c.wp P (bodyPostM Fence.wide 1 P fn R) (mk n (fun t=>args.getD t undef)) w):Calls P f args.toArray w R:=by
 refine callsIn_wide.1 (callsIn_of_wp_marks (F:=Fence.wide) (n:=1) hf hb trivial ?_)
 rw[hn,OC args n B3]
 exact wpIn_wide.2 h
theorem YK{f:FuncId}{fn:Func}{c:Code}{args:List Value}{R:Value->World->Prop}(hf:P.funcs[f]? =some fn)(hb:fn.body=some c)(hn:fn.ntmps=n)(B3:args.length<=n)
  (h:c.wp P (bodyPostM Fence.wide 1 P fn fun e w'=>∃v,e=.returned v/\R v w') (mk n (fun t=>args.getD t undef)) w):Ret P f args w R:=Tk hf hb hn B3 h
theorem Tl{c:Operand}{x y:Code}(hc:ev n σ c=.bool true)(h:x.wpIn (Fence.wide.inRound l) m P Q (mk n σ) w):(Code.cond c x y).wpIn (Fence.wide.inRound l) m P Q (mk n σ) w:=wpIn_cond_true ((lM n σ c).trans hc) h
theorem Tm{c:Operand}{x y:Code}(hc:ev n σ c=.bool false)(h:y.wpIn (Fence.wide.inRound l) m P Q (mk n σ) w):(Code.cond c x y).wpIn (Fence.wide.inRound l) m P Q (mk n σ) w:=wpIn_cond_false ((lM n σ c).trans hc) h
theorem Tn{a:Act}(h:Q .normal a w):Code.skip.wpIn (Fence.wide.inRound l) m P Q a w:=wpIn_skip h
theorem YL{id:Nat}{c:Code}{a:Act}(h:c.wpIn (Fence.wide.inRound l) m P (Exit.inBlock id Q) a w):(Code.block id c).wpIn (Fence.wide.inRound l) m P Q a w:=wpIn_block h
theorem GV{y:Code}{a:Act}(h:y.wpIn (Fence.wide.inRound l) m P Q a w):wpList P ops (Exit.then (y.wpIn (Fence.wide.inRound l) m P Q) Q) [] a w:=h
def BK(D:Nat):List Deferred:=[{ target:=.collected D,args:= #[] }]
theorem YM{R:Ending->World->Prop}{D:Nat}{t:Tmp}{v:Value}(h:fn.results= #[.tmp t])(hv:ev n σ (.tmp t)=v)(H:Hp w0 w S L)(hi:L[i]? =some (.obj D (.deferred (some []))))
  (hR:∀w',Hp w0 w' S (L.eraseIdx i)->R (.returned v) w'):bodyPostM Fence.wide 1 P fn R .ret (gQ n σ (BK D)) w:=by
 have hD:w.heap[D]? =some (.deferred (some [])):=H.has _ (E3 hi)
 have H2:=H.putObj (o':=.deferred none) hi
 refine⟨by simp,.inl ⟨D,_,rfl,run_takeDeferred hD,?_⟩⟩
 have hs:(L.set i (.obj D (.deferred none))).eraseIdx i=L.eraseIdx i:=by
  rw[List.eraseIdx_set_eq]
 have H3:=H2.sub (List.eraseIdx_sublist _ i)
 rw[hs]at H3
 refine⟨_,results_tmp h _ _ _,?_⟩
 have e:(gQ n σ (BK D)).tmps.getD t undef=v:=by rw[<-hv];exact rH n σ t
 rw[e]
 exact hR _ H3
theorem To{f:FuncId}(hf:P.funcs[f]? =some fn)(hb:fn.body.isSome=true)(fA:(fn.name == "runtime.NumGoroutine")=false)(args:Array Value)(w:World):(callFunc f args).run P w=.ok (.enter f args) w:=by
 have hn:fn.body≠none:=by cases hh:fn.body<;>simp_all
 have P0:fn.name≠ "runtime.NumGoroutine" :=by intro e;simp[e]at fA
 simp[callFunc,hf,P0,hn]
theorem YN{ι κ α:Type}{FX:List Ch}{Got:κ->α->Prop}{All:List κ->Prop}{I:List κ->ι->Prop}{x0:ι}{itC:Nat->List κ->Ch}{kv:κ->Value}{gf:FuncId}{fnI:Func}{pb:Value}{op:Operand}{p:Tmp}{assign body:Code}
  (hf:P.funcs[gf]? =some fnI)(hb:fnI.body.isSome=true)(fA:(fnI.name == "runtime.NumGoroutine")=false)
  (hIt:∀(Lv:ι->List Ch) (l:Nat) (w1:World),Hp w0 w1 S (FX++Lv x0)->
   (∀(it:Nat) (A5:List κ) (x:ι) (k:κ) (a:α) (W:World),I A5 x->Got k a->k∉A5->Hp w0 W S (itC it (A5++[k])::(FX++Lv x))->
    YieldAt Fence.wide 0 P l #[kv k] W fun e W'=>e=.returned (.bool true)/\∃x',I (A5++[k]) x'/\Hp w0 W' S (itC it (A5++[k])::(FX++Lv x')))->
   Ret P gf [.func (.yield l) #[] #[],pb] w1 fun _ w'=>∃A5 x,I A5 x/\All A5/\Hp w0 w' S (FX++Lv x))
  (hg:ev n σ op=.func (.func gf) #[] #[pb])(Lv:ι->List Ch)(H:Hp w0 w S (FX++Lv x0))
  (hround:∀(l:Nat) (T:List Ch) (A5:List κ) (x:ι) (k:κ) (a:α) (W:World),I A5 x->Got k a->k∉A5->Hp w0 W S (FX++(Lv x++T))->
   assign.wpIn (Fence.wide.inRound l) 0 P (Exit.then (fun a₁ W₁=>∃Lb,Hp w0 W₁ S (Lb++T)/\∀T' W₂,Hp w0 W₂ S (Lb++T')->
    body.wpIn (Fence.wide.inRound l) 0 P (fun e _ W₃=>e=.normal/\∃x',I (A5++[k]) x'/\Hp w0 W₃ S (FX++(Lv x'++T'))) a₁ W₂) (fun _ _ _=>False)) (mk n (up σ p (kv k))) W)
  (hdone:∀(D:Nat) (A5:List κ) (x:ι) (w':World),I A5 x->All A5->Hp w0 w' S (Ch.obj D (.deferred (some []))::(FX++Lv x))->Q .normal (gQ n σ (BK D)) w'):
  (Code.rangeFunc op #[p] assign body).wp P Q (mk n σ) w:=by
 refine(wpIn_wide (n:=1)).1 (wpIn_rangeFunc ?_);intro fn _
 have hDn:w0.heap.size<=w.heap.size:=H.size
 have H1:=(H.new (.deferred (some [])) (.obj w.heap.size (.deferred (some []))) rfl (i8 w _))
 generalize nL:(fun(st:LoopState) (pe:Option Code)=>({ state:=st,pending:=pe,fn,tmps:=(mk n σ).tmps,params:= #[p],assign,body,defers:=w.heap.size}:Loop))=rec
 have H2:=H1.new (.loop (rec .ready none)) (.obj (w.heap.size+1) (.loop (rec .ready none))) (by simp[Ch.key]) (by have:=i8 (w.alloc (.deferred (some []))) (.loop (rec .ready none));simpa [Ch.ok] using this)
 generalize v7:(w.alloc (.deferred (some []))).alloc (.loop (rec .ready none))=W1 at H2
 generalize hD:w.heap.size=D at*
 have P1:∀(x:ι) (o:Go.Obj),(FX++(Lv x++[Ch.obj D (.deferred (some [])),Ch.obj (D+1) o])).Perm (FX++Lv x++[Ch.obj D (.deferred (some []))]++[Ch.obj (D+1) o]):=fun x o=>by
  rw[I0,I0];exact .refl _
 have H3:Hp w0 W1 S (FX++(fun x=>Lv x++[Ch.obj D (.deferred (some [])),Ch.obj (D+1) (.loop (rec .ready none))]) x0):=H2.permL (P1 x0 _).symm
 refine⟨D+1,BK D,W1,{ target:=.fn (.func gf) #[pb],args:= #[.func (.yield (D+1)) #[] #[]] },W1,gf, #[.func (.yield (D+1)) #[] #[]]++ #[pb],W1,?_,?_,fun _ _=>trivial,?_,fun h=>(by cases h),?_⟩
 ·subst hD;rw[<-v7, <-nL];exact run_enterLoop_outer _ _ _ _ _
 ·rw[W6]
  have hc:ev n σ (.const (.func (.yield (D+1)) #[] #[]))=.func (.yield (D+1)) #[] #[]:=rfl
  cases op<;>simp[resolve,rangeCall,hg,hc,Deferred.ofValue]
 ·simp[invoke,To hf hb fA]
 ·refine callsIn_wide.2 ?_
  refine w9 (hIt (fun x=>Lv x++[Ch.obj D (.deferred (some [])),Ch.obj (D+1) (.loop (rec .ready none))]) (D+1) W1 H3 ?_) ?_
  ·intro it A5 x k a W hI hgot hk HW
   have HWp:Hp w0 W S (FX++(Lv x++[Ch.obj D (.deferred (some [])),Ch.obj (D+1) (.loop (rec .ready none)),itC it (A5++[k])])):=HW.permL (by
    have:=(List.perm_append_comm (l₁:=[itC it (A5++[k])]) (l₂:=FX++(Lv x++[Ch.obj D (.deferred (some [])),Ch.obj (D+1) (.loop (rec .ready none))])))
    rw[I0,I0]at this
    exact this)
   have hi:(FX++(Lv x++[Ch.obj D (.deferred (some [])),Ch.obj (D+1) (.loop (rec .ready none)),itC it (A5++[k])]))[FX.length+((Lv x).length+1)]? =some (Ch.obj (D+1) (.loop (rec .ready none))):=by
    rw[L7 zO,jM,L7 zO,jM];rfl
   have hl:W.heap[D+1]? =some (.loop (rec .ready none)):=HWp.has _ (E3 hi)
   have hy:=run_yield (P:=P) (args:= #[kv k]) hl (by rw[<-nL];rfl)
   refine⟨_,_,_,_,hy,roundIn_of_wpIn trivial ?_⟩
   have hact:({ tmps:=((rec .ready none).params.zip #[kv k]).foldl (fun tmps (x:Tmp×Value)=>tmps.setIfInBounds x.1 x.2) (rec .ready none).tmps,defers:=[]}:Act)=mk n (up σ p (kv k)):=by
    rw[<-eF, <-nL]
    simp[Act.put,nS]
   rw[hact]
   have ha:(rec .ready none).assign=assign:=by rw[<-nL]
   have hbd:(rec .ready none).body=body:=by rw[<-nL]
   rw[ha,hbd]
   refine wpIn_mono (hround (D+1) _ A5 x k a W hI hgot hk HWp) ?_;intro e a₁ W₁ hq
   cases e with
  |normal=>
    obtain⟨Lb,HLb,hbody⟩:=hq
    have jV:(Lb++[Ch.obj D (.deferred (some [])),Ch.obj (D+1) (.loop (rec .ready none)),itC it (A5++[k])])[Lb.length+1]? =some (Ch.obj (D+1) (.loop (rec .ready none))):=by
     rw[L7 zO,jM];rfl
    have dD:W₁.heap[D+1]? =some (.loop (rec .ready none)):=HLb.has _ (E3 jV)
    have hbg:=run_beginRound (P:=P) dD (by rw[<-nL])
    have H4:=HLb.putObj (o':=.loop { rec .ready none with state:=.busy }) jV
    rw[show(Lb++[Ch.obj D (.deferred (some [])),Ch.obj (D+1) (.loop (rec .ready none)),itC it (A5++[k])]).set (Lb.length+1) (.obj (D+1) (.loop { rec .ready none with state:=.busy }))=Lb++[Ch.obj D (.deferred (some [])),Ch.obj (D+1) (.loop { rec .ready none with state:=.busy }),itC it (A5++[k])] from by
     rw[cS _ _ zO,jM];rfl]at H4
    refine⟨_,hbg,wpIn_mono (hbody _ _ H4) ?_⟩
    rintro e a₂ W₃ ⟨rfl,x',pT,H5⟩
    have iG:(FX++(Lv x'++[Ch.obj D (.deferred (some [])),Ch.obj (D+1) (.loop { rec .ready none with state:=.busy }),itC it (A5++[k])]))[FX.length+((Lv x').length+1)]? =some (Ch.obj (D+1) (.loop { rec .ready none with state:=.busy })):=by
     rw[L7 zO,jM,L7 zO,jM];rfl
    have uX:W₃.heap[D+1]? =some (.loop { rec .ready none with state:=.busy }):=H5.has _ (E3 iG)
    have hen:=run_endRound (P:=P) none uX
    have H6:=H5.putObj (o':=.loop (rec .ready none)) iG
    rw[cS _ _ zO,jM,cS _ _ zO,jM]at H6
    have mT:({ ({ rec .ready none with state:=.busy}:Loop) with state:=if (none:Option Code).isNone then .ready else .done,pending:=none}:Loop)=rec .ready none:=by rw[<-nL];rfl
    rw[mT]at hen
    refine⟨_,_,hen,rfl,x',pT,H6.permL ?_⟩
    have:=(List.perm_append_comm (l₁:=FX++(Lv x'++[Ch.obj D (.deferred (some [])),Ch.obj (D+1) (.loop (rec .ready none))])) (l₂:=[itC it (A5++[k])]))
    rw[I0,I0]at this
    exact this
  |exit _=>exact hq.elim
  |ret=>exact hq.elim
  |goto _=>exact hq.elim
  |panic _=>exact hq.elim
  |outgrown=>exact hq.elim
  ·rintro e W2 ⟨v,rfl,A5,x,hI,hA,HW⟩
   have hi:(FX++(Lv x++[Ch.obj D (.deferred (some [])),Ch.obj (D+1) (.loop (rec .ready none))]))[FX.length+((Lv x).length+1)]? =some (Ch.obj (D+1) (.loop (rec .ready none))):=by
    rw[L7 zO,jM,L7 zO,jM];rfl
   have hl:W2.heap[D+1]? =some (.loop (rec .ready none)):=HW.has _ (E3 hi)
   have hen:=run_endLoop (P:=P) hl (by rw[<-nL];simp)
   have H6:=HW.putObj (o':=.loop { rec .ready none with state:=.exhausted }) hi
   rw[cS _ _ zO,jM,cS _ _ zO,jM]at H6
   have hpn:(rec .ready none).pending=none:=by rw[<-nL]
   refine⟨none,_,hen.trans (congrArg (fun z=>Result.ok z (W2.putObj (D+1) (.loop { rec .ready none with state:=.exhausted }))) hpn),?_⟩
   ·show Q .normal { tmps:=(mk n σ).tmps,defers:=BK D++(mk n σ).defers} _
    rw[nS,Z4]
    refine hdone D A5 x _ hI hA ?_;have hp:=(List.perm_append_comm (l₁:=FX++Lv x) (l₂:=[Ch.obj D (.deferred (some []))]))
    refine(H6.sub ?_).permL hp
    rw[I0]
    exact List.Sublist.append_left (List.Sublist.append_left (.cons_cons _ (.cons _ (.refl _))) _) _
end
def mI(x:It):List Value:=([.string ⟨(x.name).toArray⟩,VI x.kind]:List Value)++((x.of.1).map V8++(([VI x.size]:List Value)))
def tP(x:Ob):List Value:=(x.of.1).map V8++(([x.data.v]:List Value))
def Tp(x:RO):List Value:=([x.data.v,.bool x.hit]:List Value)
def f8(v:RO):Value:=.agg (Tp v).toArray
def D4:RO:=⟨⟨none,0,0,[]⟩,false⟩
theorem MY(w:World):(zeroValue 262).run Tryz.prog w=.ok (f8 D4) w:=by
 have h:(Tryz.prog.info? 262).map (·.zero)=some (some (f8 D4)):=by kernel_rfl
 cases hi:Tryz.prog.info? 262 with
|none=>rw[hi]at h;cases h
|some i=>
  rw[hi]at h
  have hz:i.zero=some (f8 D4):=by simpa using h
  rw[zeroValue]
  simp[typeInfo,Sem.run,hi,hz]
theorem Tq{l:List Ob}{o:Ob}(h:(cJ l o.of).isSome=false):bA (cJ l) o.of ⟨o.data,false⟩=cJ (l++[o]):=by
 rw[XR]at h
 funext k
 rw[bA,cJ,cJ,XQ]
 by_cases e:k=o.of
 ·rw[if_pos e,e,h,if_neg (by decide),if_pos rfl];rfl
 ·rw[if_neg e]
  by_cases hs:(Z2 l k).isSome=true
  ·rw[if_pos hs]
  ·rw[if_neg hs,if_neg e]
   cases hl:Z2 l k with
  |none=>rfl
  |some s=>rw[hl]at hs;exact absurd rfl hs
theorem Tr{l:List Ob}{o:Ob}(h:(cJ l o.of).isSome=true):cJ l=cJ (l++[o]):=by
 rw[XR]at h
 funext k
 rw[cJ,cJ,XQ]
 by_cases hs:(Z2 l k).isSome=true
 ·rw[if_pos hs]
 ·rw[if_neg hs]
  have e:k≠o.of:=fun e=>hs (by rw[e];exact h)
  rw[if_neg e]
  cases hl:Z2 l k with
 |none=>rfl
 |some s=>rw[hl]at hs;exact absurd rfl hs
theorem MZ{l:List α}{x:α}(h:l[i]? =some x):l.take (i+1)=l.take i++[x]:=by
 rw[CE,h];rfl
def GW(w0 w:World)(v:Value)(w':World):Prop:=∃(I:Gl It) (e:Int) (T1:List Ch),v=.tuple #[I.v,VI e]/\I.l.length=I.len/\I.len<=64/\(∀(w2:World) (L:List Ch),Hp w0 w2 [] L->T1.Sublist L->I.ok mI 35 w2)/\Hp w w' [] T1
def HT(l:List Ob)(w0:World):Prop:=∀o∈l,∀(w:World) (L:List Ch),Hp w0 w [] L->Ret Tryz.prog 186 [o.data.v] w (GW w0 w)
theorem GX{I:Gl It}{w2:World}{T1 L:List Ch}(h:∀(w2:World) (L:List Ch),Hp w0 w2 [] L->T1.Sublist L->I.ok mI 35 w2)(H:Hp w0 w2 [] L)(hs:T1.Sublist L:=by repeat (first|exact pS _|refine List.Sublist.cons _ ?_)):I.ok mI 35 w2:=h w2 L H hs
theorem Ts{l:List Ob}{F:A8->Option RO}(h:FD l F)(ho:∀o∈l,o.data.ok w/\o.data.len<=1048576)(k:A8):((F k).getD D4).data.ok w/\((F k).getD D4).data.len<=1048576:=by
 cases hf:F k with
|none=>exact⟨Sl.ok_nil _,by simp[D4]⟩
|some v=>
  obtain⟨o,h1,_,h3⟩:=xY (GP h hf)
  show v.data.ok w/\v.data.len<=1048576
  rw[<-h3];exact ho o h1
theorem Tt{l:List Ob}{F:A8->Option RO}(hT:HT l w0)(h:FD l F){x:A8}(hx:(F x).isSome=true)(H:Hp w0 w [] L):Ret Tryz.prog 186 [((F x).getD D4).data.v] w (GW w0 w):=by
 obtain⟨v,hv⟩:=gW.1 hx
 obtain⟨o,h1,_,h3⟩:=xY (GP h hv)
 rw[hv]
 show Ret Tryz.prog 186 [v.data.v] w (GW w0 w)
 rw[<-h3]
 exact hT o h1 w L H
theorem Tu{t:List A8}{x:A8}(h:t[((t.length:Int)-1).toNat]? =some x):t=t.take (t.length-1)++[x]:=by
 have e:((t.length:Int)-1).toNat=t.length-1:=by omega
 rw[e]at h
 have hlt:=(N0.1 h).1
 rw[<-MZ h,V7 zO]
theorem Tv(w0:World)(r:Gl A8)(hr:r.ok C2 32 w0)(hm:r.len<=4194304):
 Ret Tryz.prog 196 [r.v] w0 fun v w'=>∃a c,v=.slice (hd a) r.l.length c/\Hp w0 w' [] [.own a r.l.length c (r.l.flatMap C2) 34 32]:=by
 refine T4 Tryz.func196 rfl Tryz.ntmps196 (by simp) ?_
 have H:=Hp.refl w0 []
 have qD:=hr.ln
 refine rG ?_;refine aZ ?_;refine eN ?_
 refine rG ?_;refine B9 ?_;refine lV (Rc Tryz.underlying181 zK rfl rfl) ?_;refine eN ?_
 have hc10:=IC (r.a.isNone)
 rcases hc10 with hc1|hc1
 ·
  repeat refine D9 ?_
  refine bU (by exact congrArg Value.bool hc1) ?_;refine rG ?_;refine aZ ?_;refine eN ?_
  refine l9 ?_
  refine v8 (v:=.slice none 0 0) Tryz.results196 rfl ?_
  refine⟨_,rfl,?_⟩
  have h0:r.a=none:=by have:=(hc1);simpa using this
  have aM:r.l=[]:=by rcases hr.rd with h|⟨b,o,C,T,fr,ha,_⟩;(cases hl:r.l with|nil=>rfl|cons x xs=>rw[hl,gX]at h;have:=congrArg List.length h;simp[aC]at this);rw[h0]at ha;cases ha
  rw[aM]
  exact⟨none,0,rfl,H.nilEnd 34 32⟩
 ·
  repeat refine D9 ?_
  refine bV (by exact congrArg Value.bool hc1) ?_;refine M5 ?_;refine rG ?_;refine A3 (Qo (α:=A8) (enc:=C2) H oC aR (by decide) (fun b2 w H U1=>?_));replace H:Hp _ w _ ([.own (some b2) 0 0 ((([]:List A8)).flatMap C2) 34 32]):=H
  refine B9 ?_;refine A3 (GG (enc:=C2) (s:=r) (l':=r.l) (len':=r.len) rfl (J3 _) H (i:=0) rfl oC Tryz.underlying181 rfl rfl (hr.up H) (by decide) (fun c _=>tO c) zO (by decide) (fun a3 c4 w H=>?_));replace H:Hp _ w _ ([.own a3 r.len c4 ((r.l).flatMap C2) 34 32]):=H
  refine aZ ?_;refine eN ?_
  refine l9 ?_
  refine v8 (v:=.slice (hd a3) r.len c4) Tryz.results196 rfl ?_
  refine⟨_,rfl,?_⟩
  rw[hr.ln]
  exact⟨_,_,rfl,H.sub (.cons_cons _ (P6 _))⟩
theorem YO{F:A8->Option RO}{x:A8}(h:(F x).isSome=true):F x=some ((F x).getD D4):=by
 obtain⟨v,hv⟩:=gW.1 h
 rw[hv];rfl
theorem YP(w0:World)(g:Gl Ob)(hg:g.ok tP 33 w0)(ho:∀o∈g.l,o.data.ok w0/\o.data.len<=1048576)(hgm:g.len<=65536)(r:Gl A8)(hr:r.ok C2 32 w0)(hrm:r.len<=65536)(hT:HT g.l w0):
 Ret Tryz.prog 173 [g.v,r.v] w0 fun v w'=>∃b M c F,v=.map (some b)/\MIs f8 M F/\MOk M c/\FD g.l F/\Hp w0 w' [] [.obj b (B8 kA M c)]:=by
 refine T4 Tryz.func173 rfl Tryz.ntmps173 (by simp) ?_
 have H:=Hp.refl w0 []
 have hgl:=hg.ln
 have qD:=hr.ln
 refine rG ?_;refine aZ ?_;refine eN ?_
 refine rG ?_;refine A3 (Qt kA H (fun b1 w H P8=>?_));replace H:Hp _ w _ ([.obj b1 (B8 kA ([]:List (A8×Value×Nat)) 0)]):=H
 refine aZ ?_;refine eN ?_
 refine rG ?_;refine B9 ?_;refine lV (z6 OZ rfl) ?_;refine B9 ?_;refine eN ?_
 refine qB ?_;repeat refine D9 ?_
 refine UT (fun(i:Nat) (M:List (A8×Value×Nat)) (c:Nat) (F:A8->Option RO)=>[(1,r.v),(5,.map (some b1)),(19,g.v),(20,VI (g.len:Int)),(21,VI (i:Int))])
  (fun(i:Nat) (M:List (A8×Value×Nat)) (c:Nat) (F:A8->Option RO) w=>(i<=g.len/\MIs f8 M F/\MOk M c/\F=cJ (g.l.take i))/\Hp w0 w [] ([.obj b1 (B8 kA M c)]))
  (fun(i:Nat) (M:List (A8×Value×Nat)) (c:Nat) (F:A8->Option RO)=>g.len-i) 0 ([]) 0 (fun _=>none) ⟨rfl,rfl,rfl,rfl,rfl,zT⟩ ⟨⟨L8 _,MIs.nil,MOk.nil,rfl⟩,H⟩ ?_
 clear H
 rintro i M c F τ w ⟨⟨hil,hF,hM,hFd⟩,H⟩
 refine rG ?_;refine lV (D2 (a:=(i:Int)) (b:=(g.len:Int)) rfl rfl (fun _=>y8)) ?_;refine eN ?_
 by_cases W3:(i:Int)<(g.len:Int)
 ·
  repeat refine D9 ?_
  refine bU (by exact bT W3) ?_;refine M5 ?_;refine qB ?_;refine rG ?_;have iF:=((hg.up H)).addr (by decide) (by first|omega|(dsimp only;omega))
  obtain⟨ab3,ao4,iF⟩:=iF
  refine lV (kK i rfl rfl OZ iF zO (by (try simp only[Sl.cut]);omega)) ?_;have qR:∃c,g.l[i]? =some c:=⟨_,B7 (by have:=((hg.up H)).ln;(try dsimp only at this ⊢);omega)⟩
  obtain⟨e6,qR⟩:=qR
  have hez8:=((hg.up H)).sz e6 (E3 qR)
  have hod_e6:=(ho e6 (E3 qR)).1
  have hodl_e6:=(ho e6 (E3 qR)).2
  refine lV (ML (s:=g) (k:=i) (hg.up H) iF rfl Cr (by decide) qR) ?_;refine A3 (W8 H Ct (fun b9 w H hb9=>?_));replace H:Hp _ w _ ([_,.blk b9 ((replicate 32 (0:UInt8)).map V8++(([.slice none 0 0]:List Value))) 234]):=H
  refine A3 (GF (C':=(e6.of.1).map V8++(([e6.data.v]:List Value))) H (i:=1) rfl rfl rfl Cs (by first|(simp[V8,Value.oneCell',Sl.v,Gl.v,uH,uI];done)|(simp only[uH,uA,List.all_nil,uI];simp[Value.oneCell',Function.comp_def])) (by simp only[D0,J5,I6,S0,(show(replicate 32 (0:UInt8)).length=32 from(jK ..))]) (by simp only[D0,J5,I6,S0,(show(e6.of.1).length=32 from e6.of.2)]) (fun w H=>?_));replace H:Hp _ w _ ([_,.blk b9 ((e6.of.1).map V8++(([e6.data.v]:List Value))) 234]):=H
  refine eN ?_
  refine rG ?_;refine B9 ?_;refine lV (eJ rfl PA) ?_;refine lV (MQ H (i:=1) rfl rfl aQ (show Cut3 ((e6.of.1).map V8++(([e6.data.v]:List Value))) (([]:List Value)) ((e6.of.1).map V8) (([e6.data.v]:List Value)) 0 32 from⟨(show(e6.of.1).map V8++(([e6.data.v]:List Value))=([]:List Value)++(((e6.of.1).map V8)++(([e6.data.v]:List Value))) from by simp only[I0,t6,Y3]),(by rfl),(by simp only[D0,J5,I6,S0,(show(e6.of.1).length=32 from e6.of.2)])⟩)) ?_;refine lV (WY (k:=e6.of) D4 hF H (i:=0) rfl Tryz.underlying241 BH MY rfl rfl) ?_;refine B9 ?_;refine lV (bZ rfl rfl) ?_;refine lV (bZ rfl rfl) ?_;refine A3 (W8 H JH (fun b10 w H hb10=>?_));replace H:Hp _ w _ ([_,_,.blk b10 (([.slice none 0 0,.bool false]:List Value)) 262]):=H
  refine A3 (GF (C':=([(((F e6.of).getD D4).data).v,.bool (((F e6.of).getD D4).hit)]:List Value)) H (i:=2) rfl rfl rfl PH (by first|(simp[V8,Value.oneCell',Sl.v,Gl.v,uH,uI];done)|(simp only[uH,uA,List.all_nil,uI];simp[Value.oneCell',Function.comp_def])) (by rfl) (by rfl) (fun w H=>?_));replace H:Hp _ w _ ([_,_,.blk b10 (([(((F e6.of).getD D4).data).v,.bool (((F e6.of).getD D4).hit)]:List Value)) 262]):=H
  refine aZ ?_;refine eN ?_
  refine rG ?_;refine B9 ?_;refine lV (zF rfl) ?_;refine eN ?_
  have hc110:=IC ((F e6.of).isSome)
  rcases hc110 with hc11|hc11
  ·
   repeat refine D9 ?_
   refine bV (by exact congrArg Value.bool (congrArg not hc11)) ?_;refine M5 ?_;refine rG ?_;refine lV (D2 (a:=(i:Int)) (b:=1) rfl rfl (fun _=>Z7 zO zO)) ?_;refine B9 ?_;refine eN ?_
   refine U4 (i+1,M,c,F) ?_ ?_ ?_
   ·exact⟨rfl,rfl,rfl,rfl,show VI ((i:Int)+1)=VI ((i+1:Nat):Int) from congrArg VI zO,zT⟩
   ·refine⟨?_,?_⟩
    ·try dsimp only
     exact⟨zO,hF,hM,by rw[MZ qR,hFd]at *;exact Tr hc11⟩
    ·exact H.sub (.cons_cons _ (P6 _))
   ·show g.len-(i+1:Nat)<g.len-i;omega
  ·
   repeat refine D9 ?_
   refine bU (by exact congrArg Value.bool (congrArg not hc11)) ?_;refine rG ?_;refine B9 ?_;refine lV (eJ rfl PA) ?_;refine lV (MQ H (i:=1) rfl rfl aQ (show Cut3 ((e6.of.1).map V8++(([e6.data.v]:List Value))) (([]:List Value)) ((e6.of.1).map V8) (([e6.data.v]:List Value)) 0 32 from⟨(show(e6.of.1).map V8++(([e6.data.v]:List Value))=([]:List Value)++(((e6.of.1).map V8)++(([e6.data.v]:List Value))) from by simp only[I0,t6,Y3]),(by rfl),(by simp only[D0,J5,I6,S0,(show(e6.of.1).length=32 from e6.of.2)])⟩)) ?_;refine lV (eJ rfl Cu) ?_;refine lV (MO (v:=e6.data.v) H (i:=1) rfl rfl DH (show Cut3 ((e6.of.1).map V8++(([e6.data.v]:List Value))) ((e6.of.1).map V8) (([e6.data.v]:List Value)) (([]:List Value)) 32 1 from⟨(show(e6.of.1).map V8++(([e6.data.v]:List Value))=((e6.of.1).map V8)++((([e6.data.v]:List Value))++(([]:List Value))) from by simp only[I0,t6,Y3]),(by simp only[D0,J5,I6,S0,(show(e6.of.1).length=32 from e6.of.2)]),(by rfl)⟩)) ?_;refine lV (Qz (Z:=([.slice none 0 0,.bool false]:List Value)) (E:=([e6.data.v,.bool false]:List Value)) (pv:=[(0,e6.data.v)]) De rfl rfl (.cons (A:=([]:List Value)) (B:=([.slice none 0 0]:List Value)) (D:=([.bool false]:List Value)) (V:=([e6.data.v]:List Value)) (a:=0) (b:=1) rfl (show Cut3 (([.slice none 0 0,.bool false]:List Value)) (([]:List Value)) (([.slice none 0 0]:List Value)) (([.bool false]:List Value)) 0 1 from⟨(show([.slice none 0 0,.bool false]:List Value)=([]:List Value)++((([.slice none 0 0]:List Value))++(([.bool false]:List Value))) from by simp only[I0,t6,Y3]),(by rfl),(by rfl)⟩) (by rfl) (by rfl) ((show([e6.data.v,.bool false]:List Value)=([]:List Value)++((([e6.data.v]:List Value))++(([.bool false]:List Value))) from by simp only[I0,t6,Y3])▸.nil _))) ?_;refine A3 (WX (kv:=kA) (k:=e6.of) (v:=f8 (⟨e6.data,false⟩:RO)) H (i:=0) rfl Tryz.underlying241 BH rfl rfl rfl (fun w H=>?_));replace H:Hp _ w _ ([.obj b1 (B8 kA (K3 e6.of (f8 (⟨e6.data,false⟩:RO)) c M) (f7 M e6.of c)),_,_]):=H
   refine eN ?_
   refine rG ?_;refine lV (D2 (a:=(i:Int)) (b:=1) rfl rfl (fun _=>Z7 zO zO)) ?_;refine B9 ?_;refine eN ?_
   refine U4 (i+1,K3 e6.of (f8 (⟨e6.data,false⟩:RO)) c M,f7 M e6.of c,bA F e6.of (⟨e6.data,false⟩:RO)) ?_ ?_ ?_
   ·exact⟨rfl,rfl,rfl,rfl,show VI ((i:Int)+1)=VI ((i+1:Nat):Int) from congrArg VI zO,zT⟩
   ·refine⟨?_,?_⟩
    ·try dsimp only
     exact⟨zO,(hF.put e6.of (⟨e6.data,false⟩:RO) c),(hM.put e6.of (f8 (⟨e6.data,false⟩:RO))),by rw[MZ qR,hFd]at *;exact Tq hc11⟩
    ·exact H.sub (.cons_cons _ (P6 _))
   ·show g.len-(i+1:Nat)<g.len-i;omega
 ·
  repeat refine D9 ?_
  refine bV (by exact bF W3) ?_;refine W7 ?_;refine rG ?_;refine B9 ?_;refine A3 (N4 Tryz.func196 rfl rfl rfl (Tv _ r (hr.up H) (by (try dsimp only);omega)) ?_);rintro _ w ⟨a12,c13,rfl,Hc⟩
  replace H:Hp _ w _ ([_,.own a12 r.l.length c13 ((r.l).flatMap C2) 34 32]):=H.call Hc
  clear Hc
  refine aZ ?_;refine eN ?_
  refine qB ?_;repeat refine D9 ?_
  refine Qr (fun(t:List A8) (M:List (A8×Value×Nat)) (c:Nat) (F:A8->Option RO) (a:Option Nat) (k:Nat)=>[(5,.map (some b1)),(10,.slice (hd a) t.length k)])
   (fun(t:List A8) (M:List (A8×Value×Nat)) (c:Nat) (F:A8->Option RO) (a:Option Nat) (k:Nat) w=>(MIs f8 M F/\MOk M c/\FD g.l F/\t.length+64*unh g.l F<=r.len+64*g.len)/\Hp w0 w [] ([.obj b1 (B8 kA M c),.own a t.length k ((t).flatMap C2) 34 32]))
   (fun(t:List A8) (M:List (A8×Value×Nat)) (c:Nat) (F:A8->Option RO) (a:Option Nat) (k:Nat)=>65*unh g.l F+t.length) r.l M c F a12 c13 ⟨rfl,rfl,zT⟩ ⟨⟨hF,hM,by rw[hFd,V7 zO];exact FD.start,by have:=List.length_filter_le (dQ F) g.l;rw[hr.ln];simp only[unh];omega⟩,(H.sub (.cons_cons _ (.cons_cons _ (P6 _))))⟩ ?_
  clear H
  rintro t M c F a k τ w ⟨⟨hF,hM,vL,htb⟩,H⟩
  have hFd:=fun k=>Ts vL ho k
  refine rG ?_;refine B9 ?_;refine lV (z6 zI rfl) ?_;refine lV (D2 (a:=(t.length:Int)) (b:=0) rfl rfl (fun _=>yW)) ?_;refine eN ?_
  by_cases hc14:0<(t.length:Int)
  ·
   repeat refine D9 ?_
   refine bU (by exact bT hc14) ?_;refine M5 ?_;refine qB ?_;refine rG ?_;refine B9 ?_;refine B9 ?_;refine lV (z6 zI rfl) ?_;refine lV (D2 (a:=(t.length:Int)) (b:=1) rfl rfl (fun _=>fS zO zO)) ?_;have ah16:=H.ownAddr (i:=1) rfl zO
   obtain⟨ab15,ah16⟩:=ah16
   refine lV (kK (((t.length:Int)-1).toNat) rfl rfl zI ah16 zO (by (try simp only[Sl.cut]);omega)) ?_;have he18:∃c,(t)[((t.length:Int)-1).toNat]? =some c:=⟨_,B7 (by have:=((H.glOwn (i:=1) rfl (by decide) (fun c _=>aC c))).ln;(try dsimp only at this ⊢);omega)⟩
   obtain⟨C7,he18⟩:=he18
   have hez19:=((H.glOwn (i:=1) rfl (by decide) (fun c _=>aC c))).sz C7 (E3 he18)
   refine lV (ML (s:=(⟨hd a,t.length,k,t⟩:Gl A8)) (k:=((t.length:Int)-1).toNat) (H.glOwn (i:=1) rfl (by decide) (fun c _=>aC c)) ah16 rfl aQ (by decide) he18) ?_;refine A3 (W8 H aR (fun nM w H hb20=>?_));replace H:Hp _ w _ ([_,_,.blk nM ((replicate 32 (0:UInt8)).map V8) 34]):=H
   refine A3 (mH (l':=C7.1) H (i:=2) rfl rfl rfl iQ (show(replicate 32 (0:UInt8)).length=32 from(jK ..)) (show(C7.1).length=32 from C7.2) (fun w H=>?_));replace H:Hp _ w _ ([_,_,.blk nM ((C7.1).map V8) 34]):=H
   refine eN ?_
   have fP:=Tu he18
   have htl:(t.take (t.length-1)).length=t.length-1:=by rw[F7];omega
   refine rG ?_;refine B9 ?_;refine B9 ?_;refine lV (z6 zI rfl) ?_;refine lV (D2 (a:=(t.length:Int)) (b:=1) rfl rfl (fun _=>fS zO zO)) ?_;have hol21:=(H.ownLen (i:=1) rfl).2.1
   refine lV (Ok (h:=(t.take (t.length-1)).length) (m:=k) (hv:=some (VI ((t.length:Int)-1))) rfl zI rfl rfl rfl (fun w=>by exact Ol (t.take (t.length-1)).length zO zO w)) ?_;refine aZ ?_;refine eN ?_
   have Hs:=H.shrink (i:=1) (t.length-1) rfl aC zO
   replace H:Hp w0 w [] [.obj b1 (B8 kA M c),.own a ((t.take (t.length-1)).length) k ((t.take (t.length-1)).flatMap C2) 34 32,.blk nM ((C7.1).map V8) 34]:=by rw[htl];exact Hs
   clear Hs
   replace H:Hp _ w _ ([_,.own a ((t.take (t.length-1)).length) k ((t.take (t.length-1)).flatMap C2) 34 32,_]):=H
   refine rG ?_;refine B9 ?_;refine lV (tB (l:=C7.1) H (i:=2) rfl rfl aQ (show(C7.1).length=32 from C7.2)) ?_;refine lV (WY (k:=C7) D4 hF H (i:=0) rfl Tryz.underlying241 BH MY rfl rfl) ?_;refine B9 ?_;refine lV (bZ rfl rfl) ?_;refine lV (bZ rfl rfl) ?_;refine A3 (W8 H JH (fun nN w H hb22=>?_));replace H:Hp _ w _ ([_,_,_,.blk nN (([.slice none 0 0,.bool false]:List Value)) 262]):=H
   refine A3 (GF (C':=([(((F C7).getD D4).data).v,.bool (((F C7).getD D4).hit)]:List Value)) H (i:=3) rfl rfl rfl PH (by first|(simp[V8,Value.oneCell',Sl.v,Gl.v,uH,uI];done)|(simp only[uH,uA,List.all_nil,uI];simp[Value.oneCell',Function.comp_def])) (by rfl) (by rfl) (fun w H=>?_));replace H:Hp _ w _ ([_,_,_,.blk nN (([(((F C7).getD D4).data).v,.bool (((F C7).getD D4).hit)]:List Value)) 262]):=H
   refine aZ ?_;refine eN ?_
   refine rG ?_;refine B9 ?_;refine lV (zF rfl) ?_;refine B9 ?_;have hc230:=IC ((F C7).isSome)
   rcases hc230 with hc23|hc23
   ·
    refine bR rfl rfl (by exact congrArg Value.bool (congrArg not hc23)) (G6 (eJ rfl PI) ?_);refine bR rfl rfl (by exact congrArg Value.bool (congrArg not hc23)) (G6 (MO (v:=.bool (((F C7).getD D4).hit)) H (i:=3) rfl rfl DG (show Cut3 (([(((F C7).getD D4).data).v,.bool (((F C7).getD D4).hit)]:List Value)) (([(((F C7).getD D4).data).v]:List Value)) (([.bool (((F C7).getD D4).hit)]:List Value)) (([]:List Value)) 1 1 from⟨(show([(((F C7).getD D4).data).v,.bool (((F C7).getD D4).hit)]:List Value)=([(((F C7).getD D4).data).v]:List Value)++((([.bool (((F C7).getD D4).hit)]:List Value))++(([]:List Value))) from by simp only[I0,t6,Y3]),(by rfl),(by rfl)⟩)) ?_);refine lV (vX (b:=false) (congrArg Value.bool (congrArg not hc23))) ?_;refine eN ?_
    have hc240:=IC (((F C7).getD D4).hit)
    rcases hc240 with hc24|hc24
    ·
     repeat refine D9 ?_
     refine bU (by exact congrArg Value.bool hc24) ?_;refine W7 ?_;refine U4 (t.take (t.length-1),M,c,F,a,k) ?_ ?_ ?_
     ·exact⟨rfl,rfl,zT⟩
     ·refine⟨?_,?_⟩
      ·try dsimp only
       exact⟨hF,hM,vL,by rw[F7];omega⟩
      ·exact H.sub (.cons_cons _ (.cons_cons _ (P6 _)))
     ·show 65*unh g.l F+(t.take (t.length-1)).length<65*unh g.l F+t.length;rw[F7];omega
    ·
     repeat refine D9 ?_
     refine bV (by exact congrArg Value.bool hc24) ?_;refine M5 ?_;refine rG ?_;refine lV (eJ rfl PI) ?_;refine A3 (Rb (u:=.bool true) H (i:=3) rfl rfl rfl Cj rfl (show Cut3 (([(((F C7).getD D4).data).v,.bool (((F C7).getD D4).hit)]:List Value)) (([(((F C7).getD D4).data).v]:List Value)) (([.bool (((F C7).getD D4).hit)]:List Value)) (([]:List Value)) 1 1 from⟨(show([(((F C7).getD D4).data).v,.bool (((F C7).getD D4).hit)]:List Value)=([(((F C7).getD D4).data).v]:List Value)++((([.bool (((F C7).getD D4).hit)]:List Value))++(([]:List Value))) from by simp only[I0,t6,Y3]),(by rfl),(by rfl)⟩) (fun w H=>?_))
     rw[show([(((F C7).getD D4).data).v]:List Value)++(([.bool true]:List Value)++(([]:List Value)))=([(((F C7).getD D4).data).v,.bool true]:List Value) from by simp only[I0,t6,Y3]]at H
     replace H:Hp _ w _ ([_,_,_,.blk nN (([(((F C7).getD D4).data).v,.bool true]:List Value)) 262]):=H
     refine eN ?_
     refine rG ?_;refine B9 ?_;refine lV (tB (l:=C7.1) H (i:=2) rfl rfl aQ (show(C7.1).length=32 from C7.2)) ?_;refine lV (UL (C:=([(((F C7).getD D4).data).v,.bool true]:List Value)) H (i:=3) rfl rfl Db (by rfl)) ?_;refine A3 (WX (kv:=kA) (k:=C7) (v:=f8 (⟨(((F C7).getD D4).data),true⟩:RO)) H (i:=0) rfl Tryz.underlying241 BH rfl rfl rfl (fun w H=>?_));replace H:Hp _ w _ ([.obj b1 (B8 kA (K3 C7 (f8 (⟨(((F C7).getD D4).data),true⟩:RO)) c M) (f7 M C7 c)),_,_,_]):=H
     refine eN ?_
     refine rG ?_;refine lV (eJ rfl Dc) ?_;refine lV (MO (v:=(((F C7).getD D4).data).v) H (i:=3) rfl rfl DH (show Cut3 (([(((F C7).getD D4).data).v,.bool true]:List Value)) (([]:List Value)) (([(((F C7).getD D4).data).v]:List Value)) (([.bool true]:List Value)) 0 1 from⟨(show([(((F C7).getD D4).data).v,.bool true]:List Value)=([]:List Value)++((([(((F C7).getD D4).data).v]:List Value))++(([.bool true]:List Value))) from by simp only[I0,t6,Y3]),(by rfl),(by rfl)⟩)) ?_;refine A3 (N4 Tryz.func186 rfl rfl rfl (Tt hT vL hc23 H) ?_);rintro _ w ⟨I25,e26,T27,rfl,hIn28,hIl29,hIo30,Hc⟩
     replace H:Hp _ w _ (Ch.obj b1 (B8 kA (K3 C7 (f8 (⟨(((F C7).getD D4).data),true⟩:RO)) c M) (f7 M C7 c))::Ch.own a ((t.take (t.length-1)).length) k ((t.take (t.length-1)).flatMap C2) 34 32::Ch.blk nM ((C7.1).map V8) 34::Ch.blk nN (([(((F C7).getD D4).data).v,.bool true]:List Value)) 262::T27):=H.call Hc
     clear Hc
     refine B9 ?_;refine lV (bZ rfl rfl) ?_;refine lV (bZ rfl rfl) ?_;refine aZ ?_;refine aZ ?_;refine eN ?_
     refine rG ?_;refine B9 ?_;refine lV (z6 OX rfl) ?_;refine B9 ?_;refine eN ?_
     refine qB ?_;repeat refine D9 ?_
     refine UT (fun(j:Nat) (u:List A8) (a2:Option Nat) (k2:Nat)=>[(5,.map (some b1)),(10,.slice (hd a2) u.length k2),(79,I25.v),(80,VI (I25.len:Int)),(81,VI (j:Int))])
      (fun(j:Nat) (u:List A8) (a2:Option Nat) (k2:Nat) w=>(j<=I25.len/\u.length=t.length-1+j)/\Hp w0 w [] (Ch.obj b1 (B8 kA (K3 C7 (f8 (⟨(((F C7).getD D4).data),true⟩:RO)) c M) (f7 M C7 c))::Ch.own a2 u.length k2 ((u).flatMap C2) 34 32::Ch.blk nM ((C7.1).map V8) 34::Ch.blk nN (([(((F C7).getD D4).data).v,.bool true]:List Value)) 262::T27))
      (fun(j:Nat) (u:List A8) (a2:Option Nat) (k2:Nat)=>I25.len-j) 0 (t.take (t.length-1)) a k ⟨rfl,rfl,rfl,rfl,rfl,zT⟩ ⟨⟨L8 _,by rw[F7];omega⟩,H⟩ ?_
     clear H
     rintro j u a2 k2 τ w ⟨⟨hj,hu⟩,H⟩
     refine rG ?_;refine lV (D2 (a:=(j:Int)) (b:=(I25.len:Int)) rfl rfl (fun _=>y8)) ?_;refine eN ?_
     by_cases hc31:(j:Int)<(I25.len:Int)
     ·
      repeat refine D9 ?_
      refine bU (by exact bT hc31) ?_;refine M5 ?_;refine qB ?_;refine rG ?_;have ah34:=((GX hIo30 H)).addr (by decide) (by first|omega|(dsimp only;omega))
      obtain⟨ab32,ao33,ah34⟩:=ah34
      refine lV (kK j rfl rfl OX ah34 zO (by (try simp only[Sl.cut]);omega)) ?_;have he36:∃c,I25.l[j]? =some c:=⟨_,B7 (by have:=((GX hIo30 H)).ln;(try dsimp only at this ⊢);omega)⟩
      obtain⟨I8,he36⟩:=he36
      have hez37:=((GX hIo30 H)).sz I8 (E3 he36)
      refine lV (ML (s:=I25) (k:=j) (GX hIo30 H) ah34 rfl Cl (by decide) he36) ?_;refine A3 (W8 H Cn (fun b38 w H hb38=>?_));replace H:=H.rot
      replace H:Hp _ w _ (Ch.blk b38 (([.string ⟨(([]:List UInt8)).toArray⟩,VI 0]:List Value)++((replicate 32 (0:UInt8)).map V8++(([VI 0]:List Value)))) 156::Ch.obj b1 (B8 kA (K3 C7 (f8 (⟨(((F C7).getD D4).data),true⟩:RO)) c M) (f7 M C7 c))::Ch.own a2 u.length k2 ((u).flatMap C2) 34 32::Ch.blk nM ((C7.1).map V8) 34::Ch.blk nN (([(((F C7).getD D4).data).v,.bool true]:List Value)) 262::T27):=H
      refine A3 (GF (C':=([.string ⟨(I8.name).toArray⟩,VI I8.kind]:List Value)++((I8.of.1).map V8++(([VI I8.size]:List Value)))) H (i:=0) rfl rfl rfl Cm (by first|(simp[V8,Value.oneCell',Sl.v,Gl.v,uH,uI];done)|(simp only[uH,uA,List.all_nil,uI];simp[Value.oneCell',Function.comp_def])) (by simp only[D0,J5,I6,S0,(show(replicate 32 (0:UInt8)).length=32 from(jK ..))]) (by simp only[D0,J5,I6,S0,(show(I8.of.1).length=32 from I8.of.2)]) (fun w H=>?_));replace H:Hp _ w _ (Ch.blk b38 (([.string ⟨(I8.name).toArray⟩,VI I8.kind]:List Value)++((I8.of.1).map V8++(([VI I8.size]:List Value)))) 156::Ch.obj b1 (B8 kA (K3 C7 (f8 (⟨(((F C7).getD D4).data),true⟩:RO)) c M) (f7 M C7 c))::Ch.own a2 u.length k2 ((u).flatMap C2) 34 32::Ch.blk nM ((C7.1).map V8) 34::Ch.blk nN (([(((F C7).getD D4).data).v,.bool true]:List Value)) 262::T27):=H
      refine eN ?_
      refine rG ?_;refine B9 ?_;refine lV (eJ rfl Co) ?_;refine lV (MQ H (i:=0) rfl rfl aQ (show Cut3 (([.string ⟨(I8.name).toArray⟩,VI I8.kind]:List Value)++((I8.of.1).map V8++(([VI I8.size]:List Value)))) (([.string ⟨(I8.name).toArray⟩,VI I8.kind]:List Value)) ((I8.of.1).map V8) (([VI I8.size]:List Value)) 2 32 from⟨(show([.string ⟨(I8.name).toArray⟩,VI I8.kind]:List Value)++((I8.of.1).map V8++(([VI I8.size]:List Value)))=([.string ⟨(I8.name).toArray⟩,VI I8.kind]:List Value)++(((I8.of.1).map V8)++(([VI I8.size]:List Value))) from by simp only[I0,t6,Y3]),(by rfl),(by simp only[D0,J5,I6,S0,(show(I8.of.1).length=32 from I8.of.2)])⟩)) ?_;refine A3 (MM (enc:=C2) (I8.of) H oC aR (by rfl) (by decide) (by decide) rfl (aC _) (fun b39 w H hb39=>?_));replace H:=H.rot
      replace H:Hp _ w _ (Ch.own (some b39) 1 1 (([I8.of]).flatMap C2) 34 32::Ch.blk b38 (([.string ⟨(I8.name).toArray⟩,VI I8.kind]:List Value)++((I8.of.1).map V8++(([VI I8.size]:List Value)))) 156::Ch.obj b1 (B8 kA (K3 C7 (f8 (⟨(((F C7).getD D4).data),true⟩:RO)) c M) (f7 M C7 c))::Ch.own a2 u.length k2 ((u).flatMap C2) 34 32::Ch.blk nM ((C7.1).map V8) 34::Ch.blk nN (([(((F C7).getD D4).data).v,.bool true]:List Value)) 262::T27):=H
      have hu1:(u++([I8.of])).length=u.length+1:=by rw[D0];rfl
      refine A3 (GG (enc:=C2) (s:=⟨hd (some b39),1,1,[I8.of]⟩) (l':=u++([I8.of])) (len':=(u++([I8.of])).length) rfl (by rw[D0];rfl) H (i:=3) rfl oC Tryz.underlying181 rfl rfl (H.glOwn (i:=0) rfl (by decide) (fun c _=>aC c)) (by decide) (fun c _=>tO c) zO (by decide) (fun a40 c41 w H=>?_));replace H:Hp _ w _ (Ch.own (some b39) 1 1 (([I8.of]).flatMap C2) 34 32::Ch.blk b38 (([.string ⟨(I8.name).toArray⟩,VI I8.kind]:List Value)++((I8.of.1).map V8++(([VI I8.size]:List Value)))) 156::Ch.obj b1 (B8 kA (K3 C7 (f8 (⟨(((F C7).getD D4).data),true⟩:RO)) c M) (f7 M C7 c))::Ch.own a40 ((u++([I8.of])).length) c41 ((u++([I8.of])).flatMap C2) 34 32::Ch.blk nM ((C7.1).map V8) 34::Ch.blk nN (([(((F C7).getD D4).data).v,.bool true]:List Value)) 262::T27):=H
      refine aZ ?_;refine eN ?_
      refine rG ?_;refine lV (D2 (a:=(j:Int)) (b:=1) rfl rfl (fun _=>Z7 zO zO)) ?_;refine B9 ?_;refine eN ?_
      refine U4 (j+1,u++([I8.of]),a40,c41) ?_ ?_ ?_
      ·exact⟨rfl,rfl,rfl,rfl,show VI ((j:Int)+1)=VI ((j+1:Nat):Int) from congrArg VI zO,zT⟩
      ·refine⟨?_,?_⟩
       ·try dsimp only
        exact⟨zO,by rw[D0];simp only[I6,S0];omega⟩
       ·exact H.sub (.cons _ (.cons _ (.cons_cons _ (.cons_cons _ (.cons_cons _ (.cons_cons _ (pS _)))))))
      ·show I25.len-(j+1:Nat)<I25.len-j;omega
     ·
      repeat refine D9 ?_
      refine bV (by exact bF hc31) ?_;refine W7 ?_;have hfx:=YO hc23
      have lD:=So vL hfx hc24
      refine U4 (u,K3 C7 (f8 (⟨(((F C7).getD D4).data),true⟩:RO)) c M,f7 M C7 c,bA F C7 (⟨(((F C7).getD D4).data),true⟩:RO),a2,k2) ?_ ?_ ?_
      ·exact⟨rfl,rfl,zT⟩
      ·refine⟨?_,?_⟩
       ·try dsimp only
        exact⟨(hF.put C7 (⟨(((F C7).getD D4).data),true⟩:RO) c),(hM.put C7 (f8 (⟨(((F C7).getD D4).data),true⟩:RO))),vL.hit hfx,zO⟩
       ·exact H.sub (.cons_cons _ (.cons_cons _ (P6 _)))
      ·show 65*unh g.l (bA F C7 (⟨(((F C7).getD D4).data),true⟩:RO))+u.length<65*unh g.l F+t.length;omega
   ·
    refine nP rfl rfl (by exact congrArg Value.bool (congrArg not hc23)) rfl ?_;refine nP rfl rfl (by exact congrArg Value.bool (congrArg not hc23)) rfl ?_;refine lV (vX (b:=true) (congrArg Value.bool (congrArg not hc23))) ?_;refine eN ?_
    refine qY ?_;refine W7 ?_;refine U4 (t.take (t.length-1),M,c,F,a,k) ?_ ?_ ?_
    ·exact⟨rfl,rfl,zT⟩
    ·refine⟨?_,?_⟩
     ·try dsimp only
      exact⟨hF,hM,vL,by rw[F7];omega⟩
     ·exact H.sub (.cons_cons _ (.cons_cons _ (P6 _)))
    ·show 65*unh g.l F+(t.take (t.length-1)).length<65*unh g.l F+t.length;rw[F7];omega
  ·
   repeat refine D9 ?_
   refine bV (by exact bF hc14) ?_;refine W7 ?_;refine rG ?_;refine B9 ?_;refine aZ ?_;refine eN ?_
   refine l9 ?_
   refine v8 (v:=.map (some b1)) Tryz.results173 rfl ?_
   refine⟨_,rfl,?_⟩
   have qH:t=[]:=List.eq_nil_of_length_eq_zero zO
   subst qH
   exact⟨_,M,c,F,rfl,hF,hM,vL,H.sub (.cons_cons _ (P6 _))⟩
section
variable {P:Program} {n:Nat} {σ:Nat->Value} {w:World} {ty:TypeId} {pos:String} {aft:Array Edge} {g:Option (Nat×Bool)} {d:Nat} {t:TypeId} {x:Operand}
theorem Tw{f:FuncId}{xs:Array Operand}(hx:rA n σ xs.toList=vs):(execOp (ev n σ) ⟨some d,.makeFunc (.func f) #[] xs,ty,pos,aft,g⟩).run P w=.ok (.value (.func (.func f) #[] vs.toArray)) w:=by
 have h:xs.map (ev n σ)=vs.toArray:=by apply U0;rw[<-hx,yU];simp
 simp[execOp,h,Instr.makeFunc]
end
def F1(F:A8->Option RO)(r:Bool)(k:A8):Bool:=((F k).getD D4).hit==r
def RisA(l:List A8):Prop:=l.Pairwise fun x y=>x.1<y.1
theorem YQ{l:List A8}(hn:l.Nodup):RisA (sortA l)/\∀x,x∈sortA l↔x∈l:=by
 have hp:(sortA l).Perm l:=List.mergeSort_perm _ _
 refine⟨?_,fun x=>hp.mem_iff⟩
 have B3:∀x y:A8,(!(decide (cO y x<0)))=true↔¬ y.1<x.1:=fun x y=>by
  rw[kS,decide_eq_false_iff_not]
  exact not_congr (MW _ _)
 have hs:(sortA l).Pairwise fun x y=>(!(decide (cO y x<0)))=true:=List.pairwise_mergeSort (fun x y z h1 h2=>by
   rw[B3] at*
   exact List.not_lt.2 (List.le_trans (List.not_lt.1 h1) (List.not_lt.1 h2))) (fun x y=>by
   rw[CH,B3,B3]
   by_cases h:y.1<x.1
   ·right;intro h2;exact XZ _ (YB h h2)
   ·exact .inl h) l
 have gY:(sortA l).Nodup:=hp.nodup_iff.2 hn
 refine(List.pairwise_and_iff.2 ⟨hs,gY⟩).imp fun {x y} h=>?_
 obtain⟨h1,h2⟩:=h
 rw[B3]at h1
 exact Decidable.byContradiction fun h3=>h2 (Subtype.ext (YA h3 h1))
theorem YR(F:A8->Option RO)(r:Bool)(A5:List A8)(k:A8):(A5++[k]).filter (F1 F r)=A5.filter (F1 F r)++(if F1 F r k then [k] else []):=by
 rw[List.filter_append];congr 1
 by_cases h:F1 F r k=true
 ·rw[if_pos h,OA h];rfl
 ·rw[if_neg h,NZ h];rfl
def NA(F:A8->Option RO)(r:Bool)(R:List A8):Prop:=RisA R/\∀k,k∈R↔∃v,F k=some v/\v.hit=r
theorem Tx{F:A8->Option RO}{r:Bool}{A5:List A8}(hn:A5.Nodup)(hv:∀k,k∈A5↔(F k).isSome=true):NA F r (sortA (A5.filter (F1 F r))):=by
 obtain⟨h1,h2⟩:=YQ (hn.filter (F1 F r))
 refine⟨h1,fun k=>?_⟩
 rw[h2,yO,hv]
 constructor
 ·rintro⟨h3,h4⟩
  exact⟨_,YO h3,by simpa [F1] using h4⟩
 ·rintro⟨v,h3,h4⟩
  exact⟨by rw[h3];rfl,by rw[F1,h3];simp[h4]⟩
theorem GY(l:List A8):(sortA l).length=l.length:=List.length_mergeSort _
theorem Ty(w0:World)(b:Nat):
  Ret Tryz.prog 194 [.map (some b)] w0 fun v w'=>∃bb,v=.func (.func 216) #[] #[.pointer (some ⟨bb,0,none⟩)]/\Hp w0 w' [] [.blk bb [.map (some b)] 241]:=by
 refine T4 Tryz.func194 rfl Tryz.ntmps194 (by simp) ?_
 have H:=Hp.refl w0 []
 refine rG ?_;refine A3 (zC (v:=.map (some b)) H rfl (fun b1 w H P8=>?_));replace H:Hp _ w _ ([.blk b1 ([.map (some b)]) 241]):=H
 refine aZ ?_;refine eN ?_
 refine rG ?_;refine lV (Tw (vs:=[.pointer (some ⟨b1,0,none⟩)]) rfl) ?_;refine aZ ?_;refine eN ?_
 refine l9 ?_
 refine v8 (v:=.func (.func 216) #[] #[.pointer (some ⟨b1,0,none⟩)]) Tryz.results194 rfl ?_
 refine⟨_,rfl,?_⟩
 exact⟨_,rfl,H⟩
theorem YS(w0:World)(b c:Nat)(M:List (A8×Value×Nat))(F:A8->Option RO)(r:Bool)(hF:MIs f8 M F)(hM:MOk M c)(hdb:(Ch.obj b (B8 kA M c)).ok w0)(lL:∀l:List A8,l.Nodup->(∀j∈l,(F j).isSome=true)->l.length<=65536):
 Ret Tryz.prog 172 [.map (some b),.bool r] w0 fun v w'=>∃a k R,NA F r R/\v=.slice (hd a) R.length k/\Hp w0 w' [b] [.obj b (B8 kA M c),.own a R.length k (R.flatMap C2) 34 32]:=by
 refine YK Tryz.func172 rfl Tryz.ntmps172 (by simp) ?_
 have H:=Hp.start w0 (.obj b (B8 kA M c)) b hdb rfl
 refine rG ?_;refine A3 (zC (v:=.map (some b)) H rfl (fun b1 w H P8=>?_));replace H:Hp _ w _ ([.obj b (B8 kA M c),.blk b1 ([.map (some b)]) 241]):=H
 refine A3 (zC (v:=.bool r) H rfl (fun b2 w H U1=>?_));replace H:Hp _ w _ ([_,_,.blk b2 ([.bool r]) 4]):=H
 refine aZ ?_;refine eN ?_
 refine rG ?_;refine A3 (W8 H Cp (fun b3 w H x7=>?_));replace H:Hp _ w _ ([_,_,_,.blk b3 ([.slice none 0 0]) 181]):=H
 refine eN ?_
 refine rG ?_;refine lV (Q4 H (i:=1) rfl rfl JG rfl) ?_;refine A3 (N4 Tryz.func194 rfl rfl rfl (Ty _ b) ?_);rintro _ w ⟨eB,rfl,Hc⟩
 replace H:Hp _ w _ ([_,_,_,_,.blk eB ([.map (some b)]) 241]):=H.call Hc
 clear Hc
 refine eN ?_
 refine qB ?_;replace H:=H.nilEnd 34 32
 refine YN (FX:=[.blk eB ([.map (some b)]) 241,.obj b (B8 kA M c)]) (Got:=fun kk aa=>F kk=some aa) (All:=fun A5=>A5.Nodup/\∀j,j∈A5↔(F j).isSome=true) (I:=fun(A5:List A8) (x:List A8×Option Nat×Nat)=>match x with|(B1,a,k)=>B1=A5/\B1.Nodup/\(∀j∈B1,(F j).isSome=true)) (x0:=([],none,0)) (itC:=fun it A5=>Ch.obj it (T7 b M c A5)) (kv:=kA) Tryz.func216 rfl rfl (fun Lv l w1 H1 hY=>(Ti hM hF Lv (fun(A5:List A8) (x:List A8×Option Nat×Nat)=>match x with|(B1,a,k)=>B1=A5/\B1.Nodup/\(∀j∈B1,(F j).isSome=true)) ([],none,0) ⟨rfl,List.nodup_nil,fun _ h=>(by cases h)⟩ H1 (fun it A5 x kk aa W hI hf hk _ _ HW=>hY it A5 x kk aa W hI hf hk HW)).mono (fun _ _ ⟨A5,x,h1,h2,h3,h4⟩=>⟨A5,x,h1,⟨h2,h3⟩,h4⟩)) rfl (fun x:List A8×Option Nat×Nat=>match x with|(B1,a,k)=>[.blk b3 ([.slice (hd a) ((B1.filter (F1 F r)).length) k]) 181,.own a ((B1.filter (F1 F r)).length) k ((B1.filter (F1 F r)).flatMap C2) 34 32,.blk b2 ([.bool r]) 4,.blk b1 ([.map (some b)]) 241]) (H.permL ((xU (j:=4) rfl).trans (.cons _ ((xU (j:=0) rfl).trans (.cons _ ((xU (j:=2) rfl).trans (.cons _ ((xU (j:=2) rfl).trans (.cons _ ((xU (j:=1) rfl).trans (.cons _ (.refl _)))))))))))) ?_ ?_
 ·
  rintro l T A5 x kk aa w hI hgot hk H
  obtain⟨B1,a,k⟩:=x
  replace hI:B1=A5/\B1.Nodup/\(∀j∈B1,(F j).isSome=true):=hI
  replace H:Hp w0 w [b] (Ch.blk eB ([.map (some b)]) 241::Ch.obj b (B8 kA M c)::Ch.blk b3 ([.slice (hd a) ((B1.filter (F1 F r)).length) k]) 181::Ch.own a ((B1.filter (F1 F r)).length) k ((B1.filter (F1 F r)).flatMap C2) 34 32::Ch.blk b2 ([.bool r]) 4::Ch.blk b1 ([.map (some b)]) 241::T):=H
  repeat refine wpIn_seq ?_
  refine GU (by rfl) (by rintro⟨_,_,h⟩;first|exact(show False from h)|cases (And.left h:Exit.outgrown=Exit.normal)) ?_;refine A3 (W8 H aR (fun b5 w H hb5=>?_));replace H:=H.rot
  replace H:Hp _ w _ (Ch.blk b5 ((replicate 32 (0:UInt8)).map V8) 34::Ch.blk eB ([.map (some b)]) 241::Ch.obj b (B8 kA M c)::Ch.blk b3 ([.slice (hd a) ((B1.filter (F1 F r)).length) k]) 181::Ch.own a ((B1.filter (F1 F r)).length) k ((B1.filter (F1 F r)).flatMap C2) 34 32::Ch.blk b2 ([.bool r]) 4::Ch.blk b1 ([.map (some b)]) 241::T):=H
  refine A3 (mH (l':=kk.1) H (i:=0) rfl rfl rfl iQ (show(replicate 32 (0:UInt8)).length=32 from(jK ..)) (show(kk.1).length=32 from kk.2) (fun w H=>?_));replace H:Hp _ w _ (Ch.blk b5 ((kk.1).map V8) 34::Ch.blk eB ([.map (some b)]) 241::Ch.obj b (B8 kA M c)::Ch.blk b3 ([.slice (hd a) ((B1.filter (F1 F r)).length) k]) 181::Ch.own a ((B1.filter (F1 F r)).length) k ((B1.filter (F1 F r)).flatMap C2) 34 32::Ch.blk b2 ([.bool r]) 4::Ch.blk b1 ([.map (some b)]) 241::T):=H
  first|refine GV ?_|refine yV ?_
  try dsimp only[Exit.then,Exit.inBlock]
  refine⟨[.blk b5 ((kk.1).map V8) 34,.blk eB ([.map (some b)]) 241,.obj b (B8 kA M c),.blk b3 ([.slice (hd a) ((B1.filter (F1 F r)).length) k]) 181,.own a ((B1.filter (F1 F r)).length) k ((B1.filter (F1 F r)).flatMap C2) 34 32,.blk b2 ([.bool r]) 4,.blk b1 ([.map (some b)]) 241],H,?_⟩
  intro T w H
  replace H:Hp w0 w [b] (Ch.blk b5 ((kk.1).map V8) 34::Ch.blk eB ([.map (some b)]) 241::Ch.obj b (B8 kA M c)::Ch.blk b3 ([.slice (hd a) ((B1.filter (F1 F r)).length) k]) 181::Ch.own a ((B1.filter (F1 F r)).length) k ((B1.filter (F1 F r)).flatMap C2) 34 32::Ch.blk b2 ([.bool r]) 4::Ch.blk b1 ([.map (some b)]) 241::T):=H
  repeat refine wpIn_seq ?_
  refine YL ?_;obtain⟨x9,aO,nO⟩:=hI
  subst x9
  have X8:=GI aO nO hgot hk
  have hnv:B1.length<=65536:=lL B1 aO nO
  have cX:=List.length_filter_le (F1 F r) B1
  repeat refine wpIn_seq ?_
  refine Tg (fun w=>Hp w0 w [b] [.blk b5 ((kk.1).map V8) 34,.blk eB ([.map (some b)]) 241,.obj b (B8 kA M c),.blk b3 ([.slice (hd a) ((B1.filter (F1 F r)).length) k]) 181,.own a ((B1.filter (F1 F r)).length) k ((B1.filter (F1 F r)).flatMap C2) 34 32,.blk b2 ([.bool r]) 4,.blk b1 ([.map (some b)]) 241]) mixed (by rfl) (by rintro⟨_,_,h⟩;first|exact(show False from h)|cases (And.left h:Exit.outgrown=Exit.normal)) ?_;replace H:=H.drew
  have HS:=H.sub (.cons_cons _ (.cons_cons _ (.cons_cons _ (.cons_cons _ (.cons_cons _ (.cons_cons _ (.cons_cons _ (P6 _))))))))
  refine tK 0 rfl (fun w HS=>Q4 HS (i:=6) rfl rfl JG rfl) HS ?_;refine tK 1 rfl (fun w HS=>tB (l:=kk.1) HS (i:=0) rfl rfl aQ (show(kk.1).length=32 from kk.2)) HS ?_;refine tK 2 rfl (fun w HS=>Qw (k:=kk) D4 hF HS (i:=2) rfl Tryz.underlying241 BH MY rfl rfl) HS ?_;refine tK 3 rfl (fun w HS=>Ra (v:=.bool (((F kk).getD D4).hit)) Tryz.underlying262 rfl DG rfl (show Cut3 (([(((F kk).getD D4).data).v,.bool (((F kk).getD D4).hit)]:List Value)) (([(((F kk).getD D4).data).v]:List Value)) (([.bool (((F kk).getD D4).hit)]:List Value)) (([]:List Value)) 1 1 from⟨(show([(((F kk).getD D4).data).v,.bool (((F kk).getD D4).hit)]:List Value)=([(((F kk).getD D4).data).v]:List Value)++((([.bool (((F kk).getD D4).hit)]:List Value))++(([]:List Value))) from by simp only[I0,t6,Y3]),(by rfl),(by rfl)⟩)) HS ?_;refine tK 4 rfl (fun w HS=>Q4 HS (i:=5) rfl rfl DG rfl) HS ?_;refine tK 5 rfl (fun w HS=>OT Tryz.underlying4 rfl rfl) HS ?_;refine OV zK ?_
  clear HS
  have hc60:=IC ((((F kk).getD D4).hit)==r)
  rcases hc60 with hc6|hc6
  ·
   repeat refine wpIn_seq ?_
   refine Tl (by exact congrArg Value.bool hc6) ?_;repeat refine wpIn_seq ?_
   refine GU (by rfl) (by rintro⟨_,_,h⟩;first|exact(show False from h)|cases (And.left h:Exit.outgrown=Exit.normal)) ?_;refine lV (Q4 H (i:=3) rfl rfl zH rfl) ?_;refine lV (tB (l:=kk.1) H (i:=0) rfl rfl aQ (show(kk.1).length=32 from kk.2)) ?_;refine A3 (MM (enc:=C2) (kk) H oC aR (by rfl) (by decide) (by decide) rfl (aC _) (fun b7 w H hb7=>?_));replace H:=H.rot
   replace H:Hp _ w _ (Ch.own (some b7) 1 1 (([kk]).flatMap C2) 34 32::Ch.blk b5 ((kk.1).map V8) 34::Ch.blk eB ([.map (some b)]) 241::Ch.obj b (B8 kA M c)::Ch.blk b3 ([.slice (hd a) ((B1.filter (F1 F r)).length) k]) 181::Ch.own a ((B1.filter (F1 F r)).length) k ((B1.filter (F1 F r)).flatMap C2) 34 32::Ch.blk b2 ([.bool r]) 4::Ch.blk b1 ([.map (some b)]) 241::T):=H
   refine A3 (GG (enc:=C2) (s:=⟨hd (some b7),1,1,[kk]⟩) (l':=B1.filter (F1 F r)++([kk])) (len':=(B1.filter (F1 F r)).length+1) rfl rfl H (i:=5) rfl oC Tryz.underlying181 rfl rfl (H.glOwn (i:=0) rfl (by decide) (fun c _=>aC c)) (by decide) (fun c _=>tO c) zO (by decide) (fun a8 c9 w H=>?_));replace H:Hp _ w _ (Ch.own (some b7) 1 1 (([kk]).flatMap C2) 34 32::Ch.blk b5 ((kk.1).map V8) 34::Ch.blk eB ([.map (some b)]) 241::Ch.obj b (B8 kA M c)::Ch.blk b3 ([.slice (hd a) ((B1.filter (F1 F r)).length) k]) 181::Ch.own a8 ((B1.filter (F1 F r)).length+1) c9 ((B1.filter (F1 F r)++([kk])).flatMap C2) 34 32::Ch.blk b2 ([.bool r]) 4::Ch.blk b1 ([.map (some b)]) 241::T):=H
   refine A3 (nW (v:=.slice (hd a8) ((B1.filter (F1 F r)).length+1) c9) H (i:=4) rfl rfl rfl OY rfl (by first|decide|simp) (fun w H=>?_));replace H:Hp _ w _ (Ch.own (some b7) 1 1 (([kk]).flatMap C2) 34 32::Ch.blk b5 ((kk.1).map V8) 34::Ch.blk eB ([.map (some b)]) 241::Ch.obj b (B8 kA M c)::Ch.blk b3 ([.slice (hd a8) ((B1.filter (F1 F r)).length+1) c9]) 181::Ch.own a8 ((B1.filter (F1 F r)).length+1) c9 ((B1.filter (F1 F r)++([kk])).flatMap C2) 34 32::Ch.blk b2 ([.bool r]) 4::Ch.blk b1 ([.map (some b)]) 241::T):=H
   first|refine GV ?_|refine yV ?_
   try dsimp only[Exit.then,Exit.inBlock]
   have Y6:=YR F r B1 kk
   rw[show F1 F r kk=true from by rw[F1];exact hc6]at Y6
   replace Y6:(B1++[kk]).filter (F1 F r)=B1.filter (F1 F r)++[kk]:=Y6
   have hfl2:(B1.filter (F1 F r)).length+1=((B1++[kk]).filter (F1 F r)).length:=by rw[Y6,D0];rfl
   rw[hfl2, <-Y6]at H
   exact⟨rfl,(B1++[kk],a8,c9),⟨rfl,X8.1,fun j hj=>X8.2 j hj⟩,H.sub (.cons _ (.cons _ (.cons_cons _ (.cons_cons _ (.cons_cons _ (.cons_cons _ (.cons_cons _ (.cons_cons _ (pS _)))))))))⟩
  ·
   repeat refine wpIn_seq ?_
   refine Tm (by exact congrArg Value.bool hc6) ?_;refine Tn ?_;try dsimp only[Exit.then,Exit.inBlock]
   have Y6:=YR F r B1 kk
   rw[show F1 F r kk=false from by rw[F1];exact hc6]at Y6
   replace Y6:(B1++[kk]).filter (F1 F r)=B1.filter (F1 F r):=by rw[Y6];simp
   rw[<-Y6]at H
   exact⟨rfl,(B1++[kk],a,k),⟨rfl,X8.1,fun j hj=>X8.2 j hj⟩,H.sub (.cons _ (.cons_cons _ (.cons_cons _ (.cons_cons _ (.cons_cons _ (.cons_cons _ (.cons_cons _ (pS _))))))))⟩
 ·
  rintro D A5 x w hI hA H
  obtain⟨B1,a,k⟩:=x
  replace hI:B1=A5/\B1.Nodup/\(∀j∈B1,(F j).isSome=true):=hI
  replace H:Hp w0 w [b] ([.obj D (.deferred (some [])),.blk eB ([.map (some b)]) 241,.obj b (B8 kA M c),.blk b3 ([.slice (hd a) ((B1.filter (F1 F r)).length) k]) 181,.own a ((B1.filter (F1 F r)).length) k ((B1.filter (F1 F r)).flatMap C2) 34 32,.blk b2 ([.bool r]) 4,.blk b1 ([.map (some b)]) 241]):=H
  obtain⟨x9,aO,nO⟩:=hI
  subst x9
  have hnv:B1.length<=65536:=lL B1 aO nO
  have cX:=List.length_filter_le (F1 F r) B1
  refine rG ?_;refine A3 (BJ (Q4 H (i:=3) rfl rfl zH rfl) ?_);refine A3 (Tj Tryz.func189 rfl rfl rfl (Ta H (i:=4) rfl rfl zO) ?_);rintro _ w ⟨rfl,Hc⟩
  clear H
  have H:=Hc;clear Hc
  replace H:Hp _ w _ ([.obj D (.deferred (some [])),.blk eB ([.map (some b)]) 241,.obj b (B8 kA M c),.blk b3 ([.slice (hd a) ((B1.filter (F1 F r)).length) k]) 181,.own a ((B1.filter (F1 F r)).length) k ((sortA (B1.filter (F1 F r))).flatMap C2) 34 32,.blk b2 ([.bool r]) 4,.blk b1 ([.map (some b)]) 241]):=H
  refine eN ?_
  refine rG ?_;refine A3 (BJ (Q4 H (i:=3) rfl rfl zH rfl) ?_);refine A3 (BJ (eG) ?_);refine eN ?_
  refine l9 ?_
  refine YM (v:=.slice (hd a) ((B1.filter (F1 F r)).length) k) Tryz.results172 rfl H (i:=0) rfl ?_
  intro w H
  replace H:Hp w0 w [b] ([.blk eB ([.map (some b)]) 241,.obj b (B8 kA M c),.blk b3 ([.slice (hd a) ((B1.filter (F1 F r)).length) k]) 181,.own a ((B1.filter (F1 F r)).length) k ((sortA (B1.filter (F1 F r))).flatMap C2) 34 32,.blk b2 ([.bool r]) 4,.blk b1 ([.map (some b)]) 241]):=H
  refine⟨_,rfl,?_⟩
  refine⟨a,k,_,Tx hA.1 hA.2,?_,?_⟩
  ·rw[GY]
  ·rw[GY];exact H.sub (.cons _ (.cons_cons _ (.cons _ (.cons_cons _ (P6 _)))))
def yB(O:Go.Obj)(o:Nat)(v:Value):Prop:=∃C T fr,O=.cells C T fr/\C[o]? =some v
theorem Tz{n:Nat}{σ:Nat->Value}{ty:TypeId}{pos:String}{aft:Array Edge}{g:Option (Nat×Bool)}{d:Nat}{t:TypeId}{x:Operand}{b:Nat}{O:Go.Obj}{v:Value}(H:Hp w0 w S L)(hi:L[i]? =some (.obj b O))(hx:ev n σ x=.pointer (some ⟨b,o,none⟩))(ht:O5 P t=true)(hv:yB O o v):
  (execOp (ev n σ) ⟨some d,.load t x,ty,pos,aft,g⟩).run P w=.ok (.value v) w:=by
 obtain⟨C,T,fr,rfl,hv⟩:=hv
 have hb:w.heap[b]? =some (.cells C T fr):=H.has _ (E3 hi)
 have hc:w.cell? ⟨b,o,none⟩=some v:=by simp[World.cell?, hb,hv]
 simp[execOp,hx,rN ht hc]
theorem Ua{ι α:Type}{w1:World}{bb b l ob:Nat}{OB:Go.Obj}(hB:yB OB ob (.map (some b))){enc:α->Value}{M:List (A8×Value×Nat)}{F:A8->Option α}(hM:MOk M c)(hF:MIs enc M F)(Lv:ι->List Ch)(I:List A8->ι->Prop)(x0:ι)(h0:I [] x0)(H0:Hp w0 w1 S (Ch.obj bb OB::Ch.obj b (B8 kA M c)::Lv x0))(hY:∀(it:Nat) (A5:List A8) (x:ι) (k:A8) (a:α) (W:World),I A5 x->F k=some a->k∉A5->(∀j∈A5,(F j).isSome=true)->A5.Nodup->Hp w0 W S (Ch.obj it (T7 b M c (A5++[k]))::Ch.obj bb OB::Ch.obj b (B8 kA M c)::Lv x)->YieldAt Fence.wide 0 Tryz.prog l #[kA k] W fun e W'=>e=.returned (.bool true)/\∃x',I (A5++[k]) x'/\Hp w0 W' S (Ch.obj it (T7 b M c (A5++[k]))::Ch.obj bb OB::Ch.obj b (B8 kA M c)::Lv x')):
 Ret Tryz.prog 190 [.func (.yield l) #[] #[],.pointer (some ⟨bb,ob,none⟩)] w1 fun v w'=>∃A5 x,I A5 x/\A5.Nodup/\(∀k,k∈A5↔(F k).isSome=true)/\Hp w0 w' S (Ch.obj bb OB::Ch.obj b (B8 kA M c)::Lv x):=by
 refine T4 Tryz.func190 rfl Tryz.ntmps190 (by simp) ?_
 have H:=H0
 refine rG ?_;refine lV (Tz H (i:=0) rfl rfl Cq hB) ?_;refine A3 (WZ (kv:=kA) H (i:=1) rfl Tryz.underlying201 rfl (fun b1 w H P8=>?_));replace H:=H.rot
 replace H:Hp _ w _ (Ch.obj b1 (T7 b M c ([]))::Ch.obj bb OB::Ch.obj b (B8 kA M c)::Lv x0):=H
 refine eN ?_
 refine qB ?_;repeat refine D9 ?_
 refine LY (fun(A5:List A8) (x:ι)=>[(0,.func (.yield l) #[] #[]),(5,.pointer (some ⟨b1,0,none⟩))])
  (fun(A5:List A8) (x:ι) w=>(A5.Nodup/\(∀k∈A5,(F k).isSome=true)/\I A5 x)/\Hp w0 w S (Ch.obj b1 (T7 b M c A5)::Ch.obj bb OB::Ch.obj b (B8 kA M c)::Lv x))
  (fun(A5:List A8) (x:ι)=>M.length-A5.length) ([]) x0 ⟨rfl,rfl,zT⟩ ⟨⟨List.nodup_nil,fun _ h=>(by cases h),h0⟩,H⟩ ?_
 clear H
 rintro A5 x τ w ⟨⟨aO,hv,hI⟩,H⟩
 refine rG ?_;refine A3 (XA (kv:=kA) (enc:=enc) H (i:=2) (j:=0) rfl rfl hM hF hv rfl (fun hall2 w H=>?_) (fun R4 va4 vK hkn6 w H=>?_))
 ·
  refine lV (bZ rfl rfl) ?_;refine eN ?_
  refine qN ?_;refine W7 ?_;refine eZ ?_;refine CO Tryz.results190 ?_
  refine⟨_,rfl,?_⟩
  exact⟨A5,x,hI,aO,fun k=>⟨hv k,hall2 k⟩,H.sub (.cons _ (.cons_cons _ (.cons_cons _ (pS _))))⟩
 ·
  replace H:Hp _ w _ (Ch.obj b1 (T7 b M c (A5++[R4]))::Ch.obj bb OB::Ch.obj b (B8 kA M c)::Lv x):=H
  refine lV (bZ rfl rfl) ?_;refine eN ?_
  refine qY ?_;refine M5 ?_;refine qB ?_;refine rG ?_;refine lV (XB (kv:=kA) (enc:=enc) H (i:=2) (j:=0) rfl rfl hM hF vK rfl) ?_;refine lV (bZ rfl rfl) ?_;refine A3 (W8 H aR (fun b7 w H hb7=>?_));replace H:=H.rot
  replace H:Hp _ w _ (Ch.blk b7 ((replicate 32 (0:UInt8)).map V8) 34::Ch.obj b1 (T7 b M c (A5++[R4]))::Ch.obj bb OB::Ch.obj b (B8 kA M c)::Lv x):=H
  refine A3 (mH (l':=R4.1) H (i:=0) rfl rfl rfl iQ (show(replicate 32 (0:UInt8)).length=32 from(jK ..)) (show(R4.1).length=32 from R4.2) (fun w H=>?_));replace H:Hp _ w _ (Ch.blk b7 ((R4.1).map V8) 34::Ch.obj b1 (T7 b M c (A5++[R4]))::Ch.obj bb OB::Ch.obj b (B8 kA M c)::Lv x):=H
  refine eN ?_
  repeat refine D9 ?_
  have X8:=GI aO hv vK hkn6
  have mX:=XC hF X8.1 X8.2
  rw[D0,w8]at mX
  refine(wpIn_wide (n:=1)).1 ?_;refine wpIn_region_lit ?_;refine yA (G6 L0 ?_);refine yA (G6 (tB (l:=R4.1) H (i:=0) rfl rfl aQ (show(R4.1).length=32 from R4.2)) ?_);have H1:=H.sub (.cons _ (.cons_cons _ (.cons_cons _ (.cons_cons _ (pS _)))))
  have hy:=hY _ A5 x R4 va4 _ hI vK hkn6 hv aO H1
  refine YH (v:=kA R4) (b:=true) rfl (fun f e=>by cases e) rfl hy ?_;rintro w ⟨x',pT,H2⟩
  clear H H1 hy;have H:=H2;clear H2
  refine yA (G6 (zF rfl) ?_);refine YG ?_;refine qN ?_;refine M5 ?_;refine U4 (A5++[R4],x') ?_ ?_ ?_
  ·exact⟨rfl,rfl,zT⟩
  ·refine⟨?_,?_⟩
   ·try dsimp only
    exact⟨X8.1,X8.2,pT⟩
   ·exact H
  ·show M.length-(A5++[R4]).length<M.length-A5.length;rw[D0,w8];omega
theorem Ub(w0:World)(bb b c ob:Nat)(OB:Go.Obj)(hB:yB OB ob (.map (some b)))(M:List (A8×Value×Nat))(F:A8->Option Int)(hF:MIs VI M F)(hM:MOk M c)(hO:Own w0 [.obj bb OB,.obj b (B8 kA M c)])(lL:∀l:List A8,l.Nodup->(∀j∈l,(F j).isSome=true)->l.length<=65536):
 Ret Tryz.prog 207 [.slice none 0 0,.func (.func 190) #[] #[.pointer (some ⟨bb,ob,none⟩)]] w0 fun v w'=>∃(a:Option Nat) (k:Nat) (R:List A8),(R.Nodup/\∀k,k∈R↔(F k).isSome=true)/\v=.slice (hd a) R.length k/\Hp w0 w' (keys [.obj bb OB,.obj b (B8 kA M c)]) [.obj bb OB,.obj b (B8 kA M c),.own a R.length k (R.flatMap C2) 34 32]:=by
 refine YK Tryz.func207 rfl Tryz.ntmps207 (by simp) ?_
 have H:=hO.start
 refine rG ?_;refine A3 (zC (v:=.slice none 0 0) H rfl (fun b1 w H P8=>?_));replace H:Hp _ w _ ([.obj bb OB,.obj b (B8 kA M c),.blk b1 ([.slice none 0 0]) 181]):=H
 refine aZ ?_;refine eN ?_
 refine rG ?_;refine B9 ?_;refine eN ?_
 refine qB ?_;replace H:=H.nilEnd 34 32
 refine YN (FX:=[.obj bb OB,.obj b (B8 kA M c)]) (Got:=fun kk aa=>F kk=some aa) (All:=fun A5=>A5.Nodup/\∀j,j∈A5↔(F j).isSome=true) (I:=fun(A5:List A8) (x:List A8×Option Nat×Nat)=>match x with|(B1,a,k)=>B1=A5/\B1.Nodup/\(∀j∈B1,(F j).isSome=true)) (x0:=([],none,0)) (itC:=fun it A5=>Ch.obj it (T7 b M c A5)) (kv:=kA) Tryz.func190 rfl rfl (fun Lv l w1 H1 hY=>(Ua hB hM hF Lv (fun(A5:List A8) (x:List A8×Option Nat×Nat)=>match x with|(B1,a,k)=>B1=A5/\B1.Nodup/\(∀j∈B1,(F j).isSome=true)) ([],none,0) ⟨rfl,List.nodup_nil,fun _ h=>(by cases h)⟩ H1 (fun it A5 x kk aa W hI hf hk _ _ HW=>hY it A5 x kk aa W hI hf hk HW)).mono (fun _ _ ⟨A5,x,h1,h2,h3,h4⟩=>⟨A5,x,h1,⟨h2,h3⟩,h4⟩)) rfl (fun x:List A8×Option Nat×Nat=>match x with|(B1,a,k)=>[.blk b1 ([.slice (hd a) B1.length k]) 181,.own a B1.length k ((B1).flatMap C2) 34 32]) H ?_ ?_
 ·
  rintro l T A5 x kk aa w hI hgot hk H
  obtain⟨B1,a,k⟩:=x
  replace hI:B1=A5/\B1.Nodup/\(∀j∈B1,(F j).isSome=true):=hI
  replace H:Hp w0 w (keys [.obj bb OB,.obj b (B8 kA M c)]) (Ch.obj bb OB::Ch.obj b (B8 kA M c)::Ch.blk b1 ([.slice (hd a) B1.length k]) 181::Ch.own a B1.length k ((B1).flatMap C2) 34 32::T):=H
  repeat refine wpIn_seq ?_
  refine GU (by rfl) (by rintro⟨_,_,h⟩;first|exact(show False from h)|cases (And.left h:Exit.outgrown=Exit.normal)) ?_;refine A3 (W8 H aR (fun b2 w H U1=>?_));replace H:=H.rot
  replace H:Hp _ w _ (Ch.blk b2 ((replicate 32 (0:UInt8)).map V8) 34::Ch.obj bb OB::Ch.obj b (B8 kA M c)::Ch.blk b1 ([.slice (hd a) B1.length k]) 181::Ch.own a B1.length k ((B1).flatMap C2) 34 32::T):=H
  refine A3 (mH (l':=kk.1) H (i:=0) rfl rfl rfl iQ (show(replicate 32 (0:UInt8)).length=32 from(jK ..)) (show(kk.1).length=32 from kk.2) (fun w H=>?_));replace H:Hp _ w _ (Ch.blk b2 ((kk.1).map V8) 34::Ch.obj bb OB::Ch.obj b (B8 kA M c)::Ch.blk b1 ([.slice (hd a) B1.length k]) 181::Ch.own a B1.length k ((B1).flatMap C2) 34 32::T):=H
  first|refine GV ?_|refine yV ?_
  try dsimp only[Exit.then,Exit.inBlock]
  refine⟨[.blk b2 ((kk.1).map V8) 34,.obj bb OB,.obj b (B8 kA M c),.blk b1 ([.slice (hd a) B1.length k]) 181,.own a B1.length k ((B1).flatMap C2) 34 32],H,?_⟩
  intro T w H
  replace H:Hp w0 w (keys [.obj bb OB,.obj b (B8 kA M c)]) (Ch.blk b2 ((kk.1).map V8) 34::Ch.obj bb OB::Ch.obj b (B8 kA M c)::Ch.blk b1 ([.slice (hd a) B1.length k]) 181::Ch.own a B1.length k ((B1).flatMap C2) 34 32::T):=H
  repeat refine wpIn_seq ?_
  refine YL ?_;obtain⟨x9,aO,nO⟩:=hI
  subst x9
  have X8:=GI aO nO hgot hk
  have hnv:B1.length<=65536:=lL B1 aO nO
  repeat refine wpIn_seq ?_
  refine GU (by rfl) (by rintro⟨_,_,h⟩;first|exact(show False from h)|cases (And.left h:Exit.outgrown=Exit.normal)) ?_;refine lV (Q4 H (i:=3) rfl rfl zH rfl) ?_;refine lV (tB (l:=kk.1) H (i:=0) rfl rfl aQ (show(kk.1).length=32 from kk.2)) ?_;refine A3 (MM (enc:=C2) (kk) H oC aR (by rfl) (by decide) (by decide) rfl (aC _) (fun b3 w H x7=>?_));replace H:=H.rot
  replace H:Hp _ w _ (Ch.own (some b3) 1 1 (([kk]).flatMap C2) 34 32::Ch.blk b2 ((kk.1).map V8) 34::Ch.obj bb OB::Ch.obj b (B8 kA M c)::Ch.blk b1 ([.slice (hd a) B1.length k]) 181::Ch.own a B1.length k ((B1).flatMap C2) 34 32::T):=H
  refine A3 (GG (enc:=C2) (s:=⟨hd (some b3),1,1,[kk]⟩) (l':=B1++([kk])) (len':=B1.length+1) rfl rfl H (i:=5) rfl oC Tryz.underlying181 rfl rfl (H.glOwn (i:=0) rfl (by decide) (fun c _=>aC c)) (by decide) (fun c _=>tO c) zO (by decide) (fun a4 c5 w H=>?_));replace H:Hp _ w _ (Ch.own (some b3) 1 1 (([kk]).flatMap C2) 34 32::Ch.blk b2 ((kk.1).map V8) 34::Ch.obj bb OB::Ch.obj b (B8 kA M c)::Ch.blk b1 ([.slice (hd a) B1.length k]) 181::Ch.own a4 (B1.length+1) c5 ((B1++([kk])).flatMap C2) 34 32::T):=H
  refine A3 (nW (v:=.slice (hd a4) (B1.length+1) c5) H (i:=4) rfl rfl rfl OY rfl (by first|decide|simp) (fun w H=>?_));replace H:Hp _ w _ (Ch.own (some b3) 1 1 (([kk]).flatMap C2) 34 32::Ch.blk b2 ((kk.1).map V8) 34::Ch.obj bb OB::Ch.obj b (B8 kA M c)::Ch.blk b1 ([.slice (hd a4) (B1.length+1) c5]) 181::Ch.own a4 (B1.length+1) c5 ((B1++([kk])).flatMap C2) 34 32::T):=H
  first|refine GV ?_|refine yV ?_
  try dsimp only[Exit.then,Exit.inBlock]
  have hfl2:B1.length+1=(B1++[kk]).length:=by rw[D0];rfl
  rw[hfl2]at H
  exact⟨rfl,(B1++[kk],a4,c5),⟨rfl,X8.1,fun j hj=>X8.2 j hj⟩,H.sub (.cons _ (.cons _ (.cons_cons _ (.cons_cons _ (.cons_cons _ (.cons_cons _ (pS _)))))))⟩
 ·
  rintro D A5 x w hI hA H
  obtain⟨B1,a,k⟩:=x
  replace hI:B1=A5/\B1.Nodup/\(∀j∈B1,(F j).isSome=true):=hI
  replace H:Hp w0 w (keys [.obj bb OB,.obj b (B8 kA M c)]) ([.obj D (.deferred (some [])),.obj bb OB,.obj b (B8 kA M c),.blk b1 ([.slice (hd a) B1.length k]) 181,.own a B1.length k ((B1).flatMap C2) 34 32]):=H
  obtain⟨x9,aO,nO⟩:=hI
  subst x9
  have hnv:B1.length<=65536:=lL B1 aO nO
  refine rG ?_;refine A3 (BJ (Q4 H (i:=3) rfl rfl zH rfl) ?_);refine A3 (BJ (eG) ?_);refine eN ?_
  refine l9 ?_
  refine YM (v:=.slice (hd a) B1.length k) Tryz.results207 rfl H (i:=0) rfl ?_
  intro w H
  replace H:Hp w0 w (keys [.obj bb OB,.obj b (B8 kA M c)]) ([.obj bb OB,.obj b (B8 kA M c),.blk b1 ([.slice (hd a) B1.length k]) 181,.own a B1.length k ((B1).flatMap C2) 34 32]):=H
  refine⟨_,rfl,?_⟩
  refine⟨a,k,B1,hA,rfl,H.sub (.cons_cons _ (.cons_cons _ (.cons _ (.cons_cons _ (P6 _)))))⟩
theorem Uc(w0:World)(bb b c ob:Nat)(OB:Go.Obj)(hB:yB OB ob (.map (some b)))(M:List (A8×Value×Nat))(F:A8->Option Int)(hF:MIs VI M F)(hM:MOk M c)(hO:Own w0 [.obj bb OB,.obj b (B8 kA M c)])(lL:∀l:List A8,l.Nodup->(∀j∈l,(F j).isSome=true)->l.length<=65536):
  Ret Tryz.prog 188 [.func (.func 190) #[] #[.pointer (some ⟨bb,ob,none⟩)]] w0 fun v w'=>∃(a:Option Nat) (k:Nat) (R:List A8),(R.Nodup/\∀k,k∈R↔(F k).isSome=true)/\v=.slice (hd a) R.length k/\Hp w0 w' (keys [.obj bb OB,.obj b (B8 kA M c)]) [.obj bb OB,.obj b (B8 kA M c),.own a R.length k (R.flatMap C2) 34 32]:=by
 refine T4 Tryz.func188 rfl Tryz.ntmps188 (by simp) ?_
 have H:=hO.start
 refine rG ?_;refine aZ ?_;refine eN ?_
 refine rG ?_;refine B9 ?_;refine A3 (N4 Tryz.func207 rfl rfl rfl (Ub _ bb b c ob OB hB M F hF hM (H.ownP (.refl _) rfl) lL) ?_);rintro _ w ⟨a1,k2,R3,hsq4,rfl,Hc⟩
 replace H:=H.callP (.refl _) rfl Hc (.refl _)
 clear Hc
 replace H:Hp _ w _ ([.obj bb OB,.obj b (B8 kA M c),.own a1 R3.length k2 ((R3).flatMap C2) 34 32]):=H
 refine aZ ?_;refine eN ?_
 refine l9 ?_
 refine v8 (v:=.slice (hd a1) R3.length k2) Tryz.results188 rfl ?_
 refine⟨_,rfl,?_⟩
 exact⟨_,_,_,hsq4,rfl,H.sub (.cons_cons _ (.cons_cons _ (.cons_cons _ (P6 _))))⟩
theorem Ud(w0:World)(bb b c ob:Nat)(OB:Go.Obj)(hB:yB OB ob (.map (some b)))(M:List (A8×Value×Nat))(F:A8->Option Int)(hF:MIs VI M F)(hM:MOk M c)(hO:Own w0 [.obj bb OB,.obj b (B8 kA M c)])(lL:∀l:List A8,l.Nodup->(∀j∈l,(F j).isSome=true)->l.length<=65536):
  Ret Tryz.prog 164 [.func (.func 190) #[] #[.pointer (some ⟨bb,ob,none⟩)],.func (.func 166) #[] #[]] w0 fun v w'=>∃(a:Option Nat) (k:Nat) (R:List A8),(RisA R/\∀k,k∈R↔(F k).isSome=true)/\v=.slice (hd a) R.length k/\Hp w0 w' (keys [.obj bb OB,.obj b (B8 kA M c)]) [.obj bb OB,.obj b (B8 kA M c),.own a R.length k (R.flatMap C2) 34 32]:=by
 refine T4 Tryz.func164 rfl Tryz.ntmps164 (by simp) ?_
 have H:=hO.start
 refine rG ?_;refine aZ ?_;refine eN ?_
 refine rG ?_;refine B9 ?_;refine A3 (N4 Tryz.func188 rfl rfl rfl (Uc _ bb b c ob OB hB M F hF hM (H.ownP (.refl _) rfl) lL) ?_);rintro _ w ⟨a1,k2,R3,hsq4,rfl,Hc⟩
 replace H:=H.callP (.refl _) rfl Hc (.refl _)
 clear Hc
 replace H:Hp _ w _ ([.obj bb OB,.obj b (B8 kA M c),.own a1 R3.length k2 ((R3).flatMap C2) 34 32]):=H
 refine aZ ?_;refine eN ?_
 have bJ:=lL R3 hsq4.1 (fun j hj=>(hsq4.2 j).1 hj)
 refine rG ?_;refine B9 ?_;refine B9 ?_;refine A3 (N4 Tryz.func189 rfl rfl rfl (Tc H (i:=2) rfl rfl zO) ?_);rintro _ w ⟨rfl,Hc⟩
 clear H
 have H:=Hc;clear Hc
 replace H:Hp _ w _ ([_,_,.own a1 R3.length k2 ((sortA R3).flatMap C2) 34 32]):=H
 refine eN ?_
 refine rG ?_;refine B9 ?_;refine aZ ?_;refine eN ?_
 refine l9 ?_
 refine v8 (v:=.slice (hd a1) R3.length k2) Tryz.results164 rfl ?_
 refine⟨_,rfl,?_⟩
 have hs:=YQ hsq4.1
 refine⟨a1,k2,sortA R3,⟨hs.1,fun k=>(hs.2 k).trans (hsq4.2 k)⟩,?_,?_⟩
 ·rw[GY]
 ·rw[GY];exact H.sub (.cons_cons _ (.cons_cons _ (.cons_cons _ (P6 _))))
def Cx.rowX(X:Cx)(nm:Nat)(a:Option Nat)(cs:List Value)(M:Nat):Cx:=⟨fun b i=>if some b=a then (match cs[i]? with|some x=>.fz x|none=>if i<M then .tp nm else .no) else X.G b i,X.ρ,X.Φ,X.κ,X.ν,X.wr⟩
theorem tQ{nm:Nat}{a:Option Nat}{b:Nat}(h:¬ some b=a):(X.rowX nm a cs M).G b i=X.G b i:=by
 show(if some b=a then _ else _)=_
 rw[if_neg h]
theorem NB{nm b:Nat} :(X.rowX nm (some b) cs M).G b i=(match cs[i]? with|some x=>.fz x|none=>if i<M then .tp nm else .no):=by
 show(if some b=some b then _ else _)=_
 rw[if_pos rfl]
theorem Ue{hh:Nat->Nat->V}{nm:Nat}{a:Option Nat}{cs:List Value}(H:Wd X0 X hh lv 16 w w)(hf:∀b,b<w.heap.size->w'.heap[b]? =w.heap[b]?)(hos:w'.os=w.os)(hou:w'.output=w.output)(ht:w'.tape=w.tape)(hs:w.heap.size<=w'.heap.size)
 (ha:∀b,a=some b->w.heap.size<=b/\∃C T,w'.heap[b]? =some (.cells C T (0,0))/\C.size=M/\∀(i:Nat) x,cs[i]? =some x->C[i]? =some x)(ho:∀x∈cs,x.oneCell'=true)(hn:X0.κ<=nm)(hn2:2<=nm/\nm<64):Wd X0 (X.rowX nm a cs M) h0 [nm] 64 w w':=by
 have old:∀b,b<w.heap.size->¬ some b=a:=fun b hb e=>by have:=(ha b e.symm).1;omega
 have oldG:∀b i,X.G b i≠ .no->¬ some b=a:=fun b i h=>old b (H.ex b i h)
 have fzk:∀b i x,X.G b i=.fz x->(X.rowX nm a cs M).G b i=.fz x:=fun b i x h=>by rw[tQ (oldG b i (by rw[h];simp))];exact h
 have cell:∀b i,b<w.heap.size->w'.cell? (ad b i)=w.cell? (ad b i):=fun b i hb=>by unfold World.cell?; rw[hf b hb]
 have frz:∀b i,b<w.heap.size->w'.frozen? (ad b i)=w.frozen? (ad b i):=fun b i hb=>by unfold World.frozen?; rw[hf b hb]
 have mine:∀b i,some b=a->(X.rowX nm a cs M).G b i≠ .no->∃C T,w'.heap[b]? =some (.cells C T (0,0))/\C.size=M/\((∃x,cs[i]? =some x/\C[i]? =some x/\(X.rowX nm a cs M).G b i=.fz x)\/(cs[i]? =none/\i<M/\(X.rowX nm a cs M).G b i=.tp nm)):=fun b i e h=>by
  subst e
  obtain⟨_,C,T,h1,h2,h3⟩:=ha b rfl
  refine⟨C,T,h1,h2,?_⟩
  rw[NB]at h ⊢
  cases hc:cs[i]? with
 |some x=>exact .inl ⟨x,rfl,h3 i x hc,rfl⟩
 |none=>
   rw[hc]at h
   by_cases hi:i<M
   ·exact .inr ⟨rfl,hi,by simp only[hi,if_true]⟩
   ·simp only[hi,if_false]at h;exact absurd rfl h
 have cellA:∀(b i:Nat) (C:Array Value) T x,w'.heap[b]? =some (.cells C T (0,0))->C[i]? =some x->w'.cell? (ad b i)=some x:=fun b i C T x h1 h2=>by simp[World.cell?, h1,h2]
 have ex':∀b i,(X.rowX nm a cs M).G b i≠ .no->b<w'.heap.size:=fun b i h=>by
  by_cases e:some b=a
  ·obtain⟨C,T,h1,_⟩:=mine b i e h;exact(Z3.1 h1).1
  ·rw[tQ e]at h;exact X5 (H.ex b i h) hs
 exact { kb:=⟨hos.trans H.kb.1,hou.trans H.kb.2.1,fun i hi=>by rw[hf i hi];exact H.kb.2.2 i hi⟩
         tape:=ht.trans H.tape
         fz0:=fun b i x h=>fzk b i x (H.fz0 b i x h)
         no0:=fun b i hb h=>by rw[tQ (old b hb)];exact H.no0 b i hb h
         mp0:=fun b t hb h=>by rw[tQ (old b hb)]at h;exact H.mp0 b t hb h
         ρ0:=H.ρ0,ex:=ex'
         fz:=fun b i x h=>by
          by_cases e:some b=a
          ·obtain⟨C,T,h1,h2,⟨y,h3,h4,h5⟩|⟨_,_,h5⟩⟩:=mine b i e (by rw[h];simp)
           ·rw[h5]at h
            have h7:y=x:=by injection h
            subst h7
            have h6:=ho y (E3 h3)
            exact⟨fun _=>cellA b i C T y h1 h4,fun t e'=>(oE (by rw[<-e'];exact h6)).elim,.inl h6⟩
           ·rw[h5]at h;cases h
          ·rw[tQ e]at h
           have hb:=H.ex b i (by rw[h];simp)
           exact(H.fz b i x h).move fzk (cell b i hb) (fun _ _ hm=>by rw[hf b hb];exact hm)
         tp:=fun b i t h=>by
          by_cases e:some b=a
          ·obtain⟨C,T,h1,h2,⟨y,h3,h4,h5⟩|⟨h3,h4,h5⟩⟩:=mine b i e (by rw[h];simp)
           ·rw[h5]at h;cases h
           ·refine⟨by rw[cellA b i C T _ h1 (yQ zO)];rfl,?_⟩
            simp[World.frozen?, h1]
          ·rw[tQ e]at h
           have hb:=H.ex b i (by rw[h];simp)
           rw[cell b i hb,frz b i hb];exact H.tp b i t h
         rt:=fun _ _ _ _ _ _=>trivial
         c2:=by omega
         lvc:=fun t ht'=>by simp only[O9]at ht';omega
         ρc:=fun r j p h=>X5 (H.ρc r j p h) zO
         inv:=H.imo _ _ _ _ _ _ ⟨fzk,fun b i t h1 h2 _=>by simp only[O9]at h1;omega,fun t h1 h2=>by simp only[O9]at h1;omega,fun _ _ _ _ _ h=>h⟩ H.inv
         imo:=H.imo,κc:=N1 H.κc zO,νe:=H.νe,we:=H.we,gz:=H.gz,ν0:=H.ν0,νs:=N1 H.νs hs
         nf:=fun b hb ⟨i,hi⟩ C T fr he=>by
          by_cases e:some b=a
          ·obtain⟨_,C',T',h1,_⟩:=ha b e.symm
           rw[h1]at he;cases he;exact .inl rfl
          ·rw[tQ e]at hi
           rw[hf b (H.ex b i hi)]at he;exact H.nf b hb ⟨i,hi⟩ C T fr he}
theorem Uf(R:List A8):(R.flatMap C2).length=R.length*32:=by
 induction R with
|nil=>rfl
|cons x R ih=>rw[gX,D0,ih,aC,I6,G9];omega
theorem YT:∀(R:List A8) (i:Nat) (x:A8),R[i]? =some x->∀(k:Nat) v,(C2 x)[k]? =some v->(R.flatMap C2)[i*32+k]? =some v
|[],i,x,h=>by simp at h
|y::R,0,x,h=>fun k v hk=>by
  simp only[NY,F2]at h
  subst h
  have:=(N0.1 hk).1
  rw[gX,Nat.zero_mul,J3,N7 zO];exact hk
|y::R,i+1,x,h=>fun k v hk=>by
  rw[CC]at h
  rw[gX,L7 (by rw[aC,G9];omega),aC,show(i+1)*32+k-32=i*32+k by rw[G9];omega]
  exact YT R i x h k v hk
theorem YU{hh:Nat->Nat->V}{nm:Nat}{S:List Nat}{a:Option Nat}{R:List A8}(H:Wd X0 X hh lv 16 w w)(Hk:Hp w w' S (.own a R.length cap (R.flatMap C2) 34 32::L))(hS:∀s∈S,s<w.heap.size/\∃O,.obj s O∈L/\w.heap[s]? =some O)(hn:X0.κ<=nm)(hn2:2<=nm/\nm<64):
  ∃X',repv X' [nm] 64 (B4 nm 32 eI (R.map (·.1))) (.slice (hd a) R.length cap)/\Wd X0 X' h0 [nm] 64 w w':=by
 have hf:∀b,b<w.heap.size->w'.heap[b]? =w.heap[b]? :=fun b hb=>by
  by_cases hs:b∈S
  ·obtain⟨_,O,h1,h2⟩:=hS b hs
   have h3:w'.heap[b]? =some O:=Hk.has _ (Q8 _ h1)
   rw[h2,h3]
  ·exact Hk.frame b hb hs
 have M3:=Hk.has _ (X7 ..)
 have jR:∀b,a=some b->w.heap.size<=b:=fun b e=>by
  subst e
  rcases Hk.fresh _ (X7 ..) b rfl with h|h
  ·obtain⟨_,O,h1,_⟩:=hS b h
   have:=(List.pairwise_cons.1 Hk.nd).1 _ h1 b rfl
   exact absurd rfl this
  ·exact h
 have D8:R.length*32<=cap*32/\cap<=maxLen:=by
  cases a with
 |none=>obtain⟨h1,h2,_⟩:=M3;rw[h1,h2];exact⟨zO,by decide⟩
 |some b=>obtain⟨_,h2,h3,_⟩:=M3;exact⟨zO,h3⟩
 have W:=Ue (nm:=nm) (a:=a) (cs:=R.flatMap C2) (M:=cap*32) H hf Hk.os Hk.output Hk.tape Hk.size (fun b e=>by
  subst e
  obtain⟨h1,h2,h3,rest,h4,h5⟩:=M3
  refine⟨jR b rfl,_,_,h4,by simpa using h5,fun i x hx=>?_⟩
  rw[eY,N7 (N0.1 hx).1];exact hx) (fun x hx=>by
  obtain⟨y,_,h2⟩:=List.mem_flatMap.1 hx
  exact Q7.1 (tO y) x h2) hn hn2
 refine⟨_,?_,W⟩
 refine⟨by decide,hd a,cap,by rw[J5],by rw[J5];omega,D8.2,zO,fun e=>by omega,?_⟩
 cases a with
|none=>obtain⟨_,h2,_⟩:=M3;exact .inl ⟨.inl rfl,h2⟩
|some b=>
  refine .inr ⟨b,0,rfl,fun i hi=>?_,fun _ i h1 h2=>?_⟩
  ·rw[J5]at hi
   have hx:R[i]? =some R[i]:=B7 hi
   refine⟨C2 R[i],⟨?_,?_⟩,aC _,rfl,fun k v hk=>?_⟩
   ·show((R.map fun x:A8=>x.1).getD i default).length=32
    rw[j7,Y4,hx];exact R[i].2
   ·show C2 R[i]=((R.map fun x:A8=>x.1).getD i default).map F0
    rw[j7,Y4,hx];rfl
   ·rw[J3,NB,YT R i _ hx k v hk]
  ·rw[J5]at h1
   rw[J3,NB,V4 (by rw[Uf];omega)]
   simp only[h2,if_true]
theorem YV(X:Cx)(K:List By)(s c:Nat):∀es:List MapEntry,(∀e∈es,e.born<c/\(∃k:List UInt8,k.length=32/\e.key=F9 k/\k∈K)/\∃v,X3 s v=true/\repv X [] 2 v e.val)->
  ∃M:List (A8×Value×Nat),M.map (S5 kA)=es/\∀x∈M,x.2.2<c/\x.1.1∈K/\∃v,X3 s v=true/\repv X [] 2 v x.2.1
|[],_=>⟨[],rfl,fun _ h=>by cases h⟩
|e::es,h=>by
  obtain⟨M,h1,h2⟩:=YV X K s c es fun e' he=>h e' (Q8 _ he)
  obtain⟨hb,⟨k,k1,k2,k3⟩,hv⟩:=h e (X7 ..)
  refine⟨(⟨k,k1⟩,e.val,e.born)::M,?_,fun x hx=>?_⟩
  ·rw[T9,h1]
   congr 1
   obtain⟨ek,ev,eb⟩:=e
   simp only at k2
   subst k2;rfl
  ·rcases K5.1 hx with rfl|hx
   ·exact⟨hb,k3,hv⟩
   ·exact h2 x hx
theorem Ug{b:Nat}{t:MS}(h:MapC X w b 0 t):∃(M:List (A8×Value×Nat)) (c:Nat),w.heap[b]? =some (B8 kA M c)/\MOk M c/\∀x∈M,x.1.1∈t.K/\∃v,X3 t.s v=true/\repv X [] 2 v x.2.1:=by
 obtain⟨es,c,h1,h2,h3,h4⟩:=h
 obtain⟨M,m1,m2⟩:=YV X t.K t.s c es.toList h4
 refine⟨M,c,?_,⟨?_,?_,fun x hx=>(m2 x hx).1⟩,fun x hx=>(m2 x hx).2⟩
 ·rw[h1,B8,m1]
 ·rw[<-m1,List.map_map]at h2
  exact List.Pairwise.of_map (S:=fun x y=>x≠y) kA (fun a b h e=>h (by rw[e])) (by rw[List.map_map];exact h2)
 ·rw[<-m1,List.map_map]at h3;exact h3
theorem Uh{enc:α->Value}{M:List (A8×Value×Nat)}{K:List By}(h:∀x∈M,x.1.1∈K/\∃a,enc a=x.2.1):∃F:A8->Option α,MIs enc M F/\∀k,(F k).isSome=true->k.1∈K:=by
 have one:∀k:A8,∃o:Option α,O3 M k=o.map enc/\(o.isSome=true->k.1∈K):=fun k=>by
  cases e:O3 M k with
 |none=>exact⟨none,rfl,fun h=>by cases h⟩
 |some v=>
   obtain⟨x,x1,rfl,rfl,_⟩:=BD e
   obtain⟨h1,a,h2⟩:=h x x1
   exact⟨some a,by rw[X6,h2],fun _=>h1⟩
 exact⟨fun k=>(one k).choose,fun k=>(one k).choose_spec.1,fun k=>(one k).choose_spec.2⟩
theorem YW{F:A8->Option α}{K:List By}(h:∀k,(F k).isSome=true->k.1∈K)(hK:K.length<=65536)(l:List A8)(hn:l.Nodup)(hl:∀j∈l,(F j).isSome=true):l.length<=K.length/\l.length<=65536:=by
 have hn':(l.map (·.1)).Nodup:=hn.map _ fun a b h e=>h (Subtype.ext e)
 have:=BE hn' (m:=K) fun x hx=>by
  obtain⟨y,hy,rfl⟩:=J4.1 hx
  exact h y (hl y hy)
 rw[J5]at this
 omega
theorem Ui{v:V}(h:X3 0 v=true):∃n,v=.i .i64 n:=by
 unfold X3 at h
 split at h<;>first|exact⟨_,rfl⟩|(rename_i h0;first|cases h0|cases h)|cases h
theorem RisA.nd{l:List A8}(h:RisA l):l.Nodup:=List.Pairwise.imp (fun {a b} h e=>by subst e;exact List.lt_irrefl _ h) h
theorem Uj{b:Nat}{v:Value}(h:w.cell? (ad b o)=some v):∃O,w.heap[b]? =some O/\yB O o v:=by
 unfold World.cell? at h
 cases e:w.heap[b]? with
|none=>simp[e]at h
|some O=>
  cases O with
 |cells C T fr=>exact⟨_,rfl,C,T,fr,rfl,by simpa [e] using h⟩
 |_=>simp[e]at h
theorem Uk(K:List By)(b:Nat)(hK:K.length<=65536):SatHM Tryz.prog false 164 [mB 190 [.pr 2 0 []],mB 166 []] [] [(2,.mp b 0 ⟨0,K⟩)] (fun out ho A0=>(∃l:List By,out=B4 16 32 eI l/\l.length<=K.length/\∀x∈l,x∈K)/\ho=[]/\A0=[16]):=fun X w vs D8 aN H _=>by
 match vs,D8 with
|[x0,x1],_=>
 have r0:=aN 0 _ _ rfl rfl
 have r1:=aN 1 _ _ rfl rfl
 obtain⟨vs0,f1,f2,f3⟩:=r0
 obtain⟨y,f4,f5⟩:=f3 0 (by decide)
 obtain⟨_,bb,o,N,e1,e2,_⟩:=f5
 obtain⟨vs1,g1,g2,_⟩:=r1
 have x9:vs0=[.pointer (some ⟨bb,o,none⟩)]:=by
  match vs0,f2,f4 with
 |[z],_,f4=>
   simp only[NY,F2]at f4
   subst f4
   rw[e2];rfl
 have hv1:vs1=[]:=j5.1 g2
 subst x9 hv1
 have hx0:x0=.func (.func 190) #[] #[.pointer (some ⟨bb,o,none⟩)]:=by simpa using f1
 have hx1:x1=.func (.func 166) #[] #[]:=by simpa using g1
 subst hx0 hx1
 have hR:RtR X [] 16 w 2 0 bb o N (.mp b 0 ⟨0,K⟩):=H.rt 2 0 bb o N e1
 obtain⟨cs,c1,c2,c3,c4⟩:=hR
 have v6:cs.length=1:=W9 (v:=.mp b 0 ⟨0,K⟩) rfl c1
 obtain⟨x,hx⟩:∃x,cs=[x]:=List.length_eq_one_iff.1 v6
 subst hx
 obtain⟨e0,hg,_⟩:=AW (q:=0) H c1 rfl
 have hm:MapC X w b 0 ⟨0,K⟩:=(H.fz b 0 _ hg).m _ rfl
 obtain⟨M,c,m1,m2,m3⟩:=Ug hm
 obtain⟨F,f1,f2⟩:=Uh (enc:=VI) (M:=M) (K:=K) fun x hx=>⟨(m3 x hx).1,by
  obtain⟨_,v,v1,v2⟩:=m3 x hx
  obtain⟨n,rfl⟩:=Ui v1
  exact⟨n,(M0 v2).1.symm⟩⟩
 subst e0
 obtain⟨OB,o1,o2⟩:=Uj (c4 0 _ rfl).2.1
 have D6:bb≠b:=fun e=>by
  subst e
  obtain⟨C,T,fr,rfl,_⟩:=o2
  rw[o1]at m1;cases m1
 have hO:Own w [.obj bb OB,.obj b (B8 kA M c)]:=⟨fun d hd=>by
  simp only[K5,List.not_mem_nil,or_false]at hd
  rcases hd with rfl|rfl
  ·exact o1
  ·exact m1,.cons (fun d hd q hq=>by
  simp only[O9]at hd
  subst hd
  intro h
  simp only[Ch.key,F2]at hq h
  omega) (.cons (fun _ h=>by cases h) .nil)⟩
 refine(Ud w bb b c (o+0) OB o2 M F f1 m2 hO fun l h1 h2=>(YW f2 hK l h1 h2).2).mono fun v w' ⟨a,k,R,h1,h2,Hk⟩=>?_
 obtain⟨X',q1,q2⟩:=YU (nm:=16) H (Hk.perm (L':=[.own a R.length k (R.flatMap C2) 34 32,.obj bb OB,.obj b (B8 kA M c)]) (NV (Ch.own a R.length k (R.flatMap C2) 34 32) [Ch.obj bb OB,Ch.obj b (B8 kA M c)])) (fun s hs=>by
  simp only[keys,List.filterMap_cons,Ch.key,List.filterMap_nil,K5,List.not_mem_nil,or_false]at hs
  rcases hs with rfl|rfl
  ·exact⟨(Z3.1 o1).1,_,X7 ..,o1⟩
  ·exact⟨(Z3.1 m1).1,_,Q8 _ (O9.2 rfl),m1⟩) (B5 _) zO
 subst h2
 have W0:∀k∈R,(F k).isSome=true:=fun k hk=>(h1.2 k).1 hk
 exact⟨X',[],[16],_,⟨⟨R.map (·.1),rfl,by rw[J5];exact(YW f2 hK R h1.1.nd W0).1,fun x hx=>by
  obtain⟨y,hy,rfl⟩:=J4.1 hx
  exact f2 y (W0 y hy)⟩,rfl,rfl⟩,q1,by
  have e:S4 ([]:List (Nat×V))=h0:=by funext r j;cases j<;>rfl
  rw[e];exact q2⟩
theorem NC:∀(n:Nat) (R2:Int),1<=R2->R2+n=9->XI R2
|0,R2,h1,h2=>fun K a b c tl l e x t hc he hl ht vI=>XJ K a b c tl l e x t R2 ⟨h1,zO⟩ (fun h=>absurd h zO) hc he hl ht vI
|n+1,R2,h1,h2=>fun K a b c tl l e x t hc he hl ht vI=>XJ K a b c tl l e x t R2 ⟨h1,zO⟩ (fun _ d hd=>hd▸NC n (R2+1) zO zO) hc he hl ht vI
theorem Ul(K:List By)(b:Nat):SatM Tryz.prog false 165 [.mp b 0 ⟨0,K⟩] [] (fun out ho A0=>out=mB 190 [.pr 2 0 []]/\ho=[(2,.mp b 0 ⟨0,K⟩)]/\A0=[]):=by
 refine fM false Tryz.func165 fun X0 w0 hX hm=>?_
 exact xW hX (mB 190 [.pr 2 0 []]) ⟨rfl,rfl,rfl⟩
theorem Um(n:Nat)(g:Nat->Obj)(r:By)(hn:n<=65536)(hd:∀i,i<n->(g i).data.length<=100000):SatM Tryz.prog true 118 [.sl 0 33 n fun i=>C5 (g i),.bs 32 r] [] (fun out ho A0=>∃(l:List By) (e:Int),out=A2 [B4 2 32 eI l,.i .i64 e]/\A0=[2]/\l.length<=n/\ho=[]):=by
 refine fM true Tryz.func118 fun X0 w0 hX hm=>?_
 refine kM (fun _=>hm rfl) [] (XH n (fun i=>(g i)) false zO hd) ?_;rintro out ho A0 ⟨ba0,bb0,rfl,rfl,rfl⟩
 refine gI (fun _=>hm rfl) [(274,2),(275,3)] [274] (NC 8 1 zO rfl ((List.range n).map fun i=>((fun i=>(g i)) i).of) ba0 bb0 0 false [] 0 r [] bd rfl bd bd (fun h=>absurd h zO)) ?_;rintro out ho A0 ⟨gc1,HL,vM,rfl,rfl,hgc1,hgf1⟩
 refine cB (vM≠0) (fun h1=>?_) fun h1=>?_
 ·exact xW hX (A2 [B4 2 32 eI [],.i .i64 vM]) ⟨_,_,rfl,rfl,by first|(simp;done)|(simp only[J5,CL]at *;omega),rfl⟩ (hv:=vT (u:=A2 [.sl 2 32 0 fun _=>.un,.i .i64 vM]) (F5 ⟨vN,.rfl _,zT⟩))
 ·refine kO [] (Ul ((List.range n).map fun i=>((fun i=>(g i)) i).of) bb0) ?_
  rintro out ho A0 ⟨rfl,rfl,rfl⟩
  refine kH [(1170,2)] [1170] (Uk ((List.range n).map fun i=>((fun i=>(g i)) i).of) bb0 (by first|assumption|(simp only[J5,CL];omega))) ?_;rintro out ho A0 ⟨⟨sl2,rfl,hsl2,hsk2⟩,rfl,rfl⟩
  exact xW hX (A2 [B4 2 32 eI sl2,.i .i64 0]) ⟨_,_,rfl,rfl,by first|(simp;done)|(simp only[J5,CL]at *;omega),rfl⟩
theorem YX(n:Nat)(g:Nat->Obj)(r:By)(hn:n<=65536)(hd:∀i,i<n->(g i).data.length<=100000):SatM Tryz.prog true 126 [.sl 0 33 n fun i=>C5 (g i),.bs 32 r] [] (fun out ho A0=>∃(l:List Fil) (e:Int),out=A2 [B4 2 3 O7 l,.i .i64 e]/\A0=[2]/\l.length<=1024/\FOk l/\ho=[]):=by
 refine fM true Tryz.func126 fun X0 w0 hX hm=>?_
 refine kM (fun _=>hm rfl) [] (XH n (fun i=>(g i)) true zO hd) ?_;rintro out ho A0 ⟨ba0,bb0,rfl,rfl,rfl⟩
 refine gI (fun _=>hm rfl) [(274,2),(275,3)] [274] (NC 8 1 zO rfl ((List.range n).map fun i=>((fun i=>(g i)) i).of) ba0 bb0 0 true [] 0 r [] bd rfl bd bd (fun h=>absurd h zO)) ?_;rintro out ho A0 ⟨gc1,HL,vM,rfl,rfl,hgc1,hgf1⟩
 refine cB (vM≠0) (fun h1=>?_) fun h1=>?_
 ·exact xW hX (A2 [B4 2 3 O7 [],.i .i64 vM]) ⟨_,_,rfl,rfl,by first|(simp;done)|(simp only[J5,CL]at *;omega),FOk.nil,rfl⟩ (hv:=vT (u:=A2 [.sl 2 3 0 fun _=>.un,.i .i64 vM]) (F5 ⟨vN,.rfl _,zT⟩))
 ·exact xW hX (A2 [B4 2 3 O7 HL,.i .i64 0]) ⟨_,_,rfl,rfl,by first|(simp;done)|(simp only[J5,CL]at *;omega),hgf1 FOk.nil,rfl⟩
theorem YY{l:List Ob}(ho:∀o∈l,o.data.ok w0/\o.data.len<=1048576)(H:Hp w0 w [] L):∀o∈l,o.data.ok w/\o.data.len<=1048576:=fun o h=>⟨(ho o h).1.up H (fun _=>U6 _),(ho o h).2⟩
theorem YZ{l:List Ob}{F:A8->Option RO}{n:Nat}(h:FD l F)(hn:l.length<=n)(m:List A8)(hm:m.Nodup)(hs:∀j∈m,(F j).isSome=true):m.length<=n:=by
 have h1:=BE (m:=l.map (·.of)) hm (fun x hx=>by
  have h2:=hs x hx
  have h3:(Z2 l x).isSome=true:=by rw[<-h x];cases hf:F x with
  |none=>rw[hf]at h2;cases h2
  |some v=>rfl
  obtain⟨s,hs'⟩:=gW.1 h3
  obtain⟨o,ho,e,_⟩:=xY hs'
  exact J4.2 ⟨o,ho,e⟩)
 rw[J5]at h1;omega
theorem ZA{l:List Ob}{F:A8->Option RO}{r:Bool}{R:List A8}(h:NA F r R)(hf:FD l F):RisA R/\∀k∈R,(Z2 l k).isSome=true:=⟨h.1,fun k hk=>by
 obtain⟨v,h1,_⟩:=(h.2 k).1 hk
 rw[<-hf k,h1];rfl⟩
theorem ZB(w0:World)(g:Gl Ob)(hg:g.ok tP 33 w0)(ho:∀o∈g.l,o.data.ok w0/\o.data.len<=1048576)(hgm:g.len<=65536)(r:Gl A8)(hr:r.ok C2 32 w0)(hrm:r.len<=65536)(hT:HT g.l w0):
  Ret Tryz.prog 135 [g.v,r.v] w0 fun v w'=>∃a k R,(RisA R/\∀k∈R,(Z2 g.l k).isSome=true)/\v=.slice (hd a) R.length k/\Hp w0 w' [] [.own a R.length k (R.flatMap C2) 34 32]:=by
 refine T4 Tryz.func135 rfl Tryz.ntmps135 (by simp) ?_
 have H:=Hp.refl w0 []
 have hgl:=hg.ln
 have qD:=hr.ln
 refine rG ?_;refine aZ ?_;refine eN ?_
 refine rG ?_;refine B9 ?_;refine B9 ?_;refine A3 (N4 Tryz.func173 rfl rfl rfl (YP _ g (hg.up H) (YY ho H) (by (try dsimp only);omega) r (hr.up H) (by (try dsimp only);omega) hT) ?_);rintro _ w ⟨b1,M2,c3,F4,rfl,hF5,hM6,hfo7,Hc⟩
 replace H:Hp _ w _ ([.obj b1 (B8 kA M2 c3)]):=H.call Hc
 clear Hc
 refine A3 (N4 Tryz.func172 rfl rfl rfl (YS _ b1 c3 M2 F4 true hF5 hM6 (H.has _ (E3 (i:=0) rfl)) (YZ hfo7 zO)) ?_);rintro _ w ⟨a8,k9,R10,hth11,rfl,Hc⟩
 replace H:=H.callP (L1:=[.obj b1 (B8 kA M2 c3)]) (Lr:=[]) (LL:=[.obj b1 (B8 kA M2 c3)]) (.refl _) rfl Hc (.refl _)
 clear Hc
 replace H:Hp _ w _ ([_,.own a8 R10.length k9 ((R10).flatMap C2) 34 32]):=H
 refine aZ ?_;refine eN ?_
 refine l9 ?_
 refine v8 (v:=.slice (hd a8) R10.length k9) Tryz.results135 rfl ?_
 refine⟨_,rfl,?_⟩
 exact⟨_,_,_,ZA hth11 hfo7,rfl,H.sub (.cons _ (.cons_cons _ (P6 _)))⟩
theorem ZC(w0:World)(g:Gl Ob)(hg:g.ok tP 33 w0)(ho:∀o∈g.l,o.data.ok w0/\o.data.len<=1048576)(hgm:g.len<=65536)(r:Gl A8)(hr:r.ok C2 32 w0)(hrm:r.len<=65536)(hT:HT g.l w0):
  Ret Tryz.prog 131 [g.v,r.v] w0 fun v w'=>∃a k R,(RisA R/\∀k∈R,(Z2 g.l k).isSome=true)/\v=.slice (hd a) R.length k/\Hp w0 w' [] [.own a R.length k (R.flatMap C2) 34 32]:=by
 refine T4 Tryz.func131 rfl Tryz.ntmps131 (by simp) ?_
 have H:=Hp.refl w0 []
 have hgl:=hg.ln
 have qD:=hr.ln
 refine rG ?_;refine aZ ?_;refine eN ?_
 refine rG ?_;refine B9 ?_;refine B9 ?_;refine A3 (N4 Tryz.func173 rfl rfl rfl (YP _ g (hg.up H) (YY ho H) (by (try dsimp only);omega) r (hr.up H) (by (try dsimp only);omega) hT) ?_);rintro _ w ⟨b1,M2,c3,F4,rfl,hF5,hM6,hfo7,Hc⟩
 replace H:Hp _ w _ ([.obj b1 (B8 kA M2 c3)]):=H.call Hc
 clear Hc
 refine A3 (N4 Tryz.func172 rfl rfl rfl (YS _ b1 c3 M2 F4 false hF5 hM6 (H.has _ (E3 (i:=0) rfl)) (YZ hfo7 zO)) ?_);rintro _ w ⟨a8,k9,R10,hth11,rfl,Hc⟩
 replace H:=H.callP (L1:=[.obj b1 (B8 kA M2 c3)]) (Lr:=[]) (LL:=[.obj b1 (B8 kA M2 c3)]) (.refl _) rfl Hc (.refl _)
 clear Hc
 replace H:Hp _ w _ ([_,.own a8 R10.length k9 ((R10).flatMap C2) 34 32]):=H
 refine aZ ?_;refine eN ?_
 refine l9 ?_
 refine v8 (v:=.slice (hd a8) R10.length k9) Tryz.results131 rfl ?_
 refine⟨_,rfl,?_⟩
 exact⟨_,_,_,ZA hth11 hfo7,rfl,H.sub (.cons _ (.cons_cons _ (P6 _)))⟩
theorem ZD{α:Type}{enc:α->List Value}{G:Nat->Nat->Ow}{b z:Nat}:∀(ys:List α) (o:Nat),(∀(i:Nat) y,ys[i]? =some y->(enc y).length=z/\FzAt G b (o+i*z) (enc y))->FzAt G b o (ys.flatMap enc)
|[],_,_=>fun k x h=>by simp at h
|y::ys,o,h=>fun k x hk=>by
  obtain⟨h1,h2⟩:=h 0 y rfl
  rw[gX]at hk
  by_cases hz:k<z
  ·rw[N7 zO]at hk
   have:=h2 k x hk
   rwa [Nat.zero_mul,s9]at this
  ·rw[L7 zO,h1]at hk
   have:=ZD ys (o+z) (fun i y' hy=>by
    obtain⟨h3,h4⟩:=h (i+1) y' hy
    exact⟨h3,by rw[G9,Nat.add_comm (i*z) z, <-O8]at h4;exact h4⟩) (k-z) x hk
   rwa [show o+z+(k-z)=o+k by omega]at this
theorem ND{α:Type}{enc:α->List Value}{hh:Nat->Nat->V}{t z n:Nat}{g:Nat->V}{Q:Nat->α->Prop}(H:Wd X0 X hh lv c w0 w)(hv:repv X lv' c' (.sl t z n g) x)(hd:∀i,i<n->∀es,rep X (g i) [] 2 es->es.length=z->∃y,enc y=es/\Q i y):
  ∃L:Gl α,x=L.v/\L.ok enc z w/\L.len=n/\(∀i,i<n->∃y,L.l[i]? =some y/\Q i y)/\(0<n->∃b o,L.a=some ⟨b,o,none⟩/\FzAt X.G b o (L.l.flatMap enc)/\(∀v∈L.l.flatMap enc,v.oneCell'=true)):=by
 obtain⟨hz,a,cap,e1,e2,e3,e4,e5,e6⟩:=hv
 have e1:x=.slice a n cap:=by simpa using e1
 by_cases hn:n=0
 ·subst hn
  exact⟨⟨a,0,cap,[]⟩,e1,⟨.inl rfl,rfl,e2,e3,fun c h=>by cases h⟩,rfl,fun i h=>absurd h zO,fun h=>absurd h zO⟩
 rcases e6 with⟨_,h2⟩|⟨b,o,rfl,hw,_⟩
 ·omega
 have build:∀m,m<=n->∃ys:List α,ys.length=m/\∀(i:Nat) y,ys[i]? =some y->Q i y/\(enc y).length=z/\(∀v∈enc y,v.oneCell'=true)/\FzAt X.G b (o+i*z) (enc y):=by
  intro m
  induction m with
 |zero=>intro _;exact⟨[],rfl,fun i p hp=>by simp at hp⟩
 |succ m ih=>
   intro hm
   obtain⟨ys,p1,p2⟩:=ih zO
   obtain⟨es,r1,r2,r3,r4⟩:=hw m zO
   obtain⟨y,rfl,hq⟩:=hd m zO es r1 r2
   refine⟨ys++[y],by simp[p1],fun i y' hp=>?_⟩
   by_cases hi:i<m
   ·rw[N7 zO]at hp;exact p2 i y' hp
   ·have:i=m:=by have:=(N0.1 hp).1;simp[p1]at this;omega
    subst this
    rw[L7 zO,p1,bG]at hp
    cases hp;exact⟨hq,r2,o5 r3 r1,r4⟩
 obtain⟨ys,p1,p2⟩:=build n (B5 _)
 have kX:∀y∈ys,∃i:Nat,ys[i]? =some y:=fun y hy=>BZ hy
 have dB:∀v∈ys.flatMap enc,v.oneCell'=true:=fun v hv=>by
  obtain⟨y,hy,h2⟩:=List.mem_flatMap.1 hv
  obtain⟨i,hi⟩:=kX y hy
  exact(p2 i y hi).2.2.1 v h2
 have W4:=ZD (G:=X.G) (b:=b) (z:=z) ys o fun i y hy=>⟨(p2 i y hy).2.1,(p2 i y hy).2.2.2⟩
 refine⟨⟨some ⟨b,o,none⟩,n,cap,ys⟩,e1,⟨H.rd dB W4,p1,e2,e3,fun y hy=>?_⟩,rfl,fun i hi=>?_,fun _=>⟨b,o,rfl,W4,dB⟩⟩
 ·obtain⟨i,hi⟩:=kX y hy
  exact(p2 i y hi).2.1
 ·have H7:ys[i]? =some ys[i]:=B7 zO
  exact⟨_,H7,(p2 i _ H7).1⟩
theorem ZE{m:MemPlace->Prop}(h:w.keptBut w' m)(h1:∀b i,¬ m (.cell b i))(h2:∀b,¬ m (.map b))(b:Nat)(hb:b<w.heap.size):w'.heap[b]? =w.heap[b]? :=by
 have:=h.2.2 b hb
 cases e:w.heap[b]? with
|none=>rw[e]at this;cases e':w'.heap[b]? <;>rw[e']at this<;>simp at this ⊢
|some O=>
  rw[e]at this
  cases e':w'.heap[b]? with
 |none=>rw[e']at this;cases O<;>simp at this
 |some O'=>
   rw[e']at this
   cases O<;>cases O'<;>simp only at this<;>try (exact this)
   ·obtain⟨q1,q2,q3,q4⟩:=this
    subst q1 q2
    congr 2
    exact IA fun j=>q4 j (h1 b j)
   ·rcases this with q|⟨q1,q2⟩
    ·exact absurd q (h2 b)
    ·subst q1 q2;rfl
def Cx.only(X:Cx)(ν:Nat):Cx:=⟨fun b i=>match X.G b i with|.fz x=>.fz x|_=>.no,fun _ _=>none,fun _ _ _=>True,0,ν,false⟩
theorem tR{ν b:Nat} :(X.only ν).G b i=.fz x↔X.G b i=.fz x:=by
 show(match X.G b i with|.fz x=>Ow.fz x|_=>.no)=.fz x↔_
 cases X.G b i<;>simp
theorem yC{ν b:Nat}(h:(X.only ν).G b i≠ .no):∃x,X.G b i=.fz x:=by
 cases e:X.G b i with
|fz x=>exact⟨x,rfl⟩
|_=>exact absurd (show(match X.G b i with|.fz x=>Ow.fz x|_=>.no)=.no by rw[e]) h
theorem Un{hh:Nat->Nat->V}(H:Wd X0 X hh lv c w0 w0)(hs:w0.heap.size<=w.heap.size)(hf:∀b,b<w0.heap.size->w.heap[b]? =w0.heap[b]?):Wd (X.only w.heap.size) (X.only w.heap.size) h0 [] 16 w w:=by
 have fz:∀b i x,(X.only w.heap.size).G b i=.fz x->FzOk (X.only w.heap.size) w b i x:=fun b i x h=>by
  have h:=tR.1 h
  have hb:=H.ex b i (by rw[h];simp)
  exact(H.fz b i x h).move (fun _ _ _ h=>tR.2 h) (by unfold World.cell?; rw[hf b hb]) (fun _ _ hm=>by rw[hf b hb];exact hm)
 exact { kb:=yS w _,tape:=rfl,fz0:=fun _ _ _ h=>h,no0:=fun _ _ _ h=>.inl h,mp0:=fun _ _ _ h=>h,ρ0:=fun _ _ _ h=>h
         ex:=fun b i h=>by obtain⟨x,hx⟩:=yC h;exact X5 (H.ex b i (by rw[hx];simp)) hs
         fz:=fz
         tp:=fun b i t h=>by obtain⟨x,hx⟩:=yC (by rw[h];simp);rw[tR.2 hx]at h;cases h
         rt:=fun _ _ _ _ _ h=>(by cases h)
         c2:=by omega,lvc:=fun _ h=>(by cases h),ρc:=fun _ _ _ h=>(by cases h),inv:=trivial,imo:=fun _ _ _ _ _ _ _ h=>h,κc:=L8 _,νe:=rfl,we:=rfl
         gz:=fun q hq=>by
          obtain⟨h1,C,T,fr,h2,h3⟩:=H.gz1 (X':=X.only w.heap.size) (fun _ _ _ h=>tR.2 h) q hq
          exact⟨h1,C,T,fr,by rw[hf q (Z3.1 h2).1];exact h2,h3⟩
         ν0:=B5 _,νs:=B5 _
         nf:=fun b hb ⟨i,hi⟩=>by
          obtain⟨x,hx⟩:=yC hi
          have h1:=H.ex b i (by rw[hx];simp)
          have:w.heap.size<=b:=hb
          omega}
theorem Uo{x:Itm}(h:rep X (I5 x) [] 2 es):∃y:It,mI y=es/\True:=by
 obtain⟨a3,d3,r3,⟨a2,d2,r2,⟨a1,d1,r1,⟨a0,d0,r0,hz,q0⟩,q1⟩,q2⟩,q3⟩:=h
 have hz:a0=[]:=hz
 have q0:d0=[.string ⟨x.name.toArray⟩]:=q0.1
 have q1:d1=[.int .i64 x.kind]:=q1.1
 have q2:x.of.length=32/\d2=x.of.map F0:=q2
 have q3:d3=[.int .i64 x.size]:=q3.1
 refine⟨⟨x.name,x.kind,⟨x.of,q2.1⟩,x.size⟩,?_,zT⟩
 have q2':=q2.2
 subst r3 r2 r1 r0 hz q0 q1 q2' q3
 simp[mI]
theorem Up{hh:Nat->Nat->V}{d:By}{v:Value}(H:Wd X0 X hh lv c w0 w0)(hv:repv X [] 2 (.bl q d) v)(Hk:Hp w0 w [] L):Ret Tryz.prog 186 [v] w (GW w0 w):=by
 have hf:∀b,b<w0.heap.size->w.heap[b]? =w0.heap[b]? :=fun b hb=>Hk.frame b hb (by simp)
 have W:=Un H Hk.size hf
 have uP:repv (X.only w.heap.size) [] 16 (.bl 0 d) v:=by
  obtain⟨a,cap,h1,h2,h3,h4,h5,h6⟩:=hv
  exact⟨a,cap,h1,h2,h3,zO,fun e=>by omega,h6.imp (fun⟨_,q⟩=>⟨.inr rfl,q⟩) fun⟨b,o,q1,q2,_⟩=>⟨b,o,q1,fun k x hk=>tR.2 (q2 k x hk),fun ht=>by simp at ht⟩⟩
 refine(XF d (X.only w.heap.size) w [v] rfl (fun i u x h1 h2=>?_) ⟨fun _ _=>rfl,rfl,fun _ _ _ _=>trivial⟩ W (fun h=>by cases h)).mono fun x w' ⟨X',ho,A0,out,⟨_,l,e,eo,_,hl,_⟩,hr,W'⟩=>?_
 ·match i,h1,h2 with
 |0,h1,h2=>cases h1;cases h2;exact uP
 subst eo
 obtain⟨C,rfl,hC,hc⟩:=hr
 obtain⟨y0,y1,y2⟩:=hc 0 (by show 0<2;omega)
 obtain⟨z0,z1,z2⟩:=hc 1 (by show 1<2;omega)
 have hz:z0=.int .i64 e:=(M0 z2).1
 obtain⟨I,i1,i2,i3,_,i5⟩:=ND (enc:=mI) (Q:=fun _ _=>True) W' y2 fun i hi es iE _=>Uo iE
 have hCe:C= #[I.v,VI e]:=by
  have h2:C.toList.length=2:=hC
  apply U0
  match h:C.toList,h2 with
 |[p,q],_=>
   have e0:C.toList[0]? =some y0:=by rw[uD];exact y1
   have e1:C.toList[1]? =some z0:=by rw[uD];exact z1
   rw[h]at e0 e1
   simp only[NY,CC,F2]at e0 e1
   rw[e0,e1,i1,hz]
 have nm:∀b i,¬ DW (X.only w.heap.size) (.cell b i):=fun b i h=>by
  rcases h with⟨r,j,k,h⟩|⟨t,h⟩
  ·obtain⟨x,hx⟩:=yC (by rw[h];simp);rw[tR.2 hx]at h;cases h
  ·obtain⟨x,hx⟩:=yC (by rw[h];simp);rw[tR.2 hx]at h;cases h
 have bL:∀b,b<w.heap.size->w'.heap[b]? =w.heap[b]? :=ZE W'.kb nm fun b h=>by cases h.1
 have G4:w.heap.size<=w'.heap.size:=W'.νs
 have P4:Hp w w' [] []:=⟨W'.kb.1,W'.tape,W'.kb.2.1,G4,fun b hb _=>bL b hb,(by simp),(by simp),.nil⟩
 by_cases hn:l.length=0
 ·refine⟨I,e,[],by rw[hCe],i2.ln,zO,fun w2 L2 _ _=>?_,P4⟩
  have:I.l=[]:=j5.1 (by rw[i2.ln,i3];exact hn)
  exact⟨.inl (by rw[this];rfl),i2.ln,i2.le,i2.mx,i2.sz⟩
 obtain⟨b,o,ia,W4,dB⟩:=i5 zO
 have hpos:0<(I.l.flatMap mI).length:=by
  rw[xT i2.sz,i2.ln,i3];omega
 have h0:=W4 0 _ (B7 hpos)
 have jQ:=W'.ex b _ (by rw[h0];simp)
 obtain⟨O,hO⟩:∃O,w'.heap[b]? =some O:=⟨_,yQ jQ⟩
 have stay:∀w2:World,w2.heap[b]? =some O->I.ok mI 35 w2:=fun w2 h2=>⟨by
  rcases i2.rd with h|⟨b',o',C',T',bK,h3,h4,h5⟩
  ·exact .inl h
  ·rw[ia]at h3
   cases h3
   exact .inr ⟨b,o,C',T',bK,ia,by rw[h2, <-hO];exact h4,h5⟩,i2.ln,i2.le,i2.mx,i2.sz⟩
 by_cases hb:b<w.heap.size
 ·have S9:b<w0.heap.size:=by
   have D6:(X.only w.heap.size).G b (o+0)≠ .no:=fun dZ=>by
    rcases W'.no0 b _ hb dZ with h|⟨t,h⟩
    ·rw[h]at h0;cases h0
    ·rw[h]at h0
     have:O1 t=(I.l.flatMap mI)[0]:=by injection h0
     exact oE (t:=t) (by rw[this];exact dB _ (dS _))
   obtain⟨x,hx⟩:=yC D6
   exact H.ex b _ (by rw[hx];simp)
  refine⟨I,e,[],by rw[hCe],i2.ln,zO,fun w2 L2 H2 _=>stay w2 ?_,P4⟩
  rw[H2.frame b S9 (by simp), <-hf b S9, <-bL b hb,hO]
 ·refine⟨I,e,[.obj b O],by rw[hCe],i2.ln,zO,fun w2 L2 H2 hs=>stay w2 (H2.has _ (hs.subset (O9.2 rfl))),⟨P4.os,P4.tape,P4.output,G4,P4.frame,fun c hc=>?_,fun c hc b' hk=>?_,List.pairwise_singleton _ _⟩⟩
  ·rw[O9.1 hc];exact hO
  ·rw[O9.1 hc]at hk
   have:b=b':=by simpa [Ch.key] using hk
   exact .inr zO
theorem Uq{x:Obj}(h:rep X (C5 x) [] 2 es):∃y:Ob,tP y=es/\(y.of.1=x.of/\y.data.l=x.data/\repv X [] 2 (.bl 0 x.data) y.data.v/\y.data.len=x.data.length):=by
 obtain⟨a1,d1,r1,⟨a0,d0,r0,hz,q0⟩,q1⟩:=h
 have hz:a0=[]:=hz
 have q0:x.of.length=32/\d0=x.of.map F0:=q0
 have q1:rep X (.bl 0 x.data) [] 2 d1:=q1
 obtain⟨a,cap,e1,h2⟩:=q1
 have q0':=q0.2
 subst r1 r0 hz q0' e1
 exact⟨⟨⟨x.of,q0.1⟩,⟨a,x.data.length,cap,x.data⟩⟩,by simp[tP,Sl.v],rfl,rfl,⟨a,cap,rfl,h2⟩,rfl⟩
theorem Ur{x:By}(h:rep X (eI x) [] 2 es):∃y:A8,C2 y=es/\True:=⟨⟨x,h.1⟩,h.2.symm,zT⟩
theorem GZ{f:FuncId}(hf:∀(w0:World) (g:Gl Ob),g.ok tP 33 w0->(∀o∈g.l,o.data.ok w0/\o.data.len<=1048576)->g.len<=65536->∀(r:Gl A8),r.ok C2 32 w0->r.len<=65536->HT g.l w0->
   Ret Tryz.prog f [g.v,r.v] w0 fun v w'=>∃a k R,(RisA R/\∀k∈R,(Z2 g.l k).isSome=true)/\v=.slice (hd a) R.length k/\Hp w0 w' [] [.own a R.length k (R.flatMap C2) 34 32])
  (n m:Nat)(g:Nat->Obj)(h:Nat->By)(hn:n<=65536)(hm:m<=65536)(hd:∀i,i<n->(g i).data.length<=100000):Sat Tryz.prog f [.sl 0 33 n fun i=>C5 (g i),.sl 0 32 m fun i=>eI (h i)] [] (fun out A0=>∃l:List By,out=B4 2 32 eI l/\A0=[2]/\l.length<=n/\∀x∈l,x∈(List.range n).map fun i=>(g i).of):=fun X w vs D8 aN hX H _=>by
 match vs,D8 with
|[x0,x1],_=>
 obtain⟨G,g1,g2,g3,g4,_⟩:=ND (enc:=tP) H (aN 0 _ _ rfl rfl) fun i hi es iE _=>Uq iE
 obtain⟨R,r1,r2,r3,_⟩:=ND (enc:=C2) (Q:=fun _ _=>True) H (aN 1 _ _ rfl rfl) fun i hi es iE _=>Ur iE
 subst g1 r1
 have kX:∀o∈G.l,∃i,i<n/\(o.of.1=(g i).of/\o.data.l=(g i).data/\repv X [] 2 (.bl 0 (g i).data) o.data.v/\o.data.len=(g i).data.length):=fun o ho=>by
  obtain⟨i,hi⟩:=BZ ho
  have W0:i<n:=by have:=(N0.1 hi).1;rw[g2.ln,g3]at this;exact this
  obtain⟨y,h1,h2⟩:=g4 i W0
  rw[hi]at h1;cases h1;exact⟨i,W0,h2⟩
 refine(hf w G g2 (fun o ho=>?_) zO R r2 zO fun o ho w2 L Hk=>?_).mono fun v w' ⟨a,k,Q,⟨q1,q2⟩,q3,Hk⟩=>?_
 ·obtain⟨i,hi,e1,e2,e3,e4⟩:=kX o ho
  have hl:=hd i hi
  refine⟨?_,zO⟩
  obtain⟨a,cap,f1,f2,f3,f4⟩:=xI (lv:=[]) H (repv.mono (v:=.bl 0 (g i).data) (c:=2) (c':=16) (Cx.le.rfl' X [] 2) zO e3)
  have f1:Value.slice o.data.a o.data.len o.data.cap=.slice a (g i).data.length cap:=f1
  simp only[Value.slice.injEq]at f1
  obtain⟨k1,k2,k3⟩:=f1
  exact⟨by rw[e2,k1];exact f4,by rw[e2,e4],zO,by rw[e4];omega⟩
 ·obtain⟨i,hi,e1,e2,e3,e4⟩:=kX o ho
  exact Up H e3 Hk
 ·obtain⟨X',w1,w2⟩:=YU (nm:=2) H Hk (fun s hs=>by cases hs) (by rw[hX.κ];omega) zO
  subst q3
  have B3:=BE (m:=G.l.map (·.of)) q1.nd fun x hx=>by
   obtain⟨s,hs⟩:=gW.1 (q2 x hx)
   obtain⟨o,ho,e,_⟩:=xY hs
   exact J4.2 ⟨o,ho,e⟩
  rw[J5,g2.ln,g3]at B3
  exact⟨X',[],[2],_,⟨rfl,Q.map (·.1),rfl,rfl,by rw[J5];exact B3,fun x hx=>by
   obtain⟨y,hy,rfl⟩:=J4.1 hx
   obtain⟨s,hs⟩:=gW.1 (q2 y hy)
   obtain⟨o,ho,e,_⟩:=xY hs
   obtain⟨i,hi,e1,_⟩:=kX o ho
   exact J4.2 ⟨i,yR.2 hi,by rw[<-e1,e]⟩⟩,w1,by
   have e:S4 ([]:List (Nat×V))=h0:=by funext r j;cases j<;>rfl
   rw[e];exact w2⟩
theorem Us:type_of% (GZ ZB):=GZ ZB
theorem Ut:type_of% (GZ ZC):=GZ ZC
theorem Uu(n:Nat)(g:Nat->TenR)(hn:n<=1000000):SatM Tryz.prog false 53 [.sl 0 38 n fun i=>A7 (g i)] [] (fun out ho A0=>out=.os 16 38/\ho=[(16,.ar 38 n fun i=>A7 (g i))]/\A0=[16]):=by
 refine fM false Tryz.func53 fun X0 w0 hX hm=>?_
 refine mM fO true ?_;refine c0 (n) (fun h1=>?_) ?_
 ·subst h1
  exact xC (fn:=Tryz.f53) hX 38 (fun _=>.un) (fun i=>A7 (g i)) zK (⟨rfl,rfl,rfl⟩)
 ·refine cC (n*136<=140737488355328) ?_
  exact xW hX (.os 16 38) ⟨rfl,rfl,rfl⟩
theorem NE(n:Nat)(g:Nat->Obj)(hn:n<=1000000):SatM Tryz.prog false 56 [.sl 0 33 n fun i=>C5 (g i)] [] (fun out ho A0=>out=.os 16 33/\ho=[(16,.ar 33 n fun i=>C5 (g i))]/\A0=[16]):=by
 refine fM false Tryz.func56 fun X0 w0 hX hm=>?_
 refine mM fO true ?_;refine c0 (n) (fun h1=>?_) ?_
 ·subst h1
  exact xC (fn:=Tryz.f56) hX 33 (fun _=>.un) (fun i=>C5 (g i)) zK (⟨rfl,rfl,rfl⟩)
 ·refine cC (n*56<=140737488355328) ?_
  exact xW hX (.os 16 33) ⟨rfl,rfl,rfl⟩
theorem NF(n:Nat)(g:Nat->Snp)(hn:n<=1000000):SatM Tryz.prog false 57 [.sl 0 36 n fun i=>C9 (g i)] [] (fun out ho A0=>out=.os 16 36/\ho=[(16,.ar 36 n fun i=>C9 (g i))]/\A0=[16]):=by
 refine fM false Tryz.func57 fun X0 w0 hX hm=>?_
 refine mM fO true ?_;refine c0 (n) (fun h1=>?_) ?_
 ·subst h1
  exact xC (fn:=Tryz.f57) hX 36 (fun _=>.un) (fun i=>C9 (g i)) zK (⟨rfl,rfl,rfl⟩)
 ·refine cC (n*72<=140737488355328) ?_
  exact xW hX (.os 16 36) ⟨rfl,rfl,rfl⟩
theorem HA(n:Nat)(g:Nat->Doo)(hn:n<=1000000):SatM Tryz.prog false 58 [.sl 0 33 n fun i=>E1 (g i)] [] (fun out ho A0=>out=.os 16 33/\ho=[(16,.ar 33 n fun i=>E1 (g i))]/\A0=[16]):=by
 refine fM false Tryz.func58 fun X0 w0 hX hm=>?_
 refine mM fO true ?_;refine c0 (n) (fun h1=>?_) ?_
 ·subst h1
  exact xC (fn:=Tryz.f58) hX 33 (fun _=>.un) (fun i=>E1 (g i)) zK (⟨rfl,rfl,rfl⟩)
 ·refine cC (n*40<=140737488355328) ?_
  exact xW hX (.os 16 33) ⟨rfl,rfl,rfl⟩
theorem Uv(n:Nat)(g:Nat->Ent)(hn:n<=1000000):SatM Tryz.prog false 55 [.sl 0 38 n fun i=>H9 (g i)] [] (fun out ho A0=>out=.os 16 38/\ho=[(16,.ar 38 n fun i=>H9 (g i))]/\A0=[16]):=by
 refine fM false Tryz.func55 fun X0 w0 hX hm=>?_
 refine mM fO true ?_;refine c0 (n) (fun h1=>?_) ?_
 ·subst h1
  exact xC (fn:=Tryz.f55) hX 38 (fun _=>.un) (fun i=>H9 (g i)) zK (⟨rfl,rfl,rfl⟩)
 ·refine cC (n*88<=140737488355328) ?_
  exact xW hX (.os 16 38) ⟨rfl,rfl,rfl⟩
theorem Uw(n:Nat)(g:Nat->Int)(hn:n<=1000000):SatM Tryz.prog false 54 [.sl 0 1 n fun i=>.i .u64 (g i)] [] (fun out ho A0=>out=.os 16 1/\ho=[(16,.ar 1 n fun i=>eU (g i))]/\A0=[16]):=by
 refine fM false Tryz.func54 fun X0 w0 hX hm=>?_
 refine mM fO true ?_;refine c0 (n) (fun h1=>?_) ?_
 ·subst h1
  exact xC (fn:=Tryz.f54) hX 1 (fun _=>.un) (fun i=>.i .u64 (g i)) zK (⟨rfl,rfl,rfl⟩)
 ·refine cC (n*8<=140737488355328) ?_
  exact xW hX (.os 16 1) ⟨rfl,rfl,rfl⟩
theorem bc{p:Prop}(h:p:=by first|omega|(simp only;omega)):p:=h
structure StB (s:StaR) (n:Nat) (tg:Nat->TenR):Prop where
 hn:n<=1000
 hr:s.nr<=100000
 hl:s.nl<=100000
 hb:∀i,i<n->(tg i).nb<=65536/\(tg i).ns<=65536/\(tg i).nd<=65536
 hd:∀i,i<n->∀j,j<(tg i).nb->((tg i).gb j).data.length<=100000
def Ux(a:Nat)(t:TenR):V:=A1 [.s t.name,.bs 32 t.key,.i .i64 t.quota,.i .i64 t.next,.os a 33,.os (a+1) 36,.os (a+2) 33]
def yD(a:Nat)(s:StaR):V:=A1 [.bs 32 s.root,.i .i64 s.delay,.i .u64 s.serial,.os a 38,.os (a+1) 1,.os (a+2) 38,.bs 32 s.head]
def Uy(a:Nat)(t:TenR):List (Nat×V):=[(a,.ar 33 t.nb fun i=>C5 (t.gb i)),(a+1,.ar 36 t.ns fun i=>C9 (t.gs i)),(a+2,.ar 33 t.nd fun i=>E1 (t.gd i))]
def yE(a:Nat)(T:V)(s:StaR):List (Nat×V):=[(a,T),(a+1,.ar 1 s.nr fun i=>eU (s.gr i)),(a+2,.ar 38 s.nl fun i=>H9 (s.gl i))]
def Uz(n:Nat)(tg:Nat->TenR)(i0 a:Nat):V:=.fo 38 (.ar 38 n fun i=>A7 (tg i)) i0 (Ux a (tg i0))
theorem ZF(s:StaR)(n:Nat)(tg:Nat->TenR)(i0:Nat)(hB:StB s n tg):SatM Tryz.prog false 24 [G1 (.sl 0 38 n fun i=>A7 (tg i)) s] [] (fun out ho A0=>(i0<n/\out=yD 16 s/\ho=yE 16 (Uz n tg i0 20) s++Uy 20 (tg i0)/\A0=[16,17,18,20,21,22])\/(n<=i0/\out=yD 16 s/\ho=yE 16 (.ar 38 n fun i=>A7 (tg i)) s/\A0=[16,17,18])):=by
 refine fM false Tryz.func24 fun X0 w0 hX hm=>?_
 have hn:=hB.hn
 have hr:=hB.hr
 have hl:=hB.hl
 refine mM fO true ?_;refine kO [] (Uu n (fun i=>(tg i)) (bc)) ?_;rintro out ho A0 ⟨rfl,rfl,rfl⟩
 refine kO [] (Uw s.nr (fun i=>(s.gr i)) (bc)) ?_;rintro out ho A0 ⟨rfl,rfl,rfl⟩
 refine kO [] (Uv s.nl (fun i=>(s.gl i)) (bc)) ?_;rintro out ho A0 ⟨rfl,rfl,rfl⟩
 refine No hX (fun(k:Nat)=>[(1,.pr 16 0 []),(2,.pr 80 0 []),(20,.i .i64 (n:Int)),(21,.i .i64 (k:Int)),(1000003,A2 [])]) (fun(k:Nat)=>[(16,A1 [.bs 32 s.root,.i .i64 s.delay,.i .u64 s.serial,.os 544 38,.os 672 1,.os 736 38,.bs 32 s.head]),(544,.ar 38 n fun i=>A7 (tg i)),(672,.ar 1 s.nr fun i=>.i .u64 (s.gr i)),(736,.ar 38 s.nl fun i=>H9 (s.gl i)),(80,A1 [.bs 32 (replicate 32 0),.i .i64 0,.i .u64 0,.sl 1 38 0 fun _=>.un,.sl 1 1 0 fun _=>.un,.sl 1 38 0 fun _=>.un,.bs 32 (replicate 32 0)])]) (fun(k:Nat)=>[(1,.pr 16 0 []),(2,.pr 80 0 []),(20,.i .i64 (n:Int)),(21,.i .i64 (k:Int)),(1000003,A2 [])]) (fun(k:Nat)=>[(16,A1 [.bs 32 s.root,.i .i64 s.delay,.i .u64 s.serial,.os 544 38,.os 672 1,.os 736 38,.bs 32 s.head]),(544,.fo 38 (.ar 38 n fun i=>A7 (tg i)) i0 (A1 [.s ((tg i0).name),.bs 32 ((tg i0).key),.i .i64 ((tg i0).quota),.i .i64 ((tg i0).next),.os 20 33,.os 21 36,.os 22 33])),(20,.ar 33 ((tg i0).nb) fun i=>C5 ((tg i0).gb i)),(21,.ar 36 ((tg i0).ns) fun i=>C9 ((tg i0).gs i)),(22,.ar 33 ((tg i0).nd) fun i=>E1 ((tg i0).gd i)),(672,.ar 1 s.nr fun i=>.i .u64 (s.gr i)),(736,.ar 38 s.nl fun i=>H9 (s.gl i)),(80,A1 [.bs 32 (replicate 32 0),.i .i64 0,.i .u64 0,.sl 1 38 0 fun _=>.un,.sl 1 1 0 fun _=>.un,.sl 1 38 0 fun _=>.un,.bs 32 (replicate 32 0)])]) (fun(p:Bool×Nat)=>(bif p.1 then i0<p.2 else p.2<=i0)/\p.2<=n) (fun(k:Nat)=>n-k) [(544,544),(672,672),(736,736)] [544,672,736] [20,21,22,544,672,736] 1360 0 (by dsimp only[cond_false];omega) ⟨v0,v0,v0,v0,v0,zT⟩ ⟨v0,v0,v0,v0,v0,zT⟩ ?_ ?_
 ·rintro k hI R hR hR2
  dsimp only[cond_false,cond_true]at hI
  by_cases he:k=i0
  ·refine cB ((k:Int)<(n:Int)) (fun h1=>?_) fun h1=>?_
   ·have hb:=hB.hb k zO
    have hd:=hB.hd k zO
    refine gR 544 (.ar 38 n fun i=>A7 (tg i)) (.fo 38 (.ar 38 n fun i=>A7 (tg i)) k (A7 (tg k))) (aA zO rfl) ?_;refine cC ((0:Int)<=(k:Int)/\(k:Int)<(n:Int)) ?_;refine cC (k=k) ?_;refine cC (k=k) ?_;refine cC (k=k) ?_;refine kO [] (NE ((tg k).nb) (fun i=>((tg k).gb i)) (bc)) ?_;rintro out ho A0 ⟨rfl,rfl,rfl⟩
    refine kO [] (NF ((tg k).ns) (fun i=>((tg k).gs i)) (bc)) ?_;rintro out ho A0 ⟨rfl,rfl,rfl⟩
    refine kO [] (HA ((tg k).nd) (fun i=>((tg k).gd i)) (bc)) ?_;rintro out ho A0 ⟨rfl,rfl,rfl⟩
    refine cC (k=k) ?_;refine cC (k=k) ?_;refine cC (k=k) ?_;refine cC (k=k) ?_;refine cM hX (fun(j:Nat)=>[(1,.pr 16 0 []),(2,.pr 80 0 []),(4,.pr 544 0 [.e k 38 n]),(20,.i .i64 (n:Int)),(21,.i .i64 (k:Int)),(56,.i .i64 ((tg k).nb:Int)),(57,.i .i64 (j:Int)),(1000003,A2 [])]) (fun(j:Nat)=>[(16,A1 [.bs 32 s.root,.i .i64 s.delay,.i .u64 s.serial,.os 544 38,.os 672 1,.os 736 38,.bs 32 s.head]),(672,.ar 1 s.nr fun i=>.i .u64 (s.gr i)),(736,.ar 38 s.nl fun i=>H9 (s.gl i)),(80,A1 [.bs 32 (replicate 32 0),.i .i64 0,.i .u64 0,.sl 1 38 0 fun _=>.un,.sl 1 1 0 fun _=>.un,.sl 1 38 0 fun _=>.un,.bs 32 (replicate 32 0)]),(544,.fo 38 (.ar 38 n fun i=>A7 (tg i)) k (A1 [.s ((tg k).name),.bs 32 ((tg k).key),.i .i64 ((tg k).quota),.i .i64 ((tg k).next),.os 2848 33,.os 2912 36,.os 2976 33])),(2848,.ar 33 ((tg k).nb) fun i=>C5 ((tg k).gb i)),(2912,.ar 36 ((tg k).ns) fun i=>C9 ((tg k).gs i)),(2976,.ar 33 ((tg k).nd) fun i=>E1 ((tg k).gd i))]) (fun(j:Nat)=>j<=(tg k).nb) (fun(j:Nat)=>(tg k).nb-j) [544,672,736,2848,2912,2976] 3984 0 zO ?_;rintro j hJ R1 lK
    refine cB ((j:Int)<((tg k).nb:Int)) (fun h2=>?_) fun h2=>?_
    ·have hdj:=hd j zO
     refine gR 2848 (.ar 33 ((tg k).nb) fun i=>C5 ((tg k).gb i)) (.fo 33 (.ar 33 ((tg k).nb) fun i=>C5 ((tg k).gb i)) j (C5 ((tg k).gb j))) (aA zO rfl) ?_;refine cC (k=k) ?_;refine cC (k=k) ?_;refine cC ((0:Int)<=(j:Int)/\(j:Int)<((tg k).nb:Int)) ?_;refine cC (j=j) ?_;refine cK [] (tF (((tg k).gb j).data) bd) ?_;rintro out A0 ⟨rfl,rfl⟩
     refine cC ((0:Int)<=(j:Int)/\(j:Int)<((tg k).nb:Int)) ?_;refine cC (j=j) ?_;refine gR 2848 (.fo 33 (.ar 33 ((tg k).nb) fun i=>C5 ((tg k).gb i)) j (A1 [.bs 32 (((tg k).gb j).of),.bl 5010 (((tg k).gb j).data)])) (.ar 33 ((tg k).nb) fun i=>C5 ((tg k).gb i)) (eT rfl rfl rfl) ?_;exact cA hX (lK (j+1) zO zO) (hS:=⟨v0,v0,v0,v0,v0,v0,(vS bd),v0,zT⟩)
    ·exact cA hX (hR2 (k+1) (by dsimp only[cond_false,cond_true];omega) zO) (hS:=⟨v0,v0,v0,(vS bd),v0,zT⟩) (hH:=⟨v0,(vT (u:=.fo 38 (.ar 38 n fun i=>A7 (tg i)) k (A1 [.s ((tg k).name),.bs 32 ((tg k).key),.i .i64 ((tg k).quota),.i .i64 ((tg k).next),.os 20 33,.os 21 36,.os 22 33])) (.of_eq (by rw[he]))),(vT (u:=.ar 33 ((tg k).nb) fun i=>C5 ((tg k).gb i)) (.of_eq (by rw[he]))),(vT (u:=.ar 36 ((tg k).ns) fun i=>C9 ((tg k).gs i)) (.of_eq (by rw[he]))),(vT (u:=.ar 33 ((tg k).nd) fun i=>E1 ((tg k).gd i)) (.of_eq (by rw[he]))),v0,v0,v0,zT⟩)
   ·exact xW hX (A1 [.bs 32 s.root,.i .i64 s.delay,.i .u64 s.serial,.os 16 38,.os 17 1,.os 18 38,.bs 32 s.head]) (.inr ⟨zO,rfl,rfl,rfl⟩)
  ·refine cB ((k:Int)<(n:Int)) (fun h3=>?_) fun h3=>?_
   ·have hb:=hB.hb k zO
    have hd:=hB.hd k zO
    refine gR 544 (.ar 38 n fun i=>A7 (tg i)) (.fo 38 (.ar 38 n fun i=>A7 (tg i)) k (A7 (tg k))) (aA zO rfl) ?_;refine cC ((0:Int)<=(k:Int)/\(k:Int)<(n:Int)) ?_;refine cC (k=k) ?_;refine cC (k=k) ?_;refine cC (k=k) ?_;refine kO [] (NE ((tg k).nb) (fun i=>((tg k).gb i)) (bc)) ?_;rintro out ho A0 ⟨rfl,rfl,rfl⟩
    refine kO [] (NF ((tg k).ns) (fun i=>((tg k).gs i)) (bc)) ?_;rintro out ho A0 ⟨rfl,rfl,rfl⟩
    refine kO [] (HA ((tg k).nd) (fun i=>((tg k).gd i)) (bc)) ?_;rintro out ho A0 ⟨rfl,rfl,rfl⟩
    refine cC (k=k) ?_;refine cC (k=k) ?_;refine cC (k=k) ?_;refine cC (k=k) ?_;refine cM hX (fun(j:Nat)=>[(1,.pr 16 0 []),(2,.pr 80 0 []),(4,.pr 544 0 [.e k 38 n]),(20,.i .i64 (n:Int)),(21,.i .i64 (k:Int)),(56,.i .i64 ((tg k).nb:Int)),(57,.i .i64 (j:Int)),(1000003,A2 [])]) (fun(j:Nat)=>[(16,A1 [.bs 32 s.root,.i .i64 s.delay,.i .u64 s.serial,.os 544 38,.os 672 1,.os 736 38,.bs 32 s.head]),(672,.ar 1 s.nr fun i=>.i .u64 (s.gr i)),(736,.ar 38 s.nl fun i=>H9 (s.gl i)),(80,A1 [.bs 32 (replicate 32 0),.i .i64 0,.i .u64 0,.sl 1 38 0 fun _=>.un,.sl 1 1 0 fun _=>.un,.sl 1 38 0 fun _=>.un,.bs 32 (replicate 32 0)]),(544,.fo 38 (.ar 38 n fun i=>A7 (tg i)) k (A1 [.s ((tg k).name),.bs 32 ((tg k).key),.i .i64 ((tg k).quota),.i .i64 ((tg k).next),.os 2848 33,.os 2912 36,.os 2976 33])),(2848,.ar 33 ((tg k).nb) fun i=>C5 ((tg k).gb i)),(2912,.ar 36 ((tg k).ns) fun i=>C9 ((tg k).gs i)),(2976,.ar 33 ((tg k).nd) fun i=>E1 ((tg k).gd i))]) (fun(j:Nat)=>j<=(tg k).nb) (fun(j:Nat)=>(tg k).nb-j) [544,672,736,2848,2912,2976] 3984 0 zO ?_;rintro j hJ R1 lK
    refine cB ((j:Int)<((tg k).nb:Int)) (fun h4=>?_) fun h4=>?_
    ·have hdj:=hd j zO
     refine gR 2848 (.ar 33 ((tg k).nb) fun i=>C5 ((tg k).gb i)) (.fo 33 (.ar 33 ((tg k).nb) fun i=>C5 ((tg k).gb i)) j (C5 ((tg k).gb j))) (aA zO rfl) ?_;refine cC (k=k) ?_;refine cC (k=k) ?_;refine cC ((0:Int)<=(j:Int)/\(j:Int)<((tg k).nb:Int)) ?_;refine cC (j=j) ?_;refine cK [] (tF (((tg k).gb j).data) bd) ?_;rintro out A0 ⟨rfl,rfl⟩
     refine cC ((0:Int)<=(j:Int)/\(j:Int)<((tg k).nb:Int)) ?_;refine cC (j=j) ?_;refine gR 2848 (.fo 33 (.ar 33 ((tg k).nb) fun i=>C5 ((tg k).gb i)) j (A1 [.bs 32 (((tg k).gb j).of),.bl 5010 (((tg k).gb j).data)])) (.ar 33 ((tg k).nb) fun i=>C5 ((tg k).gb i)) (eT rfl rfl rfl) ?_;exact cA hX (lK (j+1) zO zO) (hS:=⟨v0,v0,v0,v0,v0,v0,(vS bd),v0,zT⟩)
    ·refine gZ 2848 ?_
     refine gZ 2912 ?_;refine gZ 2976 ?_;refine gR 544 (.fo 38 (.ar 38 n fun i=>A7 (tg i)) k (A1 [.s ((tg k).name),.bs 32 ((tg k).key),.i .i64 ((tg k).quota),.i .i64 ((tg k).next),.sl 2848 33 ((tg k).nb) fun i=>C5 ((tg k).gb i),.sl 2912 36 ((tg k).ns) fun i=>C9 ((tg k).gs i),.sl 2976 33 ((tg k).nd) fun i=>E1 ((tg k).gd i)])) (.ar 38 n fun i=>A7 (tg i)) (eT rfl rfl rfl) ?_;exact cA hX (hR (k+1) (by dsimp only[cond_false,cond_true];omega) zO) (hS:=⟨v0,v0,v0,(vS bd),v0,zT⟩)
   ·exact xW hX (A1 [.bs 32 s.root,.i .i64 s.delay,.i .u64 s.serial,.os 16 38,.os 17 1,.os 18 38,.bs 32 s.head]) (.inr ⟨zO,rfl,rfl,rfl⟩)
 ·rintro k hI R hR2
  dsimp only[cond_false,cond_true]at hI
  refine cB ((k:Int)<(n:Int)) (fun h5=>?_) fun h5=>?_
  ·have hb:=hB.hb k zO
   have hd:=hB.hd k zO
   refine gR 544 (.fo 38 (.ar 38 n fun i=>A7 (tg i)) i0 (A1 [.s ((tg i0).name),.bs 32 ((tg i0).key),.i .i64 ((tg i0).quota),.i .i64 ((tg i0).next),.os 20 33,.os 21 36,.os 22 33])) (.fo 38 (.fo 38 (.ar 38 n fun i=>A7 (tg i)) i0 (A1 [.s ((tg i0).name),.bs 32 ((tg i0).key),.i .i64 ((tg i0).quota),.i .i64 ((tg i0).next),.os 20 33,.os 21 36,.os 22 33])) k (A7 (tg k))) (Lx zO zO rfl) ?_;refine cC ((0:Int)<=(k:Int)/\(k:Int)<(n:Int)) ?_;refine cC (k=k) ?_;refine cC (k=k) ?_;refine cC (k=k) ?_;refine kO [] (NE ((tg k).nb) (fun i=>((tg k).gb i)) (bc)) ?_;rintro out ho A0 ⟨rfl,rfl,rfl⟩
   refine kO [] (NF ((tg k).ns) (fun i=>((tg k).gs i)) (bc)) ?_;rintro out ho A0 ⟨rfl,rfl,rfl⟩
   refine kO [] (HA ((tg k).nd) (fun i=>((tg k).gd i)) (bc)) ?_;rintro out ho A0 ⟨rfl,rfl,rfl⟩
   refine cC (k=k) ?_;refine cC (k=k) ?_;refine cC (k=k) ?_;refine cC (k=k) ?_;refine cM hX (fun(j:Nat)=>[(1,.pr 16 0 []),(2,.pr 80 0 []),(4,.pr 544 0 [.e k 38 n]),(20,.i .i64 (n:Int)),(21,.i .i64 (k:Int)),(56,.i .i64 ((tg k).nb:Int)),(57,.i .i64 (j:Int)),(1000003,A2 [])]) (fun(j:Nat)=>[(16,A1 [.bs 32 s.root,.i .i64 s.delay,.i .u64 s.serial,.os 544 38,.os 672 1,.os 736 38,.bs 32 s.head]),(672,.ar 1 s.nr fun i=>.i .u64 (s.gr i)),(736,.ar 38 s.nl fun i=>H9 (s.gl i)),(80,A1 [.bs 32 (replicate 32 0),.i .i64 0,.i .u64 0,.sl 1 38 0 fun _=>.un,.sl 1 1 0 fun _=>.un,.sl 1 38 0 fun _=>.un,.bs 32 (replicate 32 0)]),(544,.fo 38 (.fo 38 (.ar 38 n fun i=>A7 (tg i)) i0 (A1 [.s ((tg i0).name),.bs 32 ((tg i0).key),.i .i64 ((tg i0).quota),.i .i64 ((tg i0).next),.os 20 33,.os 21 36,.os 22 33])) k (A1 [.s ((tg k).name),.bs 32 ((tg k).key),.i .i64 ((tg k).quota),.i .i64 ((tg k).next),.os 2848 33,.os 2912 36,.os 2976 33])),(20,.ar 33 ((tg i0).nb) fun i=>C5 ((tg i0).gb i)),(21,.ar 36 ((tg i0).ns) fun i=>C9 ((tg i0).gs i)),(22,.ar 33 ((tg i0).nd) fun i=>E1 ((tg i0).gd i)),(2848,.ar 33 ((tg k).nb) fun i=>C5 ((tg k).gb i)),(2912,.ar 36 ((tg k).ns) fun i=>C9 ((tg k).gs i)),(2976,.ar 33 ((tg k).nd) fun i=>E1 ((tg k).gd i))]) (fun(j:Nat)=>j<=(tg k).nb) (fun(j:Nat)=>(tg k).nb-j) [20,21,22,544,672,736,2848,2912,2976] 3984 0 zO ?_;rintro j hJ R1 lK
   refine cB ((j:Int)<((tg k).nb:Int)) (fun h6=>?_) fun h6=>?_
   ·have hdj:=hd j zO
    refine gR 2848 (.ar 33 ((tg k).nb) fun i=>C5 ((tg k).gb i)) (.fo 33 (.ar 33 ((tg k).nb) fun i=>C5 ((tg k).gb i)) j (C5 ((tg k).gb j))) (aA zO rfl) ?_;refine cC (k=k) ?_;refine cC (k=k) ?_;refine cC ((0:Int)<=(j:Int)/\(j:Int)<((tg k).nb:Int)) ?_;refine cC (j=j) ?_;refine cK [] (tF (((tg k).gb j).data) bd) ?_;rintro out A0 ⟨rfl,rfl⟩
    refine cC ((0:Int)<=(j:Int)/\(j:Int)<((tg k).nb:Int)) ?_;refine cC (j=j) ?_;refine gR 2848 (.fo 33 (.ar 33 ((tg k).nb) fun i=>C5 ((tg k).gb i)) j (A1 [.bs 32 (((tg k).gb j).of),.bl 5010 (((tg k).gb j).data)])) (.ar 33 ((tg k).nb) fun i=>C5 ((tg k).gb i)) (eT rfl rfl rfl) ?_;exact cA hX (lK (j+1) zO zO) (hS:=⟨v0,v0,v0,v0,v0,v0,(vS bd),v0,zT⟩)
   ·refine gZ 2848 ?_
    refine gZ 2912 ?_;refine gZ 2976 ?_;refine gR 544 (.fo 38 (.fo 38 (.ar 38 n fun i=>A7 (tg i)) i0 (A1 [.s ((tg i0).name),.bs 32 ((tg i0).key),.i .i64 ((tg i0).quota),.i .i64 ((tg i0).next),.os 20 33,.os 21 36,.os 22 33])) k (A1 [.s ((tg k).name),.bs 32 ((tg k).key),.i .i64 ((tg k).quota),.i .i64 ((tg k).next),.sl 2848 33 ((tg k).nb) fun i=>C5 ((tg k).gb i),.sl 2912 36 ((tg k).ns) fun i=>C9 ((tg k).gs i),.sl 2976 33 ((tg k).nd) fun i=>E1 ((tg k).gd i)])) (.fo 38 (.ar 38 n fun i=>A7 (tg i)) i0 (A1 [.s ((tg i0).name),.bs 32 ((tg i0).key),.i .i64 ((tg i0).quota),.i .i64 ((tg i0).next),.os 20 33,.os 21 36,.os 22 33])) (Np zO rfl rfl rfl rfl) ?_;exact cA hX (hR2 (k+1) (by dsimp only[cond_false,cond_true];omega) zO) (hS:=⟨v0,v0,v0,(vS bd),v0,zT⟩)
  ·exact xW hX (A1 [.bs 32 s.root,.i .i64 s.delay,.i .u64 s.serial,.os 16 38,.os 17 1,.os 18 38,.bs 32 s.head]) (.inl ⟨zO,rfl,rfl,rfl⟩)
def sN(a b c:Nat)(s:StaR):V:=A1 [.bs 32 s.root,.i .i64 s.delay,.i .u64 s.serial,.os a 38,.os b 1,.os c 38,.bs 32 s.head]
def tN(a b c:Nat)(t:TenR):V:=A1 [.s t.name,.bs 32 t.key,.i .i64 t.quota,.i .i64 t.next,.os a 33,.os b 36,.os c 33]
def wN(p:V)(o:OpT)(m:Int):V:=A1 [.pr 3 0 [],J7 o,p,.i .u64 m]
def rB(t:TenR):V:=.ar 33 t.nb fun i=>C5 (t.gb i)
def E2(t:TenR):V:=.ar 36 t.ns fun i=>C9 (t.gs i)
def rD(t:TenR):V:=.ar 33 t.nd fun i=>E1 (t.gd i)
def rR(s:StaR):V:=.ar 1 s.nr fun i=>.i .u64 (s.gr i)
def rL(s:StaR):V:=.ar 38 s.nl fun i=>H9 (s.gl i)
def rT(n:Nat)(tg:Nat->TenR):V:=.ar 38 n fun i=>A7 (tg i)
def fN(n:Nat)(tg:Nat->TenR)(i0:Nat)(v:V):V:=.fo 38 (rT n tg) i0 v
def hA(s:StaR)(o:OpT)(m:Int)(n:Nat)(tg:Nat->TenR)(i0:Nat)(v:V)(l:List (Nat×V)):List (Nat×V):=(2,wN (.pr 4 0 [.e i0 38 n]) o m)::(3,sN 4 5 6 s)::(4,fN n tg i0 v)::(5,rR s)::(6,rL s)::l
def o9(s:StaR)(o:OpT)(m:Int)(n:Nat)(tg:Nat->TenR)(i0:Nat)(t:TenR):List (Nat×V):=hA s o m n tg i0 (tN 7 8 9 t) [(7,rB t),(8,E2 t),(9,rD t)]
def eX(s:StaR)(o:OpT)(m:Int)(n:Nat)(tg:Nat->TenR)(i0:Nat)(t:TenR):V:=.pz (A1 [.pz (A1 [.bs 32 s.root,.i .i64 s.delay,.i .u64 s.serial,dM 38 (sV 38 i0 (rT n tg) (A7 t)),.sl 0 1 s.nr fun i=>.i .u64 (s.gr i),.sl 0 38 s.nl fun i=>H9 (s.gl i),.bs 32 s.head]),J7 o,bif beq i0 i0 then .pz (A7 t) else .uk 1,.i .u64 m])
theorem Va{s:StaR}{o:OpT}{m:Int}{n:Nat}{tg:Nat->TenR}{i0:Nat}{t:TenR}:VW (eX s o m n tg i0 t) (.pz (mF s o t m)):=VW.pz (VW.st ⟨VW.pz (VW.st ⟨VW.rfl,VW.rfl,VW.rfl,VW.uk UD,VW.rfl,VW.rfl,VW.rfl,zT⟩),VW.rfl,VW.of_eq UC,VW.rfl,zT⟩)
theorem kN{s:StaR}{o:OpT}{m:Int}{n:Nat}{tg:Nat->TenR}{i0:Nat}{t:TenR}:VA (eX s o m n tg i0 t) (.pz (mF s o t m)):=VA.pz (VW.st ⟨VW.pz (VW.st ⟨VW.rfl,VW.rfl,VW.rfl,VW.uk UD,VW.rfl,VW.rfl,VW.rfl,zT⟩),VW.rfl,VW.of_eq UC,VW.rfl,zT⟩)
theorem VA.fn1{f:FuncId}{v:V}(h:VA (.pz v) (.pz v')):VA (mB f [.pz v]) (mB f [.pz v']):=fun X x ⟨vs,q1,q2,q3⟩=>⟨vs,q1,q2,fun k hk=>by
 obtain⟨y,r1,r2⟩:=q3 k hk
 have pV:k=0:=Nat.lt_one_iff.1 hk
 subst pV
 exact⟨y,r1,h X y r2⟩⟩
def jG{α:Type}(g:Nat->α)(i:Nat)(x:α):Nat->α:=fun k=>bif blt k i then g k else bif beq k i then x else g (k-1)
def BL{α:Type}(g:Nat->α)(i:Nat):Nat->α:=fun k=>bif blt k i then g k else g (k+1)
def G3{α:Type}(g:Nat->α)(i:Nat)(x:α):Nat->α:=fun k=>bif beq k i then x else g k
theorem ZG{z n:Nat}{e:α->V}{g:Nat->α}:VEq (.ar z n (gP (fun k=>e (g k)) i)) (.ar z n fun k=>e (BL g i k)):=.an _ _ _ _ fun k _=>by
 show VEn (bif blt k i then e (g k) else e (g (k+1))) (e (bif blt k i then g k else g (k+1)))
 cases blt k i<;>exact .rfl _
theorem BM{z n:Nat}{e:α->V}{g:Nat->α}{v:V}{x:α}(h:VEn v (e x):=by exact .rfl _):VEq (.ar z n (T8 (fun k=>e (g k)) i v)) (.ar z n fun k=>e (jG g i x k)):=.an _ _ _ _ fun k _=>by
 show VEn (bif blt k i then e (g k) else bif beq k i then v else e (g (k-1))) (e (bif blt k i then g k else bif beq k i then x else g (k-1)))
 cases blt k i
 ·cases beq k i
  ·exact .rfl _
  ·exact h
 ·exact .rfl _
structure TB (t:TenR):Prop where
 nb:t.nb<=65536
 ns:t.ns<=65536
 nd:t.nd<=65536
 db:∀j,j<t.nb->(t.gb j).data.length<=100000
 ls:∀j,j<t.ns->(t.gs j).mani.label.length<=5000
structure OB (o:OpT):Prop where
 hb:o.body.length<=4096
 ht:o.token.length<=50000
 hn:o.tenant.length<=16
def MP(t t':TenR)(c:Int):Prop:=(c≠200->c≠201->t'=t)/\(TB t->TB t')
theorem MP.rfl{t:TenR}{c:Int}:MP t t c:=⟨fun _ _=>Eq.refl _,id⟩
theorem MP.of{t t':TenR}{c:Int}(hc:c=200\/c=201)(h:TB t->TB t'):MP t t' c:=⟨fun h1 h2=>by rcases hc with h3|h3<;>contradiction,h⟩
theorem TB.doo{t:TenR}{d:Nat}{g:Nat->Doo}(h:d<=t.nd)(hB:TB t):TB ⟨t.name,t.key,t.quota,t.next,t.nb,t.gb,t.ns,t.gs,d,g⟩:=⟨hB.nb,hB.ns,N1 h hB.nd,hB.db,hB.ls⟩
theorem NG{p:α->Prop}{n:Nat}{g:Nat->α}{x:α}(h:∀j,j<n->p (g j))(hx:p x):∀j,j<n+1->i<=n->p (jG g i x j):=fun j hj hi=>by
 unfold jG
 cases h1:blt j i
 ·cases h2:beq j i
  ·have:¬ j<i:=fun e=>by rw[<-B0,h1]at e;cases e
   have:j≠i:=fun e=>by rw[e,Q9]at h2;cases h2
   exact h _ zO
  ·exact hx
 ·rw[B0]at h1;exact h _ zO
theorem Vb{p:α->Prop}{n:Nat}{g:Nat->α}(h:∀j,j<n->p (g j)):∀j,j<n-1->p (BL g i j):=fun j hj=>by
 unfold BL
 cases blt j i
 ·exact h _ zO
 ·exact h _ zO
theorem ZH{p:α->Prop}{n:Nat}{g:Nat->α}{x:α}(h:∀j,j<n->p (g j))(hx:p x):∀j,j<n->p (G3 g i x j):=fun j hj=>by
 unfold G3
 cases beq j i
 ·exact h _ hj
 ·exact hx
def L6{α:Type}(n:Nat)(g:Nat->α)(x:α):Nat->α:=fun k=>bif blt k n then g k else x
theorem mJ{p:α->Prop}{n:Nat}{g:Nat->α}{x:α}(h:∀j,j<n->p (g j))(hx:p x):∀j,j<n+1->p (L6 n g x j):=fun j hj=>by
 unfold L6
 cases h1:blt j n
 ·exact hx
 ·rw[B0]at h1;exact h _ h1
theorem jH{z n:Nat}{e:α->V}{g:Nat->α}{v:V}{x:α}(h:VEn v (e x):=by exact .rfl _):VEq (.ar z m (fun k=>bif blt k n then e (g k) else v)) (.ar z m fun k=>e (L6 n g x k)):=.an _ _ _ _ fun k _=>by
 show VEn (bif blt k n then e (g k) else v) (e (bif blt k n then g k else x))
 cases blt k n
 ·exact h
 ·exact .rfl _
theorem BN{v:V}(h:v.Flo):∀r,(lk [(16,v)] r).Flo:=fun r=>by
 simp only[lk]
 cases beq r 16
 ·trivial
 ·exact h
theorem Vc(lvi:List Nat)(n i:Nat)(g:Nat->V)(hi:i<n)(hn:n<=1000000):SatHM Tryz.prog false 158 [.os 2 33,.i .i64 (i:Int),.i .i64 (i64.wrap ((i:Int)+1))] lvi [(2,.ar 33 n g)] (fun out ho A0=>out=.os 16 33/\ho=[(16,.ar 33 (n-1) (gP g i))]/\A0=[]):=by
 rw[N6 ⟨zO,zO⟩];exact Si lvi n i g hi
theorem Vd(lvi:List Nat)(n i:Nat)(g:Nat->V)(hi:i<n)(hn:n<=1000000):SatHM Tryz.prog false 136 [.os 2 33,.i .i64 (i:Int),.i .i64 (i64.wrap ((i:Int)+1))] lvi [(2,.ar 33 n g)] (fun out ho A0=>out=.os 16 33/\ho=[(16,.ar 33 (n-1) (gP g i))]/\A0=[]):=by
 rw[N6 ⟨zO,zO⟩];exact Sg lvi n i g hi
theorem NH(s:StaR)(o:OpT)(t:TenR)(m:Int)(n:Nat)(tg:Nat->TenR)(i0:Nat)(x:By)(hd:t.nd<=100000):SatHM Tryz.prog false 114 [.pr 2 0 [],.bs 32 x] [4,5,6] (o9 s o m n tg i0 t) (fun out ho A0=>∃(d:Nat) (g:Nat->Doo),ho=hA s o m n tg i0 (tN 7 8 16 t) [(7,rB t),(8,E2 t),(9,.un),(16,.ar 33 d fun i=>E1 (g i))]/\A0=[4,5,6]/\d<=t.nd):=by
 refine fH false Tryz.func114 fun X0 w0 hX hm=>?_
 refine mV 9 ?_;refine L5 (SatM.weak (ins':=[eX s o m n tg i0 t,.bs 32 x]) (WL s o t m x bd) ⟨kN,VA.rfl,zT⟩) ?_;rintro out A0 ⟨rfl,⟨J9,dE,rfl,nK,iH⟩⟩
 refine⟨rfl,?_⟩
 refine cb (dE) (fun h1=>?_) fun h1=>?_
 ·have hj:=iH h1
  refine cC (i0=i0) ?_;refine jA 2 5968 (fun(u:Unit)=>[]) (fun(u:Unit)=>[(2,wN (.pr 4 0 [.e i0 38 n]) o m),(3,sN 4 5 6 s),(5,rR s),(6,rL s),(4,fN n tg i0 (tN 7 8 1632 t)),(7,rB t),(8,E2 t),(1632,.ar 33 (t.nd-1) fun i=>gP (fun i=>E1 (t.gd i)) J9 i),(9,.un)]) (fun(u:Unit)=>True) [4,5,6] (fun R hR i hi=>?_) ?_
  ·revert i hi;refine f2 ?_ ?_<;>repeat' (first|(refine kH (e:=eE) [(16,2)] [16] (Vc [] t.nd J9 (fun i=>E1 (t.gd i)) bd bd) ?_;rintro out ho A0 ⟨rfl,rfl,rfl⟩)|refine cC (e:=eE) (i0=i0) ?_|exact cA hX (hR () zT))
  ·rintro u hJ
   exact xW hX (A2 []) ⟨_,(BL t.gd J9),rfl,rfl,zO⟩ (hH:=⟨v0,v0,v0,v0,v0,v0,v0,v0,(vT (u:=.ar 33 (t.nd-1) fun i=>gP (fun i=>E1 (t.gd i)) J9 i) (ZG)),zT⟩)
 ·exact xW hX (A2 []) ⟨_,t.gd,rfl,rfl,zO⟩ (hH:=⟨v0,v0,v0,v0,v0,v0,v0,v0,(vT (u:=rD t) (.rfl _)),zT⟩)
theorem Ve(s:StaR)(o:OpT)(t:TenR)(m:Int)(n:Nat)(tg:Nat->TenR)(i0:Nat)(hB:TB t)(hO:OB o):SatHM Tryz.prog false 72 [.pr 2 0 []] [4,5,6,7,8,9] (o9 s o m n tg i0 t) (fun out ho A0=>∃c t2,out=A1 [.i .i64 c,.bl 0 []]/\ho=hA s o m n tg i0 (tN 16 8 17 t2) [(7,.un),(8,E2 t2),(9,.un),(16,rB t2),(17,rD t2)]/\A0=[4,5,6]/\MP t t2 c):=by
 refine fH false Tryz.func72 fun X0 w0 hX hm=>?_
 have hb:=hO.hb
 have h1:=hB.nb
 have h2:=hB.ns
 have h3:=hB.nd
 have hs:=hB.ls
 refine mV 7 ?_;refine mV 9 ?_;refine L5 (SatM.weak (ins':=[eX s o m n tg i0 t,.bs 32 o.of]) (MK s o t m o.of bd) ⟨kN,VA.rfl,zT⟩) ?_;rintro out A0 ⟨rfl,⟨J9,dE,rfl,nK,iH⟩⟩
 refine⟨rfl,?_⟩
 refine cB (4000<(o.body.length:Int)) (fun h1=>?_) fun h1=>?_
 ·refine cK [] (E7 413) ?_
  rintro out A0 ⟨rfl,rfl⟩
  exact xW hX (A1 [.i .i64 413,.bl 0 []]) ⟨_,⟨t.name,t.key,t.quota,t.next,t.nb,t.gb,t.ns,t.gs,t.nd,t.gd⟩,rfl,rfl,rfl,.rfl⟩ (hH:=⟨v0,v0,v0,v0,v0,v0,v0,v0,(vT (u:=rB t) (.rfl _)),(vT (u:=rD t) (.rfl _)),zT⟩)
 ·refine cC (i0=i0) ?_
  refine L5 (Qb t o.body bd) ?_;rintro out A0 ⟨rfl,⟨nm1,rfl⟩⟩
  refine⟨rfl,?_⟩
  refine cN (o.of=nm1) (fun h2=>?_) fun h2=>?_
  ·refine cK [] (E7 400) ?_
   rintro out A0 ⟨rfl,rfl⟩
   exact xW hX (A1 [.i .i64 400,.bl 0 []]) ⟨_,⟨t.name,t.key,t.quota,t.next,t.nb,t.gb,t.ns,t.gs,t.nd,t.gd⟩,rfl,rfl,rfl,.rfl⟩ (hH:=⟨v0,v0,v0,v0,v0,v0,v0,v0,(vT (u:=rB t) (.rfl _)),(vT (u:=rD t) (.rfl _)),zT⟩)
  ·refine cb (dE) (fun h3=>?_) fun h3=>?_
   ·refine gD [4,5,6] ?_
    refine kH [(2,2),(3,3),(4,4),(5,5),(6,6),(16,7),(8,8),(80,9)] [2,3,4,5,6,16,8,80] (NH s o t m n tg i0 o.of bc) ?_;rintro out ho A0 ⟨sd2,sg2,rfl,rfl,hsd2⟩
    refine cK [] (E7 200) ?_;rintro out A0 ⟨rfl,rfl⟩
    exact xW hX (A1 [.i .i64 200,.bl 0 []]) ⟨_,⟨t.name,t.key,t.quota,t.next,t.nb,t.gb,t.ns,t.gs,sd2,sg2⟩,rfl,rfl,rfl,.of (.inl rfl) (TB.doo zO)⟩ (hH:=⟨v0,v0,v0,v0,v0,v0,v0,v0,(vT (u:=rB t) (.rfl _)),(vT (u:=.ar 33 sd2 fun i=>E1 (sg2 i)) (.rfl _)),zT⟩)
   ·refine L5 (SatM.weak (ins':=[eX s o m n tg i0 t,.i .i64 (o.body.length:Int)]) (WN s o t m (o.body.length:Int) bd bd hs) ⟨kN,VA.rfl,zT⟩) ?_
    rintro out A0 ⟨rfl,⟨rp3,rfl⟩⟩
    refine⟨rfl,?_⟩
    refine cn (rp3) (fun h4=>?_) fun h4=>?_
    ·refine cK [] (E7 507) ?_
     rintro out A0 ⟨rfl,rfl⟩
     exact xW hX (A1 [.i .i64 507,.bl 0 []]) ⟨_,⟨t.name,t.key,t.quota,t.next,t.nb,t.gb,t.ns,t.gs,t.nd,t.gd⟩,rfl,rfl,rfl,.rfl⟩ (hH:=⟨v0,v0,v0,v0,v0,v0,v0,v0,(vT (u:=rB t) (.rfl _)),(vT (u:=rD t) (.rfl _)),zT⟩)
    ·refine cC (i0=i0) ?_
     refine cB (1024<=(t.nb:Int)) (fun h5=>?_) fun h5=>?_
     ·refine cK [] (E7 507) ?_
      rintro out A0 ⟨rfl,rfl⟩
      exact xW hX (A1 [.i .i64 507,.bl 0 []]) (ho:=(hA s o m n tg i0 (tN 16 8 17 t) [(7,.un),(8,E2 t),(9,.un),(16,.ar 33 t.nb fun i=>C5 (t.gb i)),(17,.ar 33 t.nd fun i=>E1 (t.gd i))])) ⟨_,⟨t.name,t.key,t.quota,t.next,t.nb,t.gb,t.ns,t.gs,t.nd,t.gd⟩,rfl,rfl,rfl,.rfl⟩ (hH:=⟨v0,v0,v0,v0,v0,v0,v0,v0,(vT (u:=rB t) (.rfl _)),(vT (u:=rD t) (.rfl _)),zT⟩)
     ·refine cC (i0=i0) ?_
      refine jA 2 10128 (fun(u:Unit)=>[(2,.pr 144 0 [])]) (fun(u:Unit)=>[(144,A1 [.i .i64 0,.bl 1 []]),(2,wN (.pr 4 0 [.e i0 38 n]) o m),(3,sN 4 5 6 s),(5,rR s),(6,rL s),(4,fN n tg i0 (tN 5792 8 80 t)),(8,E2 t),(80,rD t),(5792,.ar 33 (t.nb+1) fun i=>T8 (fun i=>C5 (t.gb i)) J9 (A1 [.bs 32 o.of,.bl 0 o.body]) i),(7,.un),(9,.un)]) (fun(u:Unit)=>True) [4,5,6,8,80,5792] (fun R hR i hi=>?_) ?_
      ·match i,hi with
      |0,_=>
        refine cK [] (tF o.body bd) ?_;rintro out A0 ⟨rfl,rfl⟩
        refine kH [(16,2)] [16] (MU t.nb J9 (fun i=>C5 (t.gb i)) (A1 [.bs 32 o.of,.bl 0 o.body]) bd bd rfl) ?_;rintro out ho A0 ⟨rfl,rfl,rfl⟩
        refine cC (i0=i0) ?_;exact cA hX (hR () zT)
      |1,_=>
        refine cK [] (tF o.body bd) ?_;rintro out A0 ⟨rfl,rfl⟩
        refine L4 2 zK fun i hi=>?_
        match i,hi with
       |0,_=>
         refine kH [(16,2)] [16] (MU t.nb J9 (fun i=>C5 (t.gb i)) (A1 [.bs 32 o.of,.bl 0 o.body]) bd bd rfl) ?_;rintro out ho A0 ⟨rfl,rfl,rfl⟩
         refine cC (i0=i0) ?_;exact cA hX (hR () zT)
       |1,_=>
         refine L4 2 zK fun i hi=>?_
         match i,hi with
        |0,_|1,_=>
          refine kH [(16,2)] [16] (MU t.nb J9 (fun i=>C5 (t.gb i)) (A1 [.bs 32 o.of,.bl 0 o.body]) bd bd rfl) ?_;rintro out ho A0 ⟨rfl,rfl,rfl⟩
          refine cC (i0=i0) ?_;exact cA hX (hR () zT)
      ·rintro u hJ
       refine cK [] (E7 201) ?_;rintro out A0 ⟨rfl,rfl⟩
       exact xW hX (A1 [.i .i64 201,.bl 0 []]) ⟨_,⟨t.name,t.key,t.quota,t.next,(t.nb+1),(jG t.gb J9 ⟨o.of,o.body⟩),t.ns,t.gs,t.nd,t.gd⟩,rfl,rfl,rfl,.of (.inr rfl) fun h=>⟨by dsimp only;omega,h.ns,h.nd,fun j hj=>NG (p:=fun x:Obj=>x.data.length<=100000) h.db (by dsimp only;omega) j hj zO,h.ls⟩⟩ (hH:=⟨v0,v0,v0,v0,v0,v0,v0,v0,(vT (u:=.ar 33 (t.nb+1) fun i=>T8 (fun i=>C5 (t.gb i)) J9 (A1 [.bs 32 o.of,.bl 0 o.body]) i) (BM)),(vT (u:=rD t) (.rfl _)),zT⟩)
end Go.Proofs.YtiligejcokfhkaaGreatDoor
