/- Lemmas for the statement ModelCharges, part 4: rules of operations, walks through functions, plain laws. -/
import Derived.Test.YtgohjiegkhfpmaaGreatDoorModelChargesG3
import Derived.Lib.Bytealg
import Derived.Lib.ItoaLen
import Derived.Shelf.LaysM
import Derived.Shelf.Strconv.Itoa4
set_option maxRecDepth 100000
set_option linter.all false
namespace Go.Proofs.YtgohjiegkhfpmaaGreatDoor
open Go
open Go.IntKind (i64 u64 u8 u32)
open List (replicate)
open Nat (beq blt)
open BitVec (ofInt)
variable {cf:Cf} {X X' X0:Cx} {Q:Exit->Act->World->Prop} {fn:Func} {pv:List (Nat × Value)} {L:List Ch} {S lv lv':List Nat} {C cs vs xs zs:List Value} {N c c' cap i j k len m o r:Nat} {h:Nat->Nat->V} {τ:Nat->Value} {hi mx:Option Operand} {hv:Option Value} {P:Program} {α ι:Type} {e:TypeId} {v':V} {R:V->List (Nat × V)->List Nat->Prop} {x:Value} {w w' w0:World}
section
variable {nm n:Nat} {σ:Fr} {ty t kt et:TypeId} {x y z:Operand} {b:Nat} {tg:MS}
theorem yH{o o':Go.Obj}(hb:w.heap[b]? =some o):({ w with heap:=w.heap.setIfInBounds b o'}:World).heap[b]? =some o':=by
 have:=(Z4.1 hb).1
 simp[JI,this]
theorem BQ{o':Go.Obj}{b':Nat}(D5:b'≠b):({ w with heap:=w.heap.setIfInBounds b o'}:World).heap[b']? =w.heap[b']? :=by
 simp only[JI]
 rw[if_neg (Ne.symm D5)]
theorem Wd.mset(H:Wd X0 X h lv c w0 w)(hw:X0.wr=true)(hg:X.G b 0=.fz (N9 tg)){es es':Array MapEntry}{F8 clk':Nat}(hb:w.heap[b]? =some (.map es F8))(h1:(es'.toList.map (·.key)).Nodup)(h2:(es'.toList.map (·.born)).Nodup)
  (h3:∀e∈es'.toList,e.born<clk'/\(∃k:List UInt8,k.length=32/\e.key=F9 k/\k∈tg.K)/\∃v,X4 tg.s v=true/\repv X [] 2 v e.val)(h4:∀e∈es.toList,∃e'∈es'.toList,e'.born=e.born):
  Wd X0 X h lv c w0 { w with heap:=w.heap.setIfInBounds b (.map es' clk')}/\C8 X { w with heap:=w.heap.setIfInBounds b (.map es' clk')}=C8 X w:=by
 have hlt:=(Z4.1 hb).1
 have cell:∀b' i,({ w with heap:=w.heap.setIfInBounds b (.map es' clk')}:World).cell? (ad b' i)=w.cell? (ad b' i):=fun b' i=>by
  unfold World.cell?
  by_cases O3:b'=b
  ·subst O3;rw[yH hb,hb]
  rw[BQ O3]
 have frz:∀b' i,({ w with heap:=w.heap.setIfInBounds b (.map es' clk')}:World).frozen? (ad b' i)=w.frozen? (ad b' i):=fun b' i=>by
  unfold World.frozen?
  by_cases O3:b'=b
  ·subst O3;rw[yH hb,hb]
  rw[BQ O3]
 have G3:({ w with heap:=w.heap.setIfInBounds b (.map es' clk')}:World).heap.size=w.heap.size:=by simp
 have kb:w.keptBut { w with heap:=w.heap.setIfInBounds b (.map es' clk')} (fun p=>p=.map b):=by
  refine⟨rfl,rfl,fun i hi=>?_⟩
  by_cases hib:i=b
  ·subst hib
   rw[hb,yH hb]
   exact .inl rfl
  rw[BQ hib]
  exact(zS w (fun p=>p=.map b)).2.2 i hi
 refine⟨{ H with kb:=tA H.kb kb (fun _ _ _ e=>(by cases e)) (fun x hx e=>(by cases e;exact⟨hw,tg,H.mp0 b tg hx hg⟩)),ex:=fun b' i hn=>by rw[G3];exact H.ex b' i hn,fz:=fun b' i x hx=>?_,tp:=fun b' i t hx=>by rw[cell,frz];exact H.tp b' i t hx,rt:=fun r j b' o N hr=>?_,νs:=by rw[G3];exact H.νs,nf:=fun b' I2 hi C T fr he=>?_ },?_⟩
 ·by_cases O3:b'=b
  ·subst O3
   have ho:=H.fz b' i x hx
   rcases ho.o with dI|⟨t,rfl⟩
   ·have:=ho.c dI
    unfold World.cell? at this
    rw[hb]at this;cases this
   refine⟨fun dI=>(pF dI).elim,fun t' e=>?_,.inr ⟨t,rfl⟩⟩
   obtain⟨es0,clk0,g1,g5⟩:=ho.m t' e
   rw[hb]at g1;cases g1
   refine⟨es',clk',yH hb,?_⟩
   cases i with
   |zero=>
    rw[hg,e]at hx
    have:tg=t':=RM (by injection hx)
    subst this
    exact⟨h1,h2,h3⟩
   |succ i=>
    obtain⟨e0,q1,q2⟩:=g5
    obtain⟨e',q3,q4⟩:=h4 e0 q1
    exact⟨e',q3,q4.trans q2⟩
  exact(H.fz b' i x hx).move (fun _ _ _ h=>h) (cell b' i) fun _ _ hm=>by rw[BQ O3];exact hm
 ·refine(H.rt r j b' o N hr).mono (Cx.le.rfl' X lv c) (B2 _) fun _ cs _ hL _ k x hk=>?_
  obtain⟨q1,q2,q3⟩:=hL k x hk
  exact⟨q1,by rw[cell];exact q2,q3.to fun j=>frz b' j⟩
 ·by_cases O3:b'=b
  ·subst O3;rw[yH hb]at he;cases he
  rw[BQ O3]at he;exact H.nf b' I2 hi C T fr he
 funext b' i
 unfold C8
 rw[cell]
theorem BR(H:Wd X0 X h lv c w0 w){v:Value}{q lv' c'}(hv:rep X (.mp b 0 tg) lv' c' [v])(hq:q=0):v=.map (some b)/\X.G b 0=.fz (N9 tg)/\∃es F8,w.heap[b]? =some (.map es F8)/\(es.toList.map (·.key)).Nodup/\(es.toList.map (·.born)).Nodup/\∀e∈es.toList,e.born<F8/\(∃k:List UInt8,k.length=32/\e.key=F9 k/\k∈tg.K)/\∃v,X4 tg.s v=true/\repv X [] 2 v e.val:=by
 obtain⟨h1,⟨t',h2,h3⟩,_⟩:=hv
 obtain rfl:=h3 rfl
 obtain⟨es,F8,g1,g2⟩:=(H.fz b 0 _ h2).m t' rfl
 exact⟨by simpa [LB] using h1,h2,es,F8,g1,g2⟩
theorem MN{lv:List Nat}{k:List UInt8}{v:Value}(hv:repv X lv c (.bs 32 k) v):k.length=32/\v=F9 k:=by
 obtain⟨C,rfl,h1,h2⟩:=hv
 exact⟨h1,by unfold F9;rw[<-h2]⟩
theorem Pg(hK:KeyT P kt)(hu:P.underlying t=some (.map kt et))(hz:(P.info? et).bind (·.zero)=some (bD tg.s))(htg:tg.s<=2)(H:Wd X0 X h lv nm w0 w)(hF:FrR X lv nm n σ τ){k:List UInt8}{ok:Bool}(hx:av P σ 0 x=.mp b 0 tg)(hy:av P σ 0 y=.bs 32 k){d:Nat}{pos:String}{aft:Array Edge}{g:Option (Nat×Bool)}:
  ∃v,(execOp (ev n τ) ⟨some d,.lookup t x y ok,ty,pos,aft,g⟩).run P w=.ok (.value v) w/\∃v' p,X4 tg.s v'=true/\(p=true->k∈tg.K)/\repv X lv (nm+64) (bif ok then A2 [v',.b p] else v') v:=by
 have ex:=B5 (P:=P) H.c2 hF 0 x
 have ey:=B5 (P:=P) H.c2 hF 0 y
 rw[hx]at ex;rw[hy]at ey
 obtain⟨e1,hg,es,F8,m1,m2,m3,m4⟩:=BR (q:=0) H ex rfl
 obtain⟨k1,e2⟩:=MN ey
 have hzr:∀w,(zeroValue et).run P w=.ok (bD tg.s) w:=fun w=>by
  obtain⟨i,h1,h2⟩:=DI.1 hz
  simp[zeroValue,typeInfo,h1,h2]
 have bY:=MM hK k1 w fun e he=>(m4 e he).2.1.imp fun _ h=>⟨h.1,h.2.1⟩
 have hc:=H.c2
 have out:∀{v':V} {x:Value},repv X [] 2 v' x->repv X lv (nm+64) v' x:=fun hr=>hr.mono ⟨fun _ _ _ h=>h,fun _ _ t ht h2=>absurd ((H.lvc t ht).1) zO,fun t ht h2=>absurd ((H.lvc t ht).1) zO,fun _ _ _ _ _ h=>h,rfl⟩ zO
 have fin:∀(v':V) (x:Value) (p:Bool),repv X [] 2 v' x->repv X lv (nm+64) (bif ok then A2 [v',.b p] else v') (if ok=true then .tuple #[x,.bool p] else x):=fun v' x p hr=>by
  cases ok
  ·exact out hr
  refine⟨#[x,.bool p],rfl,rfl,fun k hk=>?_⟩
  match k,hk with
  |0,_=>exact⟨x,rfl,out hr⟩
  |1,_=>exact⟨_,rfl,rfl⟩
 cases hf:jN (F9 k) es.toList 0 with
|none=>
  rw[hf]at bY
  refine⟨if ok=true then .tuple #[bD tg.s,.bool false] else bD tg.s,?_,GS tg.s,false,(BP (X:=X) htg).1,fun h=>(by cases h),fin _ _ _ (BP htg).2⟩
  have hg:(Instr.lookup t (.map (some b)) (F9 k) ok).run P w=.ok (if ok=true then .tuple #[bD tg.s,.bool false] else bD tg.s) w:=by
   unfold Instr.lookup
   simp only[D0,run_underlying hu,F6,qU m1,hK.chk _ k k1]
   cases ok<;>simp[bY,hzr]
  simp only[execOp,e1,e2,D0,hg,F6];rfl
|some r=>
  obtain⟨i,v0⟩:=r
  rw[hf]at bY
  obtain⟨m,e,_,q2,q3,q4⟩:=GR hf
  obtain⟨v',r1,r2⟩:=(m4 e (E3 q2)).2.2
  obtain⟨k',_,r4,r5⟩:=(m4 e (E3 q2)).2.1
  rw[q4]at r2
  refine⟨if ok=true then .tuple #[v0,.bool true] else v0,?_,v',true,r1,fun _=>(by rw[VE (q3.trans r4)];exact r5),fin _ _ _ r2⟩
  have hg:(Instr.lookup t (.map (some b)) (F9 k) ok).run P w=.ok (if ok=true then .tuple #[v0,.bool true] else v0) w:=by
   unfold Instr.lookup
   simp only[D0,run_underlying hu,F6,qU m1,hK.chk _ k k1]
   cases ok<;>simp[bY]
  simp only[execOp,e1,e2,D0,hg,F6];rfl
theorem Ph{k:List UInt8}:Instr.sameBits 10000 (F9 k) (F9 k)=true:=by
 show Instr.sameBits (9999+1) (.agg _) (.agg _)=true
 simp only[Instr.sameBits,beq_self_eq_true,Bool.true_and,P5]
 intro x hx
 obtain⟨i,hi,e⟩:=JG hx
 rw[List.getElem_zip]at e
 rw[<-e]
 have hm:=eG (l:=k.map E9) (n:=i) (by simpa using hi)
 simp only at hm ⊢
 generalize (k.map E9)[i]'(by simpa using hi)=v at hm
 obtain⟨u,_,rfl⟩:=J6.1 hm;exact MapKept.sameBits_self (d:=.int .u8) (by simp[MapKept.IsKey]) _
theorem VJ{k:List UInt8}(w:World):(Instr.keyThatStays (F9 k) (F9 k)).run P w=.ok (F9 k) w:=by
 unfold Instr.keyThatStays
 rw[if_pos Ph];rfl
theorem GT{α β:Type}(f:α->β)(g:α->α)(hg:∀a,f (g a)=f a):∀(l:List α) (i:Nat),(l.modify i g).map f=l.map f
|[],_=>by simp
|a::l,0=>by simp[hg]
|a::l,i+1=>by simp[GT f g hg l i]
theorem MO{α:Type}{g:α->α}:∀{l:List α} {i:Nat} {x:α},x∈l.modify i g->x∈l\/∃a,l[i]? =some a/\x=g a
|[],_,x,h=>by simp at h
|a::l,0,x,h=>by
  simp only[List.modify_zero_cons,K8]at h
  rcases h with rfl|h
  ·exact .inr ⟨a,rfl,rfl⟩
  exact .inl (R5 _ h)
|a::l,i+1,x,h=>by
  simp only[List.modify_succ_cons,K8]at h
  rcases h with rfl|h
  ·exact .inl (X9 ..)
  rcases MO h with h|⟨b,h1,h2⟩
  ·exact .inl (R5 _ h)
  exact .inr ⟨b,by simpa using h1,h2⟩
theorem Pi(hK:KeyT P kt)(hu:P.underlying t=some (.map kt et))(H:Wd X0 X h lv nm w0 w)(hw:X0.wr=true)(hF:FrR X lv nm n σ τ){k:List UInt8}(hx:av P σ 0 x=.mp b 0 tg)(hy:av P σ 0 y=.bs 32 k){v:V}(hz:av P σ et z=v)(hm:X4 tg.s (aH v.nb)=true)(rQ:k∈tg.K){pos:String}{aft:Array Edge}{g:Option (Nat×Bool)}:
  ∃w',(execOp (ev n τ) ⟨none,.mapUpdate t x y z,ty,pos,aft,g⟩).run P w=.ok .skip w'/\Wd X0 X h lv nm w0 w'/\C8 X w'=C8 X w:=by
 have ex:=B5 (P:=P) H.c2 hF 0 x
 have ey:=B5 (P:=P) H.c2 hF 0 y
 have ez0:=jJ (B5 (P:=P) H.c2 hF et z)
 rw[hz]at ez0
 have ez:=VH hm ez0
 rw[hx]at ex;rw[hy]at ey
 obtain⟨e1,hg,es,F8,m1,m2,m3,m4⟩:=BR (q:=0) H ex rfl
 obtain⟨k1,e2⟩:=MN ey
 have bY:=MM hK k1 w fun e he=>(m4 e he).2.1.imp fun _ h=>⟨h.1,h.2.1⟩
 cases hf:jN (F9 k) es.toList 0 with
|none=>
  rw[hf]at bY
  have hnk:=ML hf
  obtain⟨W,Y⟩:=H.mset (es':=es.push { key:=F9 k,val:=ev n τ z,born:=F8 }) (clk':=F8+1) hw hg m1 (by
   simp only[DJ,lI,U1,List.map_nil]
   rw[List.nodup_append]
   refine⟨m2,by simp,fun a ha b hb e=>?_⟩
   obtain⟨q,q1,rfl⟩:=J6.1 ha
   simp only[O8]at hb
   exact hnk q q1 (by rw[<-hb,e])) (by
   simp only[DJ,lI,U1,List.map_nil]
   rw[List.nodup_append]
   refine⟨m3,by simp,fun a ha b hb e=>?_⟩
   obtain⟨q,q1,rfl⟩:=J6.1 ha
   simp only[O8]at hb
   have:=(m4 q q1).1
   omega) (fun e he=>by
   simp only[DJ,S3,O8]at he
   rcases he with he|rfl
   ·exact⟨by have:=(m4 e he).1;omega,(m4 e he).2⟩
   exact⟨by simp,⟨k,k1,rfl,rQ⟩,_,hm,ez⟩) (fun e he=>⟨e,by simp[he],rfl⟩)
  refine⟨_,?_,W,Y⟩
  have oH:(Instr.mapUpdate t (.map (some b)) (F9 k) (ev n τ z)).run P w=.ok () { w with heap:=w.heap.setIfInBounds b (.map (es.push { key:=F9 k,val:=ev n τ z,born:=F8 }) (F8+1))}:=by
   unfold Instr.mapUpdate
   simp only[D0,run_underlying hu,F6,qU m1,hK.chk _ k k1]
   simp[bY,zV _ m1]
  simp only[execOp,e1,e2,D0,oH,F6];rfl
|some r=>
  obtain⟨i,v0⟩:=r
  rw[hf]at bY
  obtain⟨m,e,q1,q2,q3,q4⟩:=GR hf
  rw[J5]at q1
  subst q1
  have iP:es[i]? =some e:=by simpa using q2
  obtain⟨W,Y⟩:=H.mset (es':=es.modify i fun e=>{ e with key:=F9 k,val:=ev n τ z }) (clk':=F8) hw hg m1 (by
   rw[qV]
   have:(es.toList.modify i fun e=>{ e with key:=F9 k,val:=ev n τ z }).map (·.key)=es.toList.map (·.key):=by
    apply V7
    intro j
    rw[Y6,Y6,DK]
    by_cases hj:i=j
    ·subst hj;rw[q2];simp[q3]
    cases es.toList[j]? <;>simp[hj]
   rw[this];exact m2) (by
   rw[qV,GT (·.born) (fun e:MapEntry=>{ e with key:=F9 k,val:=ev n τ z }) (fun _=>rfl)];exact m3) (fun e' he=>by
   rw[qV]at he
   rcases MO he with he|⟨a,ha,rfl⟩
   ·exact m4 e' he
   ·exact⟨(m4 a (E3 ha)).1,⟨k,k1,rfl,rQ⟩,_,hm,ez⟩) (fun e0 he=>by
   obtain⟨j,hj⟩:=CZ he
   rw[qV]
   by_cases dC:i=j
   ·subst dC
    exact⟨{ e0 with key:=F9 k,val:=ev n τ z },E3 (i:=i) (by rw[DK,hj];simp),rfl⟩
   exact⟨e0,E3 (i:=j) (by rw[DK,hj];simp[dC]),rfl⟩)
  refine⟨_,?_,W,Y⟩
  have oH:(Instr.mapUpdate t (.map (some b)) (F9 k) (ev n τ z)).run P w=.ok () { w with heap:=w.heap.setIfInBounds b (.map (es.modify i fun e=>{ e with key:=F9 k,val:=ev n τ z }) F8)}:=by
   unfold Instr.mapUpdate
   simp only[D0,run_underlying hu,F6,qU m1,hK.chk _ k k1]
   have lY:((es[i]?).map (·.key)).getD (F9 k)=F9 k:=by rw[iP];simp[q3]
   simp only[bY,F6]
   rw[D0,lY,VJ,F6,zV _ m1]
  simp only[execOp,e1,e2,D0,oH,F6];rfl
def Cx.stp(X:Cx)(b m:Nat)(t:MS):Cx:=⟨fun b' i=>match X.G b' i with|.fz x=>.fz x|o=>if b'=b/\i=m+1 then .fz (N9 t) else o,X.ρ,X.Φ,X.κ,X.ν,X.wr⟩
theorem Wd.stp(H:Wd X0 X h lv c w0 w)(hg:X.G b 0=.fz (N9 tg)){es:Array MapEntry}{F8:Nat}(hb:w.heap[b]? =some (.map es F8))(he:∃e∈es.toList,e.born=m):
  X.le (X.stp b m tg) lv lv c/\Wd X0 (X.stp b m tg) h lv c w0 w/\C8 (X.stp b m tg) w=C8 X w/\∃t',(X.stp b m tg).G b (m+1)=.fz (N9 t'):=by
 have nocell:∀i,w.cell? (ad b i)=none:=fun i=>by unfold World.cell?; rw[hb]
 have eq:∀b' i,¬ (b'=b/\i=m+1)->(X.stp b m tg).G b' i=X.G b' i:=fun b' i hn=>by
  simp only[Cx.stp];cases X.G b' i<;>simp only[hn,if_false]
 have here:(X.stp b m tg).G b (m+1)=(match X.G b (m+1) with|.fz x=>.fz x|_=>.fz (N9 tg)):=by
  simp only[Cx.stp];cases X.G b (m+1)<;>simp
 have ism:∃t',(X.stp b m tg).G b (m+1)=.fz (N9 t'):=by
  rw[here]
  cases hx:X.G b (m+1) with
 |fz x=>
   rcases(H.fz b _ x hx).o with h1|⟨t',rfl⟩
   ·have:=(H.fz b _ x hx).c h1;rw[nocell]at this;cases this
   exact⟨t',rfl⟩
 |_=>exact⟨tg,rfl⟩
 have B1:X.le (X.stp b m tg) lv lv c:=by
  refine⟨fun b' i x hx=>by simp only[Cx.stp,hx],fun b' i t' _ _ hx=>?_,fun _ h _=>h,fun _ _ _ _ _ h=>h,rfl⟩
  rw[eq b' i (fun⟨e1,e2⟩=>by subst e1 e2;have:=(H.tp _ _ _ hx).1;rw[nocell]at this;cases this)];exact hx
 refine⟨B1,{ kb:=H.kb,tape:=H.tape,fz0:=fun b' i x hx=>B1.fz _ _ _ (H.fz0 b' i x hx),no0:=fun b' i I2 hn=>?_,mp0:=fun b' t I2 hx=>H.mp0 b' t I2 (by rw[eq b' 0 zO]at hx;exact hx),ρ0:=H.ρ0,ex:=fun b' i hn=>?_,fz:=fun b' i x hx=>?_,tp:=fun b' i t' hx=>?_,rt:=fun r j b' o N hr=>?_,c2:=H.c2,lvc:=H.lvc,ρc:=H.ρc,inv:=H.inv' B1,imo:=H.imo,κc:=H.κc,νe:=H.νe,gz:=H.gz,we:=H.we,ν0:=H.ν0,νs:=H.νs,nf:=fun b' I2 ⟨i,hi⟩ C T fr he'=>?_ },?_,ism⟩
 ·by_cases hc:b'=b/\i=m+1
  ·obtain⟨rfl,rfl⟩:=hc
   exact .inr ism
  rw[eq b' i hc];exact H.no0 b' i I2 hn
 ·by_cases hc:b'=b/\i=m+1
  ·obtain⟨rfl,rfl⟩:=hc
   exact(Z4.1 hb).1
  rw[eq b' i hc]at hn;exact H.ex b' i hn
 ·by_cases hc:b'=b/\i=m+1
  ·obtain⟨rfl,rfl⟩:=hc
   obtain⟨t',e⟩:=ism
   rw[e]at hx;cases hx
   exact⟨fun h1=>(pF h1).elim,fun t _=>⟨es,F8,hb,he⟩,.inr ⟨t',rfl⟩⟩
  rw[eq b' i hc]at hx;exact(H.fz b' i x hx).move B1.fz rfl fun _ _ h=>h
 ·by_cases hc:b'=b/\i=m+1
  ·obtain⟨rfl,rfl⟩:=hc
   obtain⟨t',e⟩:=ism
   rw[e]at hx;cases hx
  rw[eq b' i hc]at hx;exact H.tp b' i t' hx
 ·refine(H.rt r j b' o N hr).mono B1 (B2 _) fun _ cs _ hL _ k x hk=>?_
  obtain⟨q1,q2,q3⟩:=hL k x hk
  rw[eq b' _ (fun⟨e1,e2⟩=>by subst e1;rw[nocell]at q2;cases q2)]
  exact⟨q1,q2,q3⟩
 ·by_cases O3:b'=b
  ·subst O3;rw[hb]at he';cases he'
  refine H.nf b' I2 ⟨i,fun e=>hi ?_⟩ C T fr he'
  rw[eq b' i (fun hc=>O3 hc.1)];exact e
 funext b' i
 by_cases hc:b'=b/\i=m+1
 ·obtain⟨rfl,rfl⟩:=hc
  obtain⟨t',e⟩:=ism
  unfold C8
  rw[e]
  cases hx:X.G b' (m+1) with
 |fz x=>
   have:=B1.fz _ _ _ hx
   rw[e]at this;cases this;rfl
 |rt r j k=>simp only[nocell];cases beq j 0<;>rfl
 |_=>rfl
 unfold C8;rw[eq b' i hc]
theorem Pj(hK:KeyT P kt)(hu:P.underlying t=some (.map kt et))(hz:(P.info? et).bind (·.zero)=some (bD tg.s))(htg:tg.s<=2)(H:Wd X0 X h lv nm w0 w)(hw:X0.wr=true)(hF:FrR X lv nm n σ τ){k:List UInt8}(hx:av P σ 0 x=.mp b 0 tg)(hy:av P σ 0 y=.bs 32 k)(rQ:k∈tg.K){d:Nat}{pos:String}{aft:Array Edge}{g:Option (Nat×Bool)}:
  ∃v w' X',(execOp (ev n τ) ⟨some d,.mapEntry t x y,ty,pos,aft,g⟩).run P w=.ok (.value v) w'/\X.le X' lv lv nm/\Wd X0 X' h lv (nm+64) w0 w'/\C8 X' w'=C8 X w/\∃v' m,X4 tg.s v'=true/\repv X' lv (nm+64) (A2 [v',.mp b (m+1) tg]) v:=by
 have ex:=B5 (P:=P) H.c2 hF 0 x
 have ey:=B5 (P:=P) H.c2 hF 0 y
 rw[hx]at ex;rw[hy]at ey
 obtain⟨e1,hg,es,F8,m1,m2,m3,m4⟩:=BR (q:=0) H ex rfl
 obtain⟨k1,e2⟩:=MN ey
 have hzr:∀w,(zeroValue et).run P w=.ok (bD tg.s) w:=fun w=>by
  obtain⟨i,h1,h2⟩:=DI.1 hz
  simp[zeroValue,typeInfo,h1,h2]
 have bY:=MM hK k1 w fun e he=>(m4 e he).2.1.imp fun _ h=>⟨h.1,h.2.1⟩
 have hc:=H.c2
 have fin:∀{X':Cx} {v':V} {x:Value} {m:Nat},X.le X' lv lv nm->repv X [] 2 v' x->(∃t',X'.G b (m+1)=.fz (N9 t'))->repv X' lv (nm+64) (A2 [v',.mp b (m+1) tg]) (.tuple #[x,goInt m]):=fun {X' v' x m} B1 hr ⟨t',ht⟩=>by
  refine⟨#[x,goInt m],rfl,rfl,fun k hk=>?_⟩
  match k,hk with
 |0,_=>
   have hr:=hr.mono B1.nil (B2 2)
   exact⟨x,rfl,hr.mono ⟨fun _ _ _ h=>h,fun _ _ t ht h2=>absurd ((H.lvc t ht).1) zO,fun t ht h2=>absurd ((H.lvc t ht).1) zO,fun _ _ _ _ _ h=>h,rfl⟩ zO⟩
 |1,_=>exact⟨_,rfl,rfl,⟨t',ht,fun h=>by omega⟩,zO⟩
 cases hf:jN (F9 k) es.toList 0 with
|none=>
  rw[hf]at bY
  have hnk:=ML hf
  obtain⟨W,Y⟩:=H.mset (es':=es.push { key:=F9 k,val:=bD tg.s,born:=F8 }) (clk':=F8+1) hw hg m1 (by
   simp only[DJ,lI,U1,List.map_nil]
   rw[List.nodup_append]
   refine⟨m2,by simp,fun a ha b hb e=>?_⟩
   obtain⟨q,q1,rfl⟩:=J6.1 ha
   simp only[O8]at hb
   exact hnk q q1 (by rw[<-hb,e])) (by
   simp only[DJ,lI,U1,List.map_nil]
   rw[List.nodup_append]
   refine⟨m3,by simp,fun a ha b hb e=>?_⟩
   obtain⟨q,q1,rfl⟩:=J6.1 ha
   simp only[O8]at hb
   have:=(m4 q q1).1
   omega) (fun e he=>by
   simp only[DJ,S3,O8]at he
   rcases he with he|rfl
   ·exact⟨by have:=(m4 e he).1;omega,(m4 e he).2⟩
   exact⟨by simp,⟨k,k1,rfl,rQ⟩,_,BP (X:=X) htg⟩) (fun e he=>⟨e,by simp[he],rfl⟩)
  obtain⟨l1,W2,Y2,ht⟩:=W.stp (m:=F8) hg (yH m1) ⟨{ key:=F9 k,val:=bD tg.s,born:=F8 },by simp,rfl⟩
  refine⟨.tuple #[bD tg.s,goInt F8],_,X.stp b F8 tg,?_,l1,W2.up zO,Y2.trans Y,GS tg.s,F8,(BP (X:=X) htg).1,fin l1 (BP htg).2 ht⟩
  have oH:(Instr.mapEntry t (.map (some b)) (F9 k)).run P w=.ok (.tuple #[bD tg.s,goInt F8]) { w with heap:=w.heap.setIfInBounds b (.map (es.push { key:=F9 k,val:=bD tg.s,born:=F8 }) (F8+1))}:=by
   unfold Instr.mapEntry
   simp only[D0,run_underlying hu,F6,qU m1,hK.chk _ k k1]
   simp[bY,hzr,zV _ m1]
  simp only[execOp,e1,e2,D0,oH,F6];rfl
|some r=>
  obtain⟨i,v0⟩:=r
  rw[hf]at bY
  obtain⟨m,e,q1,q2,q3,q4⟩:=GR hf
  rw[J5]at q1
  subst q1
  have iP:es[i]? =some e:=by simpa using q2
  have hsame:(es.modify i fun e=>{ e with key:=F9 k })=es:=by
   apply U2
   rw[qV]
   apply V7
   intro j
   rw[DK]
   by_cases hj:i=j
   ·subst hj;rw[q2];simp[q3]
   cases es.toList[j]? <;>simp[hj]
  have hsw:({ w with heap:=w.heap.setIfInBounds b (.map es F8)}:World)=w:=by
   have:w.heap.setIfInBounds b (.map es F8)=w.heap:=by
    apply JJ
    intro j
    rw[JI]
    by_cases hj:b=j
    ·subst hj;rw[m1];simp[(Z4.1 m1).1]
    simp[hj]
   rw[this]
  obtain⟨v',r1,r2⟩:=(m4 e (E3 q2)).2.2
  rw[q4]at r2
  obtain⟨l1,W2,Y2,ht⟩:=H.stp (m:=e.born) hg m1 ⟨e,E3 q2,rfl⟩
  refine⟨.tuple #[v0,goInt e.born],w,X.stp b e.born tg,?_,l1,W2.up zO,Y2,v',e.born,r1,fin l1 r2 ht⟩
  have oH:(Instr.mapEntry t (.map (some b)) (F9 k)).run P w=.ok (.tuple #[v0,goInt e.born]) w:=by
   unfold Instr.mapEntry
   simp only[D0,run_underlying hu,F6,qU m1,hK.chk _ k k1]
   have lY:((es[i]?).map (·.key)).getD (F9 k)=F9 k:=by rw[iP];simp[q3]
   have hbn:((es[i]?).map (fun x=>(x.born:Int))).getD 0=e.born:=by rw[iP];rfl
   simp only[bY,F6]
   rw[D0,lY,VJ,F6,D0,zV _ m1,hsame,hsw,hbn]
   rfl
  simp only[execOp,e1,e2,D0,oH,F6];rfl
theorem Pk(H:Wd X0 X h lv nm w0 w)(hw:X0.wr=true)(hF:FrR X lv nm n σ τ){tg':MS}(hx:av P σ 0 x=.mp b 0 tg)(hy:av P σ 0 y=.mp b (m+1) tg'){v:V}(hz:av P σ et z=v)(hm:X4 tg.s (aH v.nb)=true){pos:String}{aft:Array Edge}{g:Option (Nat×Bool)}:
  ∃w',(execOp (ev n τ) ⟨none,.entryStore t x y z,ty,pos,aft,g⟩).run P w=.ok .skip w'/\Wd X0 X h lv nm w0 w'/\C8 X w'=C8 X w:=by
 have ex:=B5 (P:=P) H.c2 hF 0 x
 have ey:=B5 (P:=P) H.c2 hF 0 y
 have ez0:=jJ (B5 (P:=P) H.c2 hF et z)
 rw[hz]at ez0
 have ez:=VH hm ez0
 rw[hx]at ex;rw[hy]at ey
 obtain⟨e1,hg,es,F8,m1,m2,m3,m4⟩:=BR (q:=0) H ex rfl
 obtain⟨y1,⟨t',y2,_⟩,_⟩:=ey
 have e2:ev n τ y=.int .i64 m:=by simpa [LB] using y1
 obtain⟨es',clk',g1,e0,g2,g3⟩:=(H.fz b _ _ y2).m t' rfl
 rw[m1]at g1;cases g1
 have hfi:∃i,es.findIdx? (fun e=>(e.born:Int)==(m:Int))=some i:=by
  cases hh:es.findIdx? (fun e=>(e.born:Int)==(m:Int)) with
 |some i=>exact⟨i,rfl⟩
 |none=>
   rw[Array.findIdx?_eq_none_iff]at hh
   have:=hh e0 (by simpa using g2)
   simp[g3]at this
 obtain⟨i,hi⟩:=hfi
 obtain⟨W,Y⟩:=H.mset (es':=es.modify i fun e=>{ e with val:=ev n τ z }) (clk':=F8) hw hg m1 (by
  rw[qV,GT (·.key) (fun e:MapEntry=>{ e with val:=ev n τ z }) (fun _=>rfl)];exact m2) (by
  rw[qV,GT (·.born) (fun e:MapEntry=>{ e with val:=ev n τ z }) (fun _=>rfl)];exact m3) (fun e' he=>by
  rw[qV]at he
  rcases MO he with he|⟨a,ha,rfl⟩
  ·exact m4 e' he
  ·have:=m4 a (E3 ha)
   exact⟨this.1,this.2.1,_,hm,ez⟩) (fun e0 he=>by
  obtain⟨j,hj⟩:=CZ he
  rw[qV]
  by_cases dC:i=j
  ·subst dC
   exact⟨{ e0 with val:=ev n τ z },E3 (i:=i) (by rw[DK,hj];simp),rfl⟩
  exact⟨e0,E3 (i:=j) (by rw[DK,hj];simp[dC]),rfl⟩)
 refine⟨_,?_,W,Y⟩
 have oH:(Instr.entryStore t (.map (some b)) (.int .i64 m) (ev n τ z)).run P w=.ok () { w with heap:=w.heap.setIfInBounds b (.map (es.modify i fun e=>{ e with val:=ev n τ z }) F8)}:=by
  unfold Instr.entryStore
  simp only[D0,qU m1,F6,asInt,asIntOf]
  simp[hi,zV _ m1]
 simp only[execOp,e1,e2,D0,oH,F6];rfl
theorem Pl(H:Wd X0 X h lv nm w0 w){r:Option Operand}(hr:r=none){d:Nat}{pos:String}{aft:Array Edge}{g:Option (Nat×Bool)}:
  ∃w' X',(execOp (ev n τ) ⟨some d,.makeMap t r,ty,pos,aft,g⟩).run P w=.ok (.value (.map (some w.heap.size))) w'/\X.le X' lv lv nm/\Wd X0 X' h lv (nm+64) w0 w'/\repv X' lv (nm+64) (.mp w.heap.size 0 tg) (.map (some w.heap.size))/\Yle (C8 X w) (C8 X' w'):=by
 subst hr
 let f:Nat->Ow:=fun i=>if i=0 then .fz (N9 tg) else .no
 have hb:(w.alloc (.map #[] 0)).heap[w.heap.size]? =some (.map #[] 0):=j7 w _
 have G3:(w.alloc (.map #[] 0)).heap.size=w.heap.size+1:=by simp
 have B1:=H.new_le f
 have old:∀b i,b≠w.heap.size->(X.new w.heap.size f).G b i=X.G b i:=fun b i hb=>by simp only[Cx.new];rw[if_neg hb]
 have hc:=H.c2
 refine⟨w.alloc (.map #[] 0),X.new w.heap.size f,rfl,B1,Wd.up (c:=nm) ?_ zO,⟨rfl,⟨tg,by simp[Cx.new,f],fun _=>rfl⟩,zO⟩,H.new_y f _⟩
 refine { kb:=World.keptBut_trans H.kb (World.keptBut_alloc _ _ _),tape:=H.tape,fz0:=fun b i x hx=>B1.fz _ _ _ (H.fz0 b i x hx),no0:=fun b i hb hn=>?_,mp0:=fun b t hb hx=>H.mp0 b t hb (by rw[<-old b 0 (by have:=H.size;omega)];exact hx),ρ0:=H.ρ0,ex:=fun b i hn=>?_,fz:=fun b i x hx=>?_,tp:=fun b i t hx=>?_,rt:=fun r j b o N hr=>?_,c2:=H.c2,lvc:=H.lvc,ρc:=H.ρc,inv:=H.inv' B1,imo:=H.imo,νe:=H.νe,gz:=H.gz,we:=H.we,ν0:=H.ν0,νs:=by rw[G3];have:=H.νs;omega,nf:=fun b' I2 ⟨i,hi⟩ C T fr he=>?_,κc:=H.κc}
 ·rw[old b i (by have:=H.size;omega)];exact H.no0 b i hb hn
 ·by_cases he:b=w.heap.size
  ·omega
  rw[old b i he]at hn;have:=H.ex b i hn;omega
 ·by_cases he:b=w.heap.size
  ·subst he
   have hx:f i=.fz x:=by simpa [Cx.new] using hx
   simp only[f]at hx
   split at hx
   ·rename_i h0;cases hx;subst h0
    exact⟨fun h1=>(pF h1).elim,fun t _=>⟨#[],0,hb,by simp,by simp,fun e he=>by simp at he⟩,.inr ⟨tg,rfl⟩⟩
   cases hx
  rw[old b i he]at hx
  have hlt:=H.ex b i (by rw[hx];simp)
  exact(H.fz b i x hx).move B1.fz (fE w _ hlt) fun _ _ hm=>(by rw[gG w _ b zO];exact hm)
 ·by_cases he:b=w.heap.size
  ·subst he
   have hx:f i=.tp t:=by simpa [Cx.new] using hx
   simp only[f]at hx;split at hx<;>cases hx
  rw[old b i he]at hx
  have hlt:=H.ex b i (by rw[hx];simp)
  rw[fE w _ hlt,xE w _ hlt];exact H.tp b i t hx
 ·refine(H.rt r j b o N hr).mono B1 (B2 _) fun _ cs _ hL _ k x hk=>?_
  obtain⟨q1,q2,q3⟩:=hL k x hk
  have hlt:=H.ex b (o+k) (by rw[q1];simp)
  rw[old b _ zO,fE w _ hlt]
  exact⟨q1,q2,q3.to fun j=>xE w _ hlt⟩
 by_cases hw:b'=w.heap.size
 ·subst hw;rw[hb]at he;cases he
 rw[gG w _ b' hw]at he
 exact H.nf b' I2 ⟨i,by rw[<-old b' i hw];exact hi⟩ C T fr he
end
section
theorem Pn{t kt et:TypeId}{x y z:Operand}(b:Nat)(tg:MS)(k:List UInt8)(v:V)(hK:KeyT P kt)(hw:X0.wr=true)(hm:X4 tg.s (aH v.nb)=true)(rQ:k∈tg.K)(h:Wk P X0 w0 Q (nx P cf).a)
  (e:((nx P cf).tag,beq (C1 (nx P cf).a.s (nx P cf).a.k) ((nx P cf).nm+64),(nx P cf).op.dst,av P (nx P cf).a.s.σ 0 x,av P (nx P cf).a.s.σ 0 y,P.underlying t,av P (nx P cf).a.s.σ et z)=(9,true,none,.mp b 0 tg,.bs 32 k,some (.map kt et),v):=by kernel_rfl)
  (eo:(nx P cf).op.op=.mapUpdate t x y z:=by kernel_rfl):Wk P X0 w0 Q cf:=by
 simp only[G6]at e
 obtain⟨e1,e2,e3,e4,e5,e6,e7⟩:=e
 refine VD (by rw[e1,e2,e3];rfl) (fun X τ w hF H=>?_) h;obtain⟨w',h1,h2,h3⟩:=Pi (ty:=(nx P cf).op.type) (pos:=(nx P cf).op.pos) (aft:=(nx P cf).op.after) (g:=(nx P cf).op.guard) hK e6 H hw hF e4 e5 e7 hm rQ
 refine⟨w',X,?_,Cx.le.rfl' _ _ _,h2.up zO,by rw[h3];exact fun _ _ _ h=>h⟩
 have:(nx P cf).op=⟨none,.mapUpdate t x y z,(nx P cf).op.type,(nx P cf).op.pos,(nx P cf).op.after,(nx P cf).op.guard⟩:=by rw[<-eo, <-e3]
 rw[this];exact h1
theorem GU{t et:TypeId}{x y z:Operand}(b:Nat)(tg:MS)(m:Nat)(tg':MS)(v:V)(hw:X0.wr=true)(hm:X4 tg.s (aH v.nb)=true)(h:Wk P X0 w0 Q (nx P cf).a)
  (e:((nx P cf).tag,beq (C1 (nx P cf).a.s (nx P cf).a.k) ((nx P cf).nm+64),(nx P cf).op.dst,av P (nx P cf).a.s.σ 0 x,av P (nx P cf).a.s.σ 0 y,av P (nx P cf).a.s.σ et z)=(9,true,none,.mp b 0 tg,.mp b (m+1) tg',v):=by kernel_rfl)
  (eo:(nx P cf).op.op=.entryStore t x y z:=by kernel_rfl):Wk P X0 w0 Q cf:=by
 simp only[G6]at e
 obtain⟨e1,e2,e3,e4,e5,e7⟩:=e
 refine VD (by rw[e1,e2,e3];rfl) (fun X τ w hF H=>?_) h;obtain⟨w',h1,h2,h3⟩:=Pk (t:=t) (ty:=(nx P cf).op.type) (pos:=(nx P cf).op.pos) (aft:=(nx P cf).op.after) (g:=(nx P cf).op.guard) H hw hF e4 e5 e7 hm
 refine⟨w',X,?_,Cx.le.rfl' _ _ _,h2.up zO,by rw[h3];exact fun _ _ _ h=>h⟩
 have:(nx P cf).op=⟨none,.entryStore t x y z,(nx P cf).op.type,(nx P cf).op.pos,(nx P cf).op.after,(nx P cf).op.guard⟩:=by rw[<-eo, <-e3]
 rw[this];exact h1
theorem MQ{t:TypeId}{d:Nat}(tg:MS)(h:∀b,Wk P X0 w0 Q ⟨(nx P cf).a.k,(nx P cf).a.s.put (some d) (.mp b 0 tg)⟩)
  (e:((nx P cf).tag,beq (C1 (nx P cf).a.s (nx P cf).a.k) ((nx P cf).nm+64),(nx P cf).op.dst)=(9,true,some d):=by kernel_rfl)
  (eo:(nx P cf).op.op=.makeMap t none:=by kernel_rfl):Wk P X0 w0 Q cf:=by
 simp only[G6]at e
 obtain⟨e1,e2,e3⟩:=e
 refine GQ (fun v'=>∃b,v'=.mp b 0 tg) (by rw[e1,e2]) (fun X τ w hF H=>?_) fun v' ⟨b,e⟩=>by rw[e3,e];exact h b
 obtain⟨w',X',h1,h2,h3,h4,h5⟩:=Pl (n:=(nx P cf).a.s.n) (τ:=τ) (tg:=tg) (t:=t) (ty:=(nx P cf).op.type) (pos:=(nx P cf).op.pos) (aft:=(nx P cf).op.after) (g:=(nx P cf).op.guard) (d:=d) H rfl
 refine⟨_,w',X',_,?_,h2,h3,h4,h5,_,rfl⟩
 have:(nx P cf).op=⟨some d,.makeMap t none,(nx P cf).op.type,(nx P cf).op.pos,(nx P cf).op.after,(nx P cf).op.guard⟩:=by rw[<-eo, <-e3]
 rw[this];exact h1
end
section
variable {κ:Nat}
theorem fH(m:Bool){f:FuncId}{fn:Func}{ins:List V}{lvi:List Nat}{hi:List (Nat×V)}(hf:P.funcs[f]? =some fn)
  (h:∀X0 w0,Ok0 X0 16->(m=true->X0.wr=true)->Wk P X0 w0 (Fin P fn X0 w0 R) ⟨[.c (fn.body.getD .skip)],MI ins lvi hi fn.ntmps⟩)(hb:(fn.body.isSome,Nat.ble ins.length fn.ntmps)=(true,true):=by kernel_rfl):SatHM P m f ins lvi hi R:=Oy m hf hb h
theorem fM(m:Bool){f:FuncId}{fn:Func}{ins:List V}{lvi:List Nat}(hf:P.funcs[f]? =some fn)
  (h:∀X0 w0,Ok0 X0 0->(m=true->X0.wr=true)->Wk P X0 w0 (Fin P fn X0 w0 R) ⟨[.c (fn.body.getD .skip)],T0 ins lvi fn.ntmps⟩)(hb:(fn.body.isSome,Nat.ble ins.length fn.ntmps)=(true,true):=by kernel_rfl):SatM P m f ins lvi R:=UJ m hf hb h
theorem eH(hX:Ok0 X0 κ)(ren:List (Nat×Nat))(l:List V)(out:V)(ho:List (Nat×V))(A0:List Nat)(hR:R out ho A0)(hH:cT (fK κ ren) (gK κ ren ho) (iK κ ren ho) (nx P cf).s.h ho)
  (e:((nx P cf).ended,dX P (nx P cf).s fn.results.toList,cU κ (nx P cf).s ren [(0,out)] ho A0 64)=(true,some l,true):=by kernel_rfl)(v7:((pU l).wk (fK κ ren) (gK κ ren ho) out).nz=out:=by kernel_rfl):Wk P X0 w0 (Fin P fn X0 w0 R) cf:=UI hX ren l out ho A0 e (.of_eq v7) hH hR
theorem kH{f:FuncId}{ins:List V}{lvi:List Nat}{hi:List (Nat×V)}(ren:List (Nat×Nat))(rr:List Nat)(hs:UX P f ins lvi hi R)(h:∀out ho A0,R out ho A0->Wk P X0 w0 Q (GP (nx P cf) ren rr out ho A0))
  (e:((nx P cf).tag,(nx P cf).f,(nx P cf).l.map (V.rn (D2 ren) (gH ren rr)),(xZ (nx P cf).a.k||kS f)&&(uA (nx P cf).nm ren rr&&beq (C1 (nx P cf).a.s (nx P cf).a.k) ((nx P cf).nm+64)),X5 (nx P cf).a.s.lv ren,qC (nx P cf).a.s.h ren rr)=(3,f,ins,true,lvi,hi):=by kernel_rfl):Wk P X0 w0 Q cf:=Ox ren rr hs e h
theorem gV{m:Bool}(hm:m=true->X0.wr=true){f:FuncId}{ins:List V}{lvi:List Nat}{hi:List (Nat×V)}(ren:List (Nat×Nat))(rr:List Nat)(hs:SatHM P m f ins lvi hi R)(h:∀out ho A0,R out ho A0->Wk P X0 w0 Q (GP (nx P cf) ren rr out ho A0))
  (e:((nx P cf).tag,(nx P cf).f,(nx P cf).l.map (V.rn (D2 ren) (gH ren rr)),(xZ (nx P cf).a.k||kS f)&&(uA (nx P cf).nm ren rr&&beq (C1 (nx P cf).a.s (nx P cf).a.k) ((nx P cf).nm+64)),X5 (nx P cf).a.s.lv ren,qC (nx P cf).a.s.h ren rr)=(3,f,ins,true,lvi,hi):=by kernel_rfl):Wk P X0 w0 Q cf:=VB hm ren rr hs e h
theorem kO{f:FuncId}{ins:List V}{lvi:List Nat}(ren:List (Nat×Nat))(hs:mW P f ins lvi R)(h:∀out ho A0,R out ho A0->Wk P X0 w0 Q (BK (nx P cf) ren out ho A0))
  (e:((nx P cf).tag,(nx P cf).f,(nx P cf).l.map (V.rn (D2 ren) g0),fG (nx P cf).a.s.lv 16 ren&&beq (C1 (nx P cf).a.s (nx P cf).a.k) ((nx P cf).nm+64),ren.map (·.2))=(3,f,ins,true,lvi):=by kernel_rfl):Wk P X0 w0 Q cf:=UG ren hs e h
theorem kM{m:Bool}(hm:m=true->X0.wr=true){f:FuncId}{ins:List V}{lvi:List Nat}(ren:List (Nat×Nat))(hs:SatM P m f ins lvi R)(h:∀out ho A0,R out ho A0->Wk P X0 w0 Q (BK (nx P cf) ren out ho A0))
  (e:((nx P cf).tag,(nx P cf).f,(nx P cf).l.map (V.rn (D2 ren) g0),fG (nx P cf).a.s.lv 16 ren&&beq (C1 (nx P cf).a.s (nx P cf).a.k) ((nx P cf).nm+64),ren.map (·.2))=(3,f,ins,true,lvi):=by kernel_rfl):Wk P X0 w0 Q cf:=UF hm ren hs e h
theorem kB{f:FuncId}{ins:List V}(hs:mW P f ins [] R)(h:∀out ho A0,R out ho A0->(out.flo=true/\∀r,(lk ho r).Flo)/\Wk P X0 w0 Q (GL (nx P cf) out ho))
  (e:((nx P cf).tag,(nx P cf).f,(nx P cf).l.map (V.lent (nx P cf).a.s.h),beq (C1 (nx P cf).a.s (nx P cf).a.k) ((nx P cf).nm+64))=(3,f,ins,true):=by kernel_rfl):Wk P X0 w0 Q cf:=UW hs e fun out ho A0 hR=>⟨⟨UU (h out ho A0 hR).1.1,(h out ho A0 hR).1.2⟩,(h out ho A0 hR).2⟩
theorem jB(q:Prop) [Decidable q](c:Nat)(sl hl:ι->List (Nat×V))(I:ι->Prop)(lv:List Nat)(h:∀R:Act->World->Prop,(∀i,I i->∀a w,At X0 w0 (St (sl i) (hl i) lv c (nx P cf).a.s.n) c a w->R a w)->(q->Wk P X0 w0 Q ((nx P cf).a.cut R))/\(¬ q->Wk P X0 w0 Q ((nx P cf).b.cut R)))
  (h2:∀i,I i->Wk P X0 w0 Q ⟨(nx P cf).a.k.tail,St (sl i) (hl i) lv c (nx P cf).a.s.n⟩)
  (e:((nx P cf).tag,(nx P cf).p)=(1,decide q):=by kernel_rfl)(hk:((nx P cf).a.k.isEmpty,(nx P cf).b.k.isEmpty,(nx P cf).b.k.tail)=(false,false,(nx P cf).a.k.tail):=by kernel_rfl):Wk P X0 w0 Q cf:=
 VC _ sl hl I lv e hk h2 fun R hR=>⟨fun hp=>(h R hR).1 (of_decide_eq_true hp),fun hp=>(h R hR).2 (of_decide_eq_false hp)⟩
theorem jb(q:Bool)(c:Nat)(sl hl:ι->List (Nat×V))(I:ι->Prop)(lv:List Nat)(h:∀R:Act->World->Prop,(∀i,I i->∀a w,At X0 w0 (St (sl i) (hl i) lv c (nx P cf).a.s.n) c a w->R a w)->(q=true->Wk P X0 w0 Q ((nx P cf).a.cut R))/\(q=false->Wk P X0 w0 Q ((nx P cf).b.cut R)))
  (h2:∀i,I i->Wk P X0 w0 Q ⟨(nx P cf).a.k.tail,St (sl i) (hl i) lv c (nx P cf).a.s.n⟩)
  (e:((nx P cf).tag,(nx P cf).p)=(1,q):=by kernel_rfl)(hk:((nx P cf).a.k.isEmpty,(nx P cf).b.k.isEmpty,(nx P cf).b.k.tail)=(false,false,(nx P cf).a.k.tail):=by kernel_rfl):Wk P X0 w0 Q cf:=VC _ sl hl I lv e hk h2 h
theorem jA(n c:Nat)(sl hl:ι->List (Nat×V))(I:ι->Prop)(lv:List Nat)(h:∀R:Act->World->Prop,(∀i,I i->∀a w,At X0 w0 (St (sl i) (hl i) lv c (nx P cf).a0.s.n) c a w->R a w)->∀i,i<n->Wk P X0 w0 Q (((nx P cf).alts.getD i ⟨[],pX⟩).cut R))
  (h2:∀i,I i->Wk P X0 w0 Q ⟨(nx P cf).a0.k.tail,St (sl i) (hl i) lv c (nx P cf).a0.s.n⟩)
  (e:((nx P cf).tag,(nx P cf).alts.length)=(5,n):=by kernel_rfl)(hk:(nx P cf).alts.map (fun A=>(A.k.isEmpty,A.k.tail))=replicate n (false,(nx P cf).a0.k.tail):=by kernel_rfl):Wk P X0 w0 Q cf:=Pf n sl hl I lv e hk h2 h
def mY(f:FuncId)(l:List V):V:=.fn f l.length fun k=>l.getD k .un
def BS:Nat->V->Prop
|0,v=>∃n,v=.i .i64 n
|1,v=>∃l,l.length<=1000000/\v=.bl 0 l
|_,v=>∃(l:List UInt8) (q:Bool),l.length<=1000000/\v=A1 [.bl 0 l,.b q]
theorem MR{tg:Nat}{v:V}(h:X4 tg v=true)(hr:repv X lv c v x):∃v',BS tg v'/\repv X lv c v' x:=by
 unfold X4 at h
 split at h
 ·exact⟨_,⟨_,rfl⟩,hr⟩
 ·rw[A9,i6]at h
  have h1:=A5 h.1
  subst h1
  exact⟨_,⟨_,h.2,rfl⟩,hr⟩
 ·rename_i n g
  rw[A9]at h
  have h1:=A5 h.1
  subst h1
  have h2:=h.2
  split at h2
  ·rename_i t l q e0 e1
   rw[A9,i6]at h2
   have h3:=A5 h2.1
   subst h3
   refine⟨A1 [.bl 0 l,.b q],⟨l,q,h2.2,rfl⟩,?_⟩
   obtain⟨C,c1,c2⟩:=hr
   refine⟨C,c1,d7 c2 fun k cs hk hr=>?_⟩
   match k,hk with
  |0,_=>rw[e0]at hr;exact hr
  |1,_=>rw[e1]at hr;exact hr
  cases h2
 cases h
theorem mL{t kt et:TypeId}{x y:Operand}{ok:Bool}{d:Nat}(b:Nat)(tg:MS)(k:List UInt8)(hK:KeyT P kt)
  (h:∀v p,BS tg.s v->(p=true->k∈tg.K)->Wk P X0 w0 Q ⟨(nx P cf).a.k,(nx P cf).a.s.put (some d) (bif ok then A2 [v,.b p] else v)⟩)
  (e:((nx P cf).tag,beq (C1 (nx P cf).a.s (nx P cf).a.k) ((nx P cf).nm+64),(nx P cf).op.dst,av P (nx P cf).a.s.σ 0 x,av P (nx P cf).a.s.σ 0 y,P.underlying t,(P.info? et).bind (·.zero),Nat.ble tg.s 2)=(9,true,some d,.mp b 0 tg,.bs 32 k,some (.map kt et),some (bD tg.s),true):=by kernel_rfl)
  (eo:(nx P cf).op.op=.lookup t x y ok:=by kernel_rfl):Wk P X0 w0 Q cf:=by
 simp only[G6]at e
 obtain⟨e1,e2,e3,e4,e5,e6,e7,e8⟩:=e
 rw[i6]at e8
 refine GQ (fun v'=>∃v p,BS tg.s v/\(p=true->k∈tg.K)/\v'=bif ok then A2 [v,.b p] else v) (by rw[e1,e2]) (fun X τ w hF H=>?_) fun v' ⟨v,p,hv,hp,e⟩=>by rw[e3,e];exact h v p hv hp
 obtain⟨v,h1,v',p,h2,hpK,h3⟩:=Pg (ty:=(nx P cf).op.type) (pos:=(nx P cf).op.pos) (aft:=(nx P cf).op.after) (g:=(nx P cf).op.guard) (d:=d) (ok:=ok) hK e6 e7 e8 H hF e4 e5
 have:(nx P cf).op=⟨some d,.lookup t x y ok,(nx P cf).op.type,(nx P cf).op.pos,(nx P cf).op.after,(nx P cf).op.guard⟩:=by rw[<-eo, <-e3]
 rw[<-this]at h1
 cases ok
 ·obtain⟨v2,k1,k2⟩:=MR h2 h3
  exact⟨v,w,X,_,h1,Cx.le.rfl' _ _ _,H.up zO,k2,fun _ _ _ h=>h,v2,p,k1,hpK,rfl⟩
 obtain⟨C,rfl,c1,c2⟩:=h3
 obtain⟨y0,g1,g2⟩:=c2 0 (show 0<2 by decide)
 obtain⟨v2,k1,k2⟩:=MR h2 g2
 refine⟨_,w,X,_,h1,Cx.le.rfl' _ _ _,H.up zO,(?_:repv X _ _ (A2 [v2,.b p]) _),fun _ _ _ h=>h,v2,p,k1,hpK,rfl⟩
 refine⟨C,rfl,c1,fun k hk=>?_⟩
 match k,hk with
 |0,_=>exact⟨y0,g1,k2⟩
 |1,_=>exact c2 1 (show 1<2 by decide)
theorem mE{t kt et:TypeId}{x y:Operand}{d:Nat}(b:Nat)(tg:MS)(k:List UInt8)(hK:KeyT P kt)(hw:X0.wr=true)(rQ:k∈tg.K)
  (h:∀v m,BS tg.s v->Wk P X0 w0 Q ⟨(nx P cf).a.k,(nx P cf).a.s.put (some d) (A2 [v,.mp b (m+1) tg])⟩)
  (e:((nx P cf).tag,beq (C1 (nx P cf).a.s (nx P cf).a.k) ((nx P cf).nm+64),(nx P cf).op.dst,av P (nx P cf).a.s.σ 0 x,av P (nx P cf).a.s.σ 0 y,P.underlying t,(P.info? et).bind (·.zero),Nat.ble tg.s 2)=(9,true,some d,.mp b 0 tg,.bs 32 k,some (.map kt et),some (bD tg.s),true):=by kernel_rfl)
  (eo:(nx P cf).op.op=.mapEntry t x y:=by kernel_rfl):Wk P X0 w0 Q cf:=by
 simp only[G6]at e
 obtain⟨e1,e2,e3,e4,e5,e6,e7,e8⟩:=e
 rw[i6]at e8
 refine GQ (fun v'=>∃v m,BS tg.s v/\v'=A2 [v,.mp b (m+1) tg]) (by rw[e1,e2]) (fun X τ w hF H=>?_) fun v' ⟨v,m,hv,e⟩=>by rw[e3,e];exact h v m hv
 obtain⟨v,w',X',h1,h2,h3,h4,v',m,h5,h6⟩:=Pj (ty:=(nx P cf).op.type) (pos:=(nx P cf).op.pos) (aft:=(nx P cf).op.after) (g:=(nx P cf).op.guard) (d:=d) hK e6 e7 e8 H hw hF e4 e5 rQ
 have:(nx P cf).op=⟨some d,.mapEntry t x y,(nx P cf).op.type,(nx P cf).op.pos,(nx P cf).op.after,(nx P cf).op.guard⟩:=by rw[<-eo, <-e3]
 rw[<-this]at h1
 obtain⟨C,rfl,c1,c2⟩:=h6
 obtain⟨y0,g1,g2⟩:=c2 0 (show 0<2 by decide)
 obtain⟨v2,k1,k2⟩:=MR h5 g2
 refine⟨_,w',X',_,h1,h2,h3,(?_:repv X' _ _ (A2 [v2,.mp b (m+1) tg]) _),by rw[h4];exact fun _ _ _ h=>h,v2,m,k1,rfl⟩
 refine⟨C,rfl,c1,fun k hk=>?_⟩
 match k,hk with
|0,_=>exact⟨y0,g1,k2⟩
|1,_=>exact c2 1 (show 1<2 by decide)
end
def V.rng:V->Prop
|.i k n=>k.wrap n=n
|.s l=>l.length<=maxLen
|.bs n l=>l.length=n
|.bl _ l=>l.length<=maxLen
|.st n g|.tu n g=>∀k,k<n->(g k).rng
|.ar _ n g|.sl _ _ n g=>∀k,k<n->(g k).rng
|.pz v|.ro v=>v.rng
|_=>True
theorem Po{n:Nat}{R:Nat->List Value->Prop}(h:dR n R cs):∀k,k<n->∃es,R k es:=by
 induction n generalizing cs with
|zero=>intro k hk;omega
|succ n ih=>
  intro k hk
  obtain⟨a,b,_,h1,h2⟩:=h
  by_cases e:k=n
  ·subst e;exact⟨b,h2⟩
  exact ih h1 k zO
theorem VK:∀{v:V} {lv:List Nat} {c:Nat} {cs:List Value},rep X v lv c cs->v.rng:=by
 intro v
 induction v with
|i k n=>intro _ _ _ h;exact h.2
|s l=>intro _ _ _ h;exact h.2
|bs n l=>intro _ _ _ h;exact h.1
|bl t l=>intro _ _ _ h;obtain⟨a,cap,_,h1,h2,_⟩:=h;exact J2 h1 h2
|st n g ih=>intro _ _ _ h k hk;obtain⟨es,he⟩:=Po h k hk;exact ih k he
|tu n g=>intro _ _ _ h;exact h.elim
|ar z n g ih=>intro _ _ _ h k hk;exact ih k (h.2 k hk).1
|sl t z n g ih=>
  intro _ _ _ h k hk
  obtain⟨_,a,cap,_,h1,_,_,_,h2⟩:=h
  rcases h2 with⟨_,h2⟩|⟨b,o,_,h2,_⟩
  ·omega
  obtain⟨es,he,_⟩:=h2 k hk
  exact ih k he
|pz v ih=>intro _ _ _ h;obtain⟨_,_,_,_,h,_⟩:=h;exact ih h
|ro v=>intro _ _ _ h;exact h.elim
|_=>intro _ _ _ _;trivial
theorem VL:∀{v:V} {lv:List Nat} {c:Nat} {x:Value},repv X lv c v x->v.rng:=by
 intro v
 induction v with
|tu n g ih=>intro _ _ _ h k hk;obtain⟨_,_,_,h⟩:=h;obtain⟨y,_,hy⟩:=h k hk;exact ih k hy
|un=>intro _ _ _ _;trivial
|st|ar|bs=>intro _ _ _ h;obtain⟨C,_,h⟩:=h;exact VK h
|_=>intro _ _ _ h;exact VK h
section
variable {κ:Nat}
theorem Pp{p:Prop}(h0:∀X τ w,FrR X cf.s.lv (C1 cf.s cf.k) cf.s.n cf.s.σ τ->Wd X0 X cf.s.h cf.s.lv (C1 cf.s cf.k) w0 w->p)(h:p->Wk P X0 w0 Q cf):Wk P X0 w0 Q cf:=by
 refine⟨fun hQ=>?_⟩
 rintro Y a w ⟨X,τ,rfl,hF,H,rfl⟩
 exact(h (h0 X τ w hF H)).run hQ _ _ _ ⟨X,τ,rfl,hF,H,rfl⟩
theorem rS(d:Nat)(h:(cf.s.σ d).rng->Wk P X0 w0 Q cf):Wk P X0 w0 Q cf:=Pp (fun _ _ _ hF _=>VL (hF d)) h
theorem mM(d:Nat)(b:Bool)(h:Wk P X0 w0 Q ⟨cf.k,{ cf.s with σ:=cS cf.s.σ d (bif b then A2 [] else .un) }⟩)(hn:Nat.ble cf.s.n d=true:=by kernel_rfl):Wk P X0 w0 Q cf:=by
 have hc:∀v,C1 { cf.s with σ:=cS cf.s.σ d v} cf.k=C1 cf.s cf.k:=fun v=>by unfold C1;split<;>rfl
 refine⟨fun hQ=>?_⟩
 have I1:=h.run hQ
 show Run P X0 w0 Q ⟨cf.k,cf.s⟩
 refine tY (by rfl) (fun X τ w hF H=>⟨X,fun t=>?_,by rw[hc];exact H,fun _ _ _ h=>h,fun _ _=>rfl⟩) I1
 rw[hc]
 show repv X cf.s.lv _ (cS cf.s.σ d _ t) _
 unfold cS
 cases hb:beq t d
 ·exact hF t
 have:=A5 hb
 subst this
 simp only[ev]
 have:blt t cf.s.n=false:=by rw[i6]at hn;cases hb:blt t cf.s.n;rfl;rw[A8]at hb;omega
 rw[this]
 cases b
 ·trivial
 exact⟨#[],rfl,rfl,fun k hk=>by exact absurd hk (S4 k)⟩
def eqF:List V->List V->Prop
|[],[]=>True
|a::l,b::m=>VEq a b/\eqF l m
|_,_=>False
theorem eqF.at:∀{l m:List V},eqF l m->l.length=m.length/\∀i,VEq (l.getD i .un) (m.getD i .un)
|[],[],_=>⟨rfl,fun _=>.rfl _⟩
|_::_,[],h=>h.elim
|[],_::_,h=>h.elim
|_::l,_::m,h=>⟨by simp only[G8,(eqF.at h.2).1],fun i=>match i with|0=>h.1|i+1=>(eqF.at h.2).2 i⟩
theorem C4{l m:List V}(h:eqF l m):VEq (A1 l) (A1 m):=by
 have:=h.at
 unfold A1
 rw[<-this.1]
 exact .st _ _ _ fun i _=>this.2 i
theorem F5{l m:List V}(h:eqF l m):VEq (A2 l) (A2 m):=by
 have:=h.at
 unfold A2
 rw[<-this.1]
 exact .tu _ _ _ fun i _=>this.2 i
theorem vN{t z:Nat}{g g':Nat->V}:VEq (.sl t z 0 g) (.sl t z 0 g'):=.sl _ _ _ _ _ fun i h=>absurd h (S4 i)
theorem eA{z:Nat}{g g':Nat->V}:VEq (.sl 1 z 0 g) (.sl 0 z 0 g'):=.fl _ _ _ _ fun i h=>absurd h (S4 i)
theorem VM{t z:Nat}{g:Nat->V}:VEq (.sl t z (k+1) fun i=>bif blt i k then g i else g k) (.sl t z (k+1) g):=.sl _ _ _ _ _ fun i hi=>by
 cases hb:blt i k
 ·have:¬ i<k:=by rw[<-A8,hb];simp
  have:i=k:=by omega
  subst this;rfl
 rfl
theorem Pq [Inhabited α]{t z:Nat}{e:α->V}(l:List α)(x:α){v:V}(h:VEn v (e x)):VEq (.sl t z (l.length+1) fun i=>bif blt i l.length then e (l.getD i default) else v) (B3 t z e (l++[x])):=by
 have:B3 t z e (l++[x])=.sl t z (l.length+1) fun i=>e ((l++[x]).getD i default):=by simp[B3]
 rw[this]
 refine .sn _ _ _ _ _ fun i hi=>?_
 rw[<-UK l [x] i]
 cases hb:blt i l.length
 ·have:¬ i<l.length:=by rw[<-A8,hb];simp
  have:i-l.length=0:=by omega
  simp only[cond_false,this];exact h
 exact .rfl _
theorem eV{R:V->List Nat->Prop}(hX:Ok0 X0 0)(ren:List (Nat×Nat))(l:List V)(out:V)(A0:List Nat)(u:V)(hv:VEq u out)(hR:R out A0)
  (e:((nx P cf).ended,dX P (nx P cf).s fn.results.toList,cU 0 (nx P cf).s ren [(0,out)] [] A0 64)=(true,some l,true):=by kernel_rfl)(v7:((pU l).wk (fK 0 ren) (gK 0 ren []) out).nz=u:=by kernel_rfl):Wk P X0 w0 (Fin P fn X0 w0 fun out ho A0=>ho=[]/\R out A0) cf:=Nm hX ren l out [] A0 e (v7▸hv) trivial ⟨rfl,hR⟩
theorem vU{v:V}(hk:k<18446744073709551615:=by omega)(h:v=.i .u64 (u64.wrap ((k:Int)+1)):=by kernel_rfl):VEq v (.i .u64 ((k+1:Nat):Int)):=.of_eq (by rw[h,gT ⟨zO,zO⟩];simp)
theorem bd{p:Prop}(h:p:=by first|omega|(simp;done)|(simp;omega)|(simp only[F7,K4,C6];omega)|(simp only[C6,G8,M3,F7,K4]at *;omega)):p:=h
theorem bw{p:Prop}(h:p:=by first|omega|exact P3 _|exact pZ _|(simp[IntKind.wrap,IntKind.bits,IntKind.signed];omega)|(simp[IntKind.wrap,IntKind.bits,IntKind.signed]at *;omega)):p:=h
theorem bm{p:Prop}(h:p:=by have mx:maxLen=9223372036854775807:=rfl;omega):p:=h
theorem wI{a:Int}(h:(V.i .i64 a).rng): -9223372036854775808<=a/\a<9223372036854775808:=by
 have h:i64.wrap a=a:=h
 rw[<-h];exact pZ a
theorem wU{a:Int}(h:(V.i .u64 a).rng):0<=a/\a<18446744073709551616:=by
 have h:u64.wrap a=a:=h
 rw[<-h];exact P3 a
theorem wB{a:Int}(h:(V.i .u8 a).rng):0<=a/\a<256:=by
 have h:u8.wrap a=a:=h
 rw[<-h];exact UQ a
end
def Z1(r r' t:Nat):Nat:=bif beq t r then r' else t
theorem yI{r':Nat}:Z1 r r' r=r':=by unfold Z1;rw[show beq r r=true from P6 r];rfl
theorem mZ{r' t:Nat}(h:t≠r):Z1 r r' t=t:=by
 unfold Z1
 rw[show beq t r=false by (cases hb:beq t r;rfl;exact absurd (A5 hb) h)];rfl
def Cx.mv(X:Cx)(r r':Nat):Cx:=⟨fun b i=>match X.G b i with
|.tp t=>.tp (Z1 r r' t)
|.rt a j k=>bif beq j 0 then .rt (Z1 r r' a) j k else .rt a j k
|x=>x,fun a j=>bif beq a r'&&beq j 0 then X.ρ r 0 else X.ρ a j,X.Φ,X.κ,X.ν,X.wr⟩
def T.mv(s:T)(r r':Nat):T:=⟨fun t=>(s.σ t).rn (Z1 r r') (Z1 r r'),fun a j=>bif beq a r'&&beq j 0 then (s.h r 0).rn (Z1 r r') (Z1 r r') else bif beq a r&&beq j 0 then .un else (s.h a j).rn (Z1 r r') (Z1 r r'),s.lv.map (Z1 r r'),s.c+64,s.n⟩
section
variable {r':Nat}
theorem BT(hl:∀t,t∈lv->2<=t/\t<c)(hr:c<=r'){t:Nat}(ht:t∈lv.map (Z1 r r')):(t=r'/\r∈lv)\/(t<c/\t≠r/\t∈lv):=by
 obtain⟨a,h1,rfl⟩:=J6.1 ht
 by_cases e:a=r
 ·subst e;rw[yI];exact .inl ⟨rfl,h1⟩
 rw[mZ e];exact .inr ⟨(hl a h1).2,e,h1⟩
theorem MT(H:Wd X0 X h lv c w0 w)(hr:c<=r')(h0:r≠0):RenT X (X.mv r r') lv (lv.map (Z1 r r')) c (r'+1) (Z1 r r') (Z1 r r'):=by
 have hc:=H.c2
 have tp:∀t,t<c->Z1 r r' t∈lv.map (Z1 r r')->t∈lv/\∀b i,X.G b i=.tp t->(X.mv r r').G b i=.tp (Z1 r r' t):=fun t ht hm=>by
  refine⟨?_,fun b i hx=>by simp only[Cx.mv,hx]⟩
  rcases BT H.lvc hr hm with⟨h1,h2⟩|⟨h1,h2,h3⟩
  ·by_cases e:t=r
   ·subst e;exact h2
   rw[mZ e]at h1;omega
  by_cases e:t=r
  ·subst e;rw[yI]at h1;omega
  rw[mZ e]at h3;exact h3
 have lt:∀t,t<c->Z1 r r' t<r'+1:=fun t ht=>by
  by_cases e:t=r
  ·subst e;rw[yI];omega
  rw[mZ e];omega
 refine⟨fun a p h2 hp=>?_,fun a ha h2=>⟨lt a ha,tp a ha⟩,fun b i x hx=>by simp only[Cx.mv,hx],lt,fun t ht h1=>?_,⟨zO,fun t ht=>?_⟩,tp,mZ fun e=>h0 e.symm⟩
 ·have ha:=H.ρc a 0 p hp
  by_cases e:a=r
  ·subst e;rw[yI];simp only[Cx.mv,P6,Bool.and_self,cond_true];exact hp
  rw[mZ e]
  simp only[Cx.mv]
  rw[show beq a r'=false by (cases hb:beq a r';rfl;have:=A5 hb;omega)]
  exact hp
 ·by_cases e:t=r
  ·subst e;rw[yI]at h1;omega
  rw[mZ e]at h1;exact h1
 rcases BT H.lvc hr ht with⟨h1,h2⟩|⟨h1,h2,h3⟩
 ·omega
 exact(H.lvc t h3).1
theorem VN{f:Nat->Nat}(R:RenT X X' lv lv' c c' f f){a a' b:Nat}{v:V}(hR:RtR X lv c w a j b o N v)(hg:∀k,X.G b (o+k)=.rt a j k->X'.G b (o+k)=.rt a' j k):RtR X' lv' c' w a' j b o N (v.rn f f):=by
 have main:∀cs,rep X v lv c cs->v.mem=true->cs.length=N->R4 X w a j b o cs->RtR X' lv' c' w a' j b o N (v.rn f f):=fun cs h1 h2 h3 h4=>
  dU ((mU v).1.trans h2) (aF R h1) h3 fun k x hk=>⟨hg k (h4 k x hk).1,(h4 k x hk).2⟩
 cases v with
|ro v=>obtain⟨cs,h1,h2,h3,h4⟩:=hR;exact⟨cs,rep.nest R.fz h1,h2,h3,h4.mono R.fz⟩
|un=>trivial
|_=>obtain⟨cs,h1,h2,h3,h4⟩:=hR;exact main cs h1 h2 h3 h4
theorem Pr{s:T}(H:Wd X0 X s.h s.lv c w0 w)(hr:c<=r')(h0:r≠0):Wd X0 (X.mv r r') (s.mv r r').h (s.mv r r').lv (r'+1) w0 w:=by
 have R:=MT (r:=r) H hr h0
 have hc:=H.c2
 have gk:∀b i,(∀t,X.G b i=.tp t->(X.mv r r').G b i=.tp (Z1 r r' t))/\(∀x,(X.mv r r').G b i=.fz x->X.G b i=.fz x)/\((X.mv r r').G b i=.no->X.G b i=.no)/\(∀t,(X.mv r r').G b i=.tp t->∃t',X.G b i=.tp t'):=fun b i=>by
  simp only[Cx.mv]
  cases hg:X.G b i with
 |rt a j k=>cases hb:beq j 0<;>simp only[hb,cond_true,cond_false]<;>exact⟨fun t e=>(by cases e),fun x e=>(by cases e),fun e=>(by cases e),fun t e=>(by cases e)⟩
 |tp t=>exact⟨fun t' e=>(by cases e;rfl),fun x e=>(by cases e),fun e=>(by cases e),fun t' e=>⟨t,rfl⟩⟩
 |no=>exact⟨fun t e=>(by cases e),fun x e=>(by cases e),fun _=>rfl,fun t e=>(by cases e)⟩
 |fz y=>exact⟨fun t e=>(by cases e),fun x e=>e,fun e=>(by cases e),fun t e=>(by cases e)⟩
 have gno:∀b i,(X.mv r r').G b i≠ .no->X.G b i≠ .no:=fun b i hn e=>hn (by simp only[Cx.mv,e])
 have rho:∀a j p,a≠r'->X.ρ a j=some p->(X.mv r r').ρ a j=some p:=fun a j p ha hp=>by
  simp only[Cx.mv]
  rw[show beq a r'=false by (cases hb:beq a r';rfl;exact absurd (A5 hb) ha)];exact hp
 refine { kb:=H.kb,tape:=H.tape,fz0:=fun b i x hx=>R.fz b i x (H.fz0 b i x hx),no0:=fun b i hb hn=>?_,mp0:=fun b t hb hx=>H.mp0 b t hb ((gk b 0).2.1 _ hx),ρ0:=fun a j p hp=>?_,ex:=fun b i hn=>H.ex b i (gno b i hn),fz:=fun b i x hx=>(H.fz b i x ((gk b i).2.1 x hx)).move R.fz rfl fun _ _ h=>h,tp:=fun b i t hx=>?_,rt:=fun a j b o N hp=>?_,c2:=by omega,lvc:=fun t ht=>?_,ρc:=fun a j p hp=>?_,inv:=?_,imo:=H.imo,κc:=by have:=H.κc;omega,νe:=H.νe,we:=H.we,gz:=H.gz,ν0:=H.ν0,νs:=H.νs,nf:=H.nf.sub fun b i hb hn=>.inl ⟨i,gno b i hn⟩}
 ·rcases H.no0 b i hb hn with h|⟨t,h⟩
  ·exact .inl (by simp only[Cx.mv,h])
  exact .inr ⟨t,R.fz b i _ h⟩
 ·have h1:=H.ρ0 a j p hp
  have:=H.ρc a j p h1
  exact rho a j p zO h1
 ·obtain⟨t',h1⟩:=(gk b i).2.2.2 t hx
  exact H.tp b i t' h1
 ·simp only[Cx.mv]at hp
  simp only[T.mv]
  cases hb:(beq a r'&&beq j 0)<;>rw[hb]at hp
  ·simp only[cond_false]at hp ⊢
   cases U5:(beq a r&&beq j 0)
   ·refine VN R (H.rt a j b o N hp) fun k hk=>?_
    simp only[Cx.mv,hk]
    cases hj:beq j 0
    ·rfl
    rw[hj,Bool.and_true]at U5
    have:a≠r:=fun e=>by subst e;rw[P6]at U5;cases U5
    rw[mZ this];rfl
   trivial
  simp only[cond_true]at hp ⊢
  rw[A9]at hb
  have e1:=A5 hb.1
  have e2:=A5 hb.2
  subst e1 e2
  refine VN R (H.rt r 0 b o N hp) fun k hk=>?_
  simp only[Cx.mv,hk,yI];rfl
 ·rcases BT H.lvc hr ht with⟨h1,h2⟩|⟨h1,h2,h3⟩
  ·subst h1;omega
  have:=H.lvc t h3;omega
 ·simp only[Cx.mv]at hp
  cases hb:(beq a r'&&beq j 0)<;>rw[hb]at hp
  ·have:=H.ρc a j p hp;omega
  rw[A9]at hb;have:=A5 hb.1;omega
 refine H.imo _ _ _ _ _ _ ⟨R.fz,fun b i t ht hk hx=>?_,fun t ht hk=>?_,fun a j p h2 hk hp=>?_⟩ H.inv
 ·have hκ:=H.κc
  rcases BT H.lvc hr ht with⟨h1,h2⟩|⟨h1,h2,h3⟩
  ·omega
  rw[(gk b i).1 t hx,mZ h2]
 ·have hκ:=H.κc
  rcases BT H.lvc hr ht with⟨h1,h2⟩|⟨h1,h2,h3⟩
  ·omega
  exact h3
 have hκ:=H.κc
 exact rho a j p zO hp
theorem mV(r:Nat)(h:Wk P X0 w0 Q ⟨cf.k,cf.s.mv r (C1 cf.s cf.k)⟩)(h0:r≠0:=by decide):Wk P X0 w0 Q cf:=by
 refine⟨fun hQ=>?_⟩
 have I1:=h.run hQ
 show Run P X0 w0 Q ⟨cf.k,cf.s⟩
 have hc:C1 (cf.s.mv r (C1 cf.s cf.k)) cf.k=C1 cf.s cf.k+64:=by
  unfold C1;split<;>simp only[T.mv]<;>omega
 refine tY (by rfl) (fun X τ w hF H=>⟨X.mv r (C1 cf.s cf.k),fun t=>?_,?_,(MT H (B2 _) h0).fz,fun b i=>?_⟩) I1
 ·rw[hc];exact(gS (MT H (B2 _) h0) (hF t)).mono (Cx.le.rfl' _ _ _) zO
 ·rw[hc];exact(Pr H (B2 _) h0).up zO
 unfold C8
 simp only[Cx.mv]
 cases X.G b i with
 |rt a j k=>cases hj:beq j 0<;>simp only[hj,cond_true,cond_false]
 |_=>rfl
end
section
variable {κ:Nat}
theorem gR(r:Nat)(u v:V)(hv:RLe u v)(h:Wk P X0 w0 Q ⟨cf.k,{ cf.s with h:=D9 cf.s.h r 0 v }⟩)(e:(cf.s.h r 0).nz=u:=by kernel_rfl)(hm:(cf.s.h r 0).mem=true:=by kernel_rfl):Wk P X0 w0 Q cf:=
 Nw (k:=cf.k) (s:=cf.s) r v hm ⟨hv.mem,fun X lv c cs hc hl hr=>hv.rep X lv c cs hc hl (e▸pM hr)⟩ h
theorem gZ(r:Nat)(h:Wk P X0 w0 Q ⟨cf.k,{ cf.s with σ:=fun t=>esc r (cf.s.h r 0) (cf.s.σ t),h:=fun r' j=>bif beq r' r&&beq j 0 then .ro (cf.s.h r 0) else esc r (cf.s.h r 0) (cf.s.h r' j) }⟩)(hr:UL (cf.s.h r 0)=true:=by kernel_rfl):Wk P X0 w0 Q cf:=
 Nv (k:=cf.k) (s:=cf.s) r hr h
theorem Ps(hX:Ok0 X0 κ)(sl hl:ι->List (Nat×V))(I:ι->Prop)(μ:ι->Nat)(ren:List (Nat×Nat))(lv:ι->List Nat)(c:Nat)(e:(nx P cf).tag=4)(i0:ι)(hf:Fit κ (nx P cf).a.s ren (sl i0) (hl i0) (lv i0) c)(hI:I i0)
  (h:∀i,I i->∀R:Act->World->Prop,(∀j,I j->μ j<μ i->∀a w,At X0 w0 (St (sl j) (hl j) (lv j) c (nx P cf).a.s.n) c a w->R a w)->Wk P X0 w0 Q ⟨.c (nx P cf).code:: .lp R::(nx P cf).a.k,St (sl i) (hl i) (lv i) c (nx P cf).a.s.n⟩):Wk P X0 w0 Q cf:=by
 classical
 cases hn:nx P cf<;>rw[hn]at e hf h<;>simp only[Ev.tag,Nat.reduceEqDiff]at e
 rename_i b A
 refine⟨fun hQ=>M8 hQ 1000 cf.k cf.s ?_⟩
 rw[show go P 1000 cf.k cf.s=.loop b A from hn]
 intro a w ha
 let J:Act->World->Prop:=fun a w=>∃i,I i/\At X0 w0 (St (sl i) (hl i) (lv i) c A.s.n) c a w
 let p:Act->World->Nat->Prop:=fun a w m=>∃i,I i/\At X0 w0 (St (sl i) (hl i) (lv i) c A.s.n) c a w/\μ i=m
 have ex:∀a w,J a w->∃m,p a w m/\∀k,p a w k->m<=k:=fun a w ⟨i,h1,h2⟩=>JP (p a w) (μ i) ⟨i,h1,h2,rfl⟩
 let M:Act->World->Nat:=fun a w=>if h:J a w then Classical.choose (ex a w h) else 0
 have hM:∀a w,J a w->p a w (M a w)/\∀k,p a w k->M a w<=k:=fun a w h=>by
  have e:M a w=Classical.choose (ex a w h):=dif_pos h
  rw[e]
  exact Classical.choose_spec (ex a w h)
 refine wp_loop J M ⟨i0,hI,ME hX hf ha⟩ ?_;intro a w hJ
 obtain⟨⟨i,h1,h2,hμ⟩,_⟩:=hM a w hJ
 have:b.wp P (D4 P Q (.lp (fun a w=>∃j,I j/\μ j<μ i/\At X0 w0 (St (sl j) (hl j) (lv j) c A.s.n) c a w)::A.k)) a w:=((h i h1 _ (fun j q1 q2 a w q3=>⟨j,q1,q2,q3⟩)).run hQ).to h2
 rw[mT]at this
 refine wp_mono this fun e a' w' hq=>?_
 cases e<;>simp only[Exit.then]at hq ⊢
 case normal=>
  obtain⟨j,j1,j2,j3⟩:=hq
  have hJ':J a' w':=⟨j,j1,j3⟩
  exact⟨hJ',Nat.lt_of_le_of_lt ((hM _ _ hJ').2 _ ⟨j,j1,j3,rfl⟩) (hμ▸j2)⟩
 all_goals exact hq
theorem Pt(hX:Ok0 X0 κ)(sl hl sl' nY:ι->List (Nat×V))(I:Bool×ι->Prop)(μ:ι->Nat)(ren:List (Nat×Nat))(lv lv':List Nat)(c:Nat)(i0:ι)(hI:I (false,i0))(hS:pW (fK κ ren) (gK κ ren (hl i0)) (nx P cf).a.s.σ (sl i0))(hH:cT (fK κ ren) (gK κ ren (hl i0)) (iK κ ren (hl i0)) (nx P cf).a.s.h (hl i0))
  (h1:∀i,I (false,i)->∀R:Act->World->Prop,(∀j,I (false,j)->μ j<μ i->∀a w,At X0 w0 (St (sl j) (hl j) lv c (nx P cf).a.s.n) c a w->R a w)->(∀j,I (true,j)->μ j<μ i->∀a w,At X0 w0 (St (sl' j) (nY j) lv' c (nx P cf).a.s.n) c a w->R a w)->Wk P X0 w0 Q ⟨.c (nx P cf).code:: .lp R::(nx P cf).a.k,St (sl i) (hl i) lv c (nx P cf).a.s.n⟩)
  (h2:∀i,I (true,i)->∀R:Act->World->Prop,(∀j,I (true,j)->μ j<μ i->∀a w,At X0 w0 (St (sl' j) (nY j) lv' c (nx P cf).a.s.n) c a w->R a w)->Wk P X0 w0 Q ⟨.c (nx P cf).code:: .lp R::(nx P cf).a.k,St (sl' i) (nY i) lv' c (nx P cf).a.s.n⟩)
  (e:(nx P cf).tag=4:=by kernel_rfl)(hk:cU κ (nx P cf).a.s ren (sl i0) (hl i0) lv c=true:=by kernel_rfl):Wk P X0 w0 Q cf:=
 Ps hX (fun p:Bool×ι=>bif p.1 then sl' p.2 else sl p.2) (fun p=>bif p.1 then nY p.2 else hl p.2) I (fun p=>μ p.2) ren (fun p=>bif p.1 then lv' else lv) c e (false,i0) ⟨hk,hS,hH⟩ hI fun p hp R hR=>match p,hp,hR with
 |(false,i),hp,hR=>h1 i hp R (fun j q1 q2=>hR (false,j) q1 q2) fun j q1 q2=>hR (true,j) q1 q2
 |(true,i),hp,hR=>h2 i hp R fun j q1 q2=>hR (true,j) q1 q2
end
theorem MU{l l':List V}(h:l.map V.strip=l'):VEn (A1 l).strip (A1 l'):=by
 have hl:l'.length=l.length:=by rw[<-h,J7]
 have e:∀i,(l.getD i .un).strip=l'.getD i .un:=fun i=>by
  rw[<-h,l6,l6,Y6]
  cases l[i]? <;>rfl
 unfold A1
 rw[hl]
 exact .st _ _ _ fun i _=>by
  show VEn (l.getD i .un).strip (l'.getD i .un)
  rw[e];exact .rfl _
theorem VO{z n:Nat}{g:Nat->V}{l l':List V}(hv:A1 l'=g i)(hl:l.map V.strip=l'):VEq (.ar z n fun j=>bif beq j i then (A1 l).strip else g j) (.ar z n g):=.an _ _ _ _ fun j _=>by
 cases e:beq j i
 ·exact .rfl _
 have:=A5 e
 subst this;rw[<-hv];exact MU hl
theorem GV(h:j≠i):beq j i=false:=by cases e:beq j i;rfl;exact absurd (A5 e) h
theorem fJ{z n:Nat}{g:Nat->V}{l l':List V}(hv:A1 l'=g i)(hl:l.map V.strip=l')(hp:((A1 l).prs d6&&(A1 l).mem)=true):RLe (.fo z (.ar z n g) i (A1 l)) (.ar z n g):=
 ⟨rfl,fun X lv c cs hc h2 hr=>(VO hv hl).rep ((UP (g':=fun j=>bif beq j i then (A1 l).strip else g j) (fun j h=>by rw[GV h];rfl) (by rw[P6];rfl) hp).2 X lv c cs hc h2 hr)⟩
theorem Pu{z n:Nat}{g:Nat->V}{l l':List V}{vk:V}(oG:i≠k)(hv:A1 l'=g i)(hl:l.map V.strip=l')(hp:((A1 l).prs d6&&(A1 l).mem)=true)(hm:(V.fo z (.ar z n g) k vk).mem=true):RLe (.fo z (.fo z (.ar z n g) k vk) i (A1 l)) (.fo z (.ar z n g) k vk):=
 ⟨hm,fun X lv c cs hc h2 hr=>by
  obtain⟨q1,⟨es,q2,q3⟩,q4⟩:=(Ny (g':=fun j=>bif beq j i then (A1 l).strip else g j) oG (fun j h=>by rw[GV h];rfl) (by rw[P6];rfl) hp hm).2 X lv c cs hc h2 hr
  exact⟨q1,⟨es,q2,(VO hv hl).rep q3⟩,q4⟩⟩
def VW(v v':V):Prop:=∀(X:Cx) (cs:List Value),rep X v [] 2 cs->rep X v' [] 2 cs
def VA(v v':V):Prop:=∀(X:Cx) (x:Value),repv X [] 16 v x->repv X [] 16 v' x
theorem VW.rfl{v:V}:VW v v:=fun _ _ h=>h
theorem VA.rfl{v:V}:VA v v:=fun _ _ h=>h
theorem VW.of_eq{v:V}(h:v=v'):VW v v':=h▸VW.rfl
theorem VA.of_eq{v:V}(h:v=v'):VA v v':=h▸VA.rfl
theorem VW.pz{v:V}(h:VW v v'):VW (.pz v) (.pz v'):=fun X cs ⟨b,o,es,q1,q2,q3,q4⟩=>⟨b,o,es,q1,h X es q2,q3,q4⟩
theorem VA.pz{v:V}(h:VW v v'):VA (.pz v) (.pz v'):=fun X x ⟨b,o,es,q1,q2,q3,q4⟩=>⟨b,o,es,q1,h X es q2,q3,q4⟩
theorem VW.uk{v:V}(h:v.one1=true):VW v (.uk 1):=fun _ _ hr=>GC h hr
def VWl:List V->List V->Prop
|[],[]=>True
|a::l,b::m=>VW a b/\VWl l m
|_,_=>False
theorem VWl.at:∀{l m:List V},VWl l m->l.length=m.length/\∀i,i<l.length->VW (l.getD i .un) (m.getD i .un)
|[],[],_=>⟨by simp,fun i h=>by simp at h⟩
|a::l,b::m,h=>by
  obtain⟨h1,h2⟩:=h.2.at
  refine⟨by simp[h1],fun i hi=>?_⟩
  cases i with
 |zero=>exact h.1
 |succ i=>exact h2 i (by simpa using hi)
theorem VW.st{l m:List V}(h:VWl l m):VW (A1 l) (A1 m):=fun X cs hr=>by
 obtain⟨h1,h2⟩:=h.at
 show rep X (.st m.length _) [] 2 cs
 rw[<-h1]
 exact d7 hr fun k cs hk hr=>h2 k hk X cs hr
def VAl:List V->List V->Prop
|[],[]=>True
|a::l,b::m=>VA a b/\VAl l m
|_,_=>False
theorem VAl.at:∀{l m:List V},VAl l m->l.length=m.length/\∀(i:Nat) v',m[i]? =some v'->∃v,l[i]? =some v/\VA v v'
|[],[],_=>⟨by simp,fun i v' h=>by simp at h⟩
|a::l,b::m,h=>by
  obtain⟨h1,h2⟩:=h.2.at
  refine⟨by simp[h1],fun i v' hi=>?_⟩
  cases i with
 |zero=>simp only[PK,F2]at hi;subst hi;exact⟨a,by simp,h.1⟩
 |succ i=>simp only[DC]at hi ⊢;exact h2 i v' hi
theorem SatM.weak{m:Bool}{f:FuncId}{ins ins':List V}(h:SatM P m f ins [] R)(hw:VAl ins' ins):SatM P m f ins' [] R:=fun X w vs D7 aS hX H hm=>by
 obtain⟨h1,h2⟩:=hw.at
 refine h X w vs (by rw[D7,h1]) (fun i v' x hv hx=>?_) hX H hm;obtain⟨v,aP,ha⟩:=h2 i v' hv
 exact ha X x (aS i v x aP hx)
theorem VP{u t:V}:(bif beq i i then u else t)=u:=by rw[P6];rfl
theorem VQ{z:Nat}{c:V}:(dY z c).one1=true:=by
 unfold dY
 split
 ·rename_i z' n g
  cases beq z z'<;>rfl
 ·cases beq z 1<;>rfl
 ·rename_i n g
  cases (beq z 1&&V.mem.all n fun k=>cP g n k k&&beq (g k).sz 1)<;>rfl
 rfl
theorem Pv{z n:Nat}{g:Nat->V}{v:V}(hi:i<n)(hm:v.mem=true):dY z (tZ z i (.ar z n g) v)=.sl 0 z n fun k=>bif beq k i then v else g k:=by
 have h1:blt i n=true:=by rw[A8];exact hi
 simp only[tZ,P6,h1,hm,Bool.and_self,cond_true,dY]
def Pw:V->Bool
|.vw _ _ _ _=>true
|_=>false
theorem gD(lv':List Nat)(h:Wk P X0 w0 Q ⟨cf.k,{ cf.s with lv:=lv' }⟩)(hs:(lv'.all fun t=>cf.s.lv.any fun q=>beq t q)=true:=by kernel_rfl):Wk P X0 w0 Q cf:=by
 have W3:∀t,t∈lv'->t∈cf.s.lv:=fun t ht=>by
  obtain⟨q,hq,he⟩:=vI.1 (P5.1 hs t ht)
  rw[A5 he];exact hq
 refine⟨fun hQ=>?_⟩
 have I1:=h.run hQ
 show Run P X0 w0 Q ⟨cf.k,cf.s⟩
 exact tY (s':={ cf.s with lv:=lv' }) rfl (fun X τ w hF H=>by
  obtain⟨h1,h2⟩:=H.relv (lv':=lv') (B2 _) (fun t ht _=>W3 t ht) fun t ht=>H.lvc t (W3 t ht)
  exact⟨X,fun t=>(hF t).mono h1 (B2 _),h2,fun _ _ _ h=>h,fun _ _=>rfl⟩) I1
theorem gN(d z:Nat)(g g':Nat->V)(h:Wk P X0 w0 Q ⟨cf.k,⟨cS cf.s.σ d (.os (C1 cf.s cf.k) z),D9 cf.s.h (C1 cf.s cf.k) 0 (.ar z 0 g'),C1 cf.s cf.k::cf.s.lv,cf.s.c+64,cf.s.n⟩⟩)(e:(cf.s.σ d,cf.s.h 0 0,blt 0 z)=(.sl 1 z 0 g,.un,true):=by kernel_rfl):Wk P X0 w0 Q cf:=by
 refine⟨fun hQ=>?_⟩
 have I1:=h.run hQ
 show Run P X0 w0 Q ⟨cf.k,cf.s⟩
 simp only[G6,A8]at e
 obtain⟨e1,e2,e3⟩:=e
 generalize K3:C1 cf.s cf.k=nm at*
 have hc:C1 ⟨cS cf.s.σ d (.os nm z),D9 cf.s.h nm 0 (.ar z 0 g'),nm::cf.s.lv,cf.s.c+64,cf.s.n⟩ cf.k=nm+64:=by rw[<-K3];unfold C1;split<;>simp only[]<;>omega
 refine tY (by rfl) (fun X τ w hF H=>?_) I1
 rw[K3]at hF H
 rw[hc]
 have f2:repv X cf.s.lv nm (.sl 1 z 0 g) (ev cf.s.n τ (.tmp d)):=by have:=hF d;rw[e1]at this;exact this
 obtain⟨_,ao,cap,p1,p2,p3,p4,p5,p6⟩:=f2
 have p5:=p5 rfl
 subst p5
 have h2:=H.c2
 let bo:Nat×Nat:=match ao with|some ⟨b,o,_⟩=>(b,o)|none=>(0,0)
 obtain⟨B1,HW⟩:=H.regh (X':=X.nil nm bo.1 0) (h':=D9 cf.s.h nm 0 (.ar z 0 g')) (lv':=nm::cf.s.lv) (c':=nm+64) (r:=0) (nm:=nm) (B2 _) zO (fun b i=>.inl rfl) (fun r' j p h=>by
   simp only[Cx.nil]at h
   split at h
   ·right;assumption
   ·exact .inl h) (fun r' j p h=>by
   simp only[Cx.nil]
   rw[if_neg (fun e=>by have:=H.ρc _ _ _ h;omega)];exact h) (fun r' j D5=>.inl (gO _ _ fun e=>D5 e.1)) (by rw[gO _ _ fun e=>by omega];exact e2) (fun t ht=>by
   rcases K8.1 ht with rfl|ht
   ·exact⟨zO,zO,zO,fun h=>absurd h (Nat.lt_irrefl _)⟩
   ·have:=H.lvc t ht
    exact⟨zO,this.1,zO,fun _=>ht⟩) (fun b o N B1 hp=>by
   simp only[Cx.nil,and_self,if_true,F2,G6]at hp
   obtain⟨rfl,rfl,rfl⟩:=hp
   rw[j8]
   exact dU (v:=.ar z 0 g') (cs:=[]) rfl ⟨by simp,fun k hk=>by omega⟩ rfl (fun k x hk=>by simp at hk))
 refine⟨_,fun t=>?_,HW,fun _ _ _ h=>h,fun b i=>by unfold C8;rfl⟩
 show repv _ _ _ (cS cf.s.σ d (.os nm z) t) _
 unfold cS
 cases hb:beq t d
 ·exact(hF t).mono B1 zO
 have:=A5 hb
 subst this
 refine⟨zO,e3,bo.1,0,by simp[Cx.nil],?_,fun _ _=>⟨ao,p1⟩⟩
 refine⟨ao,0,p1,B2 _,p3,zO,fun e=>by omega,?_⟩
 rcases p6 with⟨h1,h2⟩|⟨b,o,h1,_⟩
 ·exact .inl ⟨.inl (h1.resolve_right (by decide)),rfl⟩
 subst h1
 exact .inr ⟨b,o,rfl,fun h=>by omega,fun _ i hi G9=>by omega⟩
theorem Px(d:Nat)(v':V)(h':Nat->Nat->V)(hk:Wk P X0 w0 Q ⟨(nx P cf).a.k,({ (nx P cf).a.s with h:=h' }).put (some d) v'⟩)(e:((nx P cf).tag,beq (C1 (nx P cf).a.s (nx P cf).a.k) ((nx P cf).nm+64),(nx P cf).op.dst)=(9,true,some d))
  (z7:∀X τ w,FrR X (nx P cf).a.s.lv (nx P cf).nm (nx P cf).a.s.n (nx P cf).a.s.σ τ->Wd X0 X (nx P cf).a.s.h (nx P cf).a.s.lv (nx P cf).nm w0 w->
   ∃v w' X',(execOp (ev (nx P cf).a.s.n τ) (nx P cf).op).run P w=.ok (.value v) w'/\X.le X' (nx P cf).a.s.lv (nx P cf).a.s.lv (nx P cf).nm/\Wd X0 X' h' (nx P cf).a.s.lv ((nx P cf).nm+64) w0 w'/\repv X' (nx P cf).a.s.lv ((nx P cf).nm+64) v' v/\Yle (C8 X w) (C8 X' w')):Wk P X0 w0 Q cf:=by
 refine⟨fun hQ=>M8 hQ 1000 cf.k cf.s ?_⟩
 cases hn:nx P cf<;>rw[hn]at e z7 hk<;>simp only[Ev.tag,G6,reduceCtorEq,Nat.reduceEqDiff,false_and]at e
 rename_i o nm A
 rw[show go P 1000 cf.k cf.s=.ext o nm A from hn]
 intro X τ w hF H hd
 obtain⟨v,w',X',h1,h2,h3,h4,h5⟩:=z7 X τ w hF H
 refine .inl ⟨v,w',by rw[W7];exact h1,?_⟩;have hdd:o.dst=some d:=e.2.2
 have:=jK (s:=A.s) (hF.mono h2 (Nat.le_add_right nm 64)) h3 hd h4 A.s.c
 have K3:C1 A.s A.k=nm+64:=A5 e.2.1
 refine xU (mR h3 h2.fz fun _=>h5) ((hk.run hQ) _ _ _ ?_);have O9:C1 (({ A.s with h:=h' }).put (some d) v') A.k=C1 A.s A.k:=by
  unfold C1;split<;>rfl
 show AtY _ _ _ (C1 (({ A.s with h:=h' }).put (some d) v') A.k) _ _ _
 rw[O9,K3, <-hdd]
 exact this
theorem Py{c v0 v1 v2:Value}(h0:v0.cells.toList=[v0])(h1:v1.cells.toList=[v1])(h2:v2.cells.toList=[v2]):Instr.fill (fun i=>some (i*1,1)) ((Array.range (3*1)).map (#[c][· % #[c].size]!)) [(0,v0),(1,v1),(2,v2)]=some #[v0,v1,v2]:=by
 have hA:(Array.range (3*1)).map (fun x=> #[c][x % #[c].size]!)= #[c,c,c]:=by
  apply U2
  simp[List.range_succ,Nat.mod_one]
 have s0:v0.cells.size=1:=by rw[<-u6,h0];rfl
 have s1:v1.cells.size=1:=by rw[<-u6,h1];rfl
 have s2:v2.cells.size=1:=by rw[<-u6,h2];rfl
 rw[hA,tK (off:=0) (size:=1) rfl s0 (by rw[s0];simp),h0,tK (off:=1) (size:=1) rfl s1 (by rw[s1];simp[ins]),h1,tK (off:=2) (size:=1) rfl s2 (by rw[s2];simp[ins]),h2]
 rfl
theorem MV{t:TypeId}{d:Nat}{x0 x1 x2:Operand}(l0 l1:List UInt8)(q0 q1:Nat)(vw:V)(h:Wk P X0 w0 Q ⟨(nx P cf).a.k,({ (nx P cf).a.s with h:=D9 (nx P cf).a.s.h (nx P cf).nm 0 (A1 [.bl q0 l0,.bl q1 l1,vw]) }).put (some d) (.os (nx P cf).nm 1)⟩)
  (e:((nx P cf).tag,beq (C1 (nx P cf).a.s (nx P cf).a.k) ((nx P cf).nm+64),(nx P cf).op.dst)=(9,true,some d):=by kernel_rfl)
  (eo:(nx P cf).op.op=.buildSlice t 3 #[(0,x0),(1,x1),(2,x2)]:=by kernel_rfl)(ev0:(av P (nx P cf).a.s.σ (D6 P t) x0,av P (nx P cf).a.s.σ (D6 P t) x1,av P (nx P cf).a.s.σ (D6 P t) x2,Q0 P t 1,(zeroCells P (D6 P t)).map (·.length),Pw vw)=(.bl q0 l0,.bl q1 l1,vw,true,some 1,true):=by kernel_rfl):Wk P X0 w0 Q cf:=by
 simp only[G6]at ev0
 obtain⟨a0,a1,a2,hs,hz,hvw⟩:=ev0
 refine Px d _ _ h e fun X τ w hF H=>?_
 obtain⟨C,hzC⟩:∃C,zeroCells P (D6 P t)=some C:=by
  cases hc:zeroCells P (D6 P t) with
 |none=>rw[hc]at hz;cases hz
 |some C=>exact⟨C,rfl⟩
 rw[hzC]at hz
 have hCl:C.length=1:=by injection hz
 have b0:=B5 (P:=P) H.c2 hF (D6 P t) x0
 have b1:=B5 (P:=P) H.c2 hF (D6 P t) x1
 have b2:=B5 (P:=P) H.c2 hF (D6 P t) x2
 rw[a0]at b0
 rw[a1]at b1
 rw[a2]at b2
 obtain⟨s0,n0,c0,e0⟩:∃s n c,ev (nx P cf).a.s.n τ x0=.slice s n c:=by obtain⟨s,c,h1,_⟩:=b0;exact⟨s,_,c,by simpa using h1⟩
 obtain⟨s1,n1,c1,e1⟩:∃s n c,ev (nx P cf).a.s.n τ x1=.slice s n c:=by obtain⟨s,c,h1,_⟩:=b1;exact⟨s,_,c,by simpa using h1⟩
 obtain⟨s2,n2,c2,e2⟩:∃s n c,ev (nx P cf).a.s.n τ x2=.slice s n c:=by
  cases vw<;>first|(cases hvw;done)|skip
  obtain⟨_,_,b,o,N,cap,_,h1,_⟩:=b2
  exact⟨_,_,cap,by simpa using h1⟩
 have b2':rep X vw (nx P cf).a.s.lv (nx P cf).nm [ev (nx P cf).a.s.n τ x2]:=by
  cases vw<;>first|(cases hvw;done)|exact b2
 have fX:vw.mem=true:=by cases vw<;>first|(cases hvw;done)|rfl
 have hC:C=[C[0]'oM]:=by
  match C,hCl with
 |[c],_=>rfl
 have wE:Instr.fill (fun i=>some (i*1,1)) ((Array.range (3*1)).map (C.toArray[· % C.toArray.size]!)) (W6 (nx P cf).a.s.n τ (#[(0,x0),(1,x1),(2,x2)]:Array (Nat×Operand)).toList)=some #[ev (nx P cf).a.s.n τ x0,ev (nx P cf).a.s.n τ x1,ev (nx P cf).a.s.n τ x2]:=by
  rw[hC]
  exact Py (by rw[e0];rfl) (by rw[e1];rfl) (by rw[e2];rfl)
 have hr:=KE (P:=P) (w:=w) (Y4 hs).2.1 hzC (len:=3) (vG 0) (by decide) (#[(0,x0),(1,x1),(2,x2)].map fun(i,x)=>(i,ev (nx P cf).a.s.n τ x)) (by rw[show(#[(0,x0),(1,x1),(2,x2)].map fun(i,x)=>(i,ev (nx P cf).a.s.n τ x)).toList=W6 (nx P cf).a.s.n τ (#[(0,x0),(1,x1),(2,x2)]:Array (Nat×Operand)).toList by rw[sJ,zJ]];exact wE)
 have aS:rep X (A1 [.bl q0 l0,.bl q1 l1,vw]) (nx P cf).a.s.lv (nx P cf).nm [ev (nx P cf).a.s.n τ x0,ev (nx P cf).a.s.n τ x1,ev (nx P cf).a.s.n τ x2]:=⟨[_,_],[_],rfl,⟨[_],[_],rfl,⟨[],[_],rfl,rfl,b0⟩,b1⟩,b2'⟩
 have j5:(A1 [.bl q0 l0,.bl q1 l1,vw]).mem=true:=by show(((true&&true)&&true)&&vw.mem)=true;rw[fX];rfl
 have H2:=H.own (B2 (nx P cf).nm) j5 aS (D6 P t)
 refine⟨_,_,_,?_,H.own_le (B2 _),H2.up zO,⟨H.c2,vG 0,w.heap.size,3,LT ..,⟨some ⟨w.heap.size,0,none⟩,3,rfl,B2 _,by decide,zO,fun _=>rfl,.inr ⟨_,0,rfl,fun _=>⟨rfl,rfl⟩,fun _ i hi G9=>by omega⟩⟩,fun h=>by cases h⟩,H.own_y _ _ _⟩
 have:(nx P cf).op=⟨some d,.buildSlice t 3 #[(0,x0),(1,x1),(2,x2)],(nx P cf).op.type,(nx P cf).op.pos,(nx P cf).op.after,(nx P cf).op.guard⟩:=by rw[<-eo, <-show(nx P cf).op.dst=some d from by simp only[G6]at e;exact e.2.2]
 rw[this]
 simp only[execOp,D0,hr,F6]
 rfl
theorem Pz{z n:Nat}{g g':Nat->V}{v:V}(hs:VEn v.strip (g' i))(hg:∀j,j≠i->g' j=g j):VEq (.ar z n fun j=>bif beq j i then v.strip else g j) (.ar z n g'):=.an _ _ _ _ fun j _=>by
 cases e:beq j i
 ·rw[hg j fun h=>by rw[h,P6]at e;cases e];exact .rfl _
 have:=A5 e
 subst this;exact hs
theorem T8{z n:Nat}{g g':Nat->V}{v:V}(hs:VEn v.strip (g' i))(hg:∀j,j≠i->g' j=g j)(hp:(v.prs d6&&v.mem)=true):RLe (.fo z (.ar z n g) i v) (.ar z n g'):=
 ⟨rfl,fun X lv c cs hc h2 hr=>(Pz hs hg).rep ((UP (g':=fun j=>bif beq j i then v.strip else g j) (fun j h=>by rw[GV h];rfl) (by rw[P6];rfl) hp).2 X lv c cs hc h2 hr)⟩
theorem qD{m:Bool}{f:FuncId}{ins ins':List V}{lvi:List Nat}(h:SatM P m f ins lvi R)(hv:eqF ins' ins):SatM P m f ins' lvi R:=fun X w vs a b c d q=>h X w vs (a.trans hv.at.1) (fun i u x hi hx=>by
 obtain⟨hl,he⟩:=N1.1 hi
 have nY:i<ins'.length:=hv.at.1▸hl
 have:=hv.at.2 i
 rw[l6,l6,hi,B6 nY]at this
 exact this.repv (b i _ x (B6 nY) hx)) c d q
def uC:Nat->List Value->List (Nat×Value)
|_,[]=>[]
|a,v::l=>(a,v)::uC (a+1) l
def GW(k:IntKind):Nat->List Int->List (Nat×V)
|_,[]=>[]
|a,x::l=>(a,.i k x)::GW k (a+1) l
theorem VR:∀(vs:List Value) (a:Nat) (C:List Value),(∀v∈vs,v.cells.toList=[v])->a+vs.length=C.length->Instr.fill (fun i=>some (i*1,1)) C.toArray (uC a vs)=some (C.take a++vs).toArray
|[],a,C,_,h=>by
  have h:a=C.length:=by simpa using h
  subst h
  simp[uC,Instr.fill]
|v::l,a,C,h1,h=>by
  have hv:=h1 v (X9 ..)
  have hs:v.cells.size=1:=by rw[<-u6,hv];rfl
  have hl:a+1<=C.length:=by simp only[G8]at h;omega
  have hins:ins C (a*1) [v]=C.take a++v::C.drop (a+1):=by simp[ins]
  simp only[uC]
  rw[tK (off:=a*1) (size:=1) rfl hs (by rw[hs];simpa using hl),hv]
  rw[show(C.toArray).toList=C from rfl,hins,VR l (a+1) _ (fun x hx=>h1 x (R5 _ hx)) (by simp at h ⊢;omega)]
  congr 2
  have:(C.take a).length=a:=by simp;omega
  rw[List.take_append,this,V9 zO,show a+1-a=1 by omega]
  simp
section
variable {nm n:Nat} {σ:Fr}
theorem VS{k:IntKind}{e:TypeId}(H:Wd X0 X h lv nm w0 w)(hF:FrR X lv nm n σ τ):∀(ps:List (Nat×Operand)) (xs:List Int) (a:Nat),ps.map (fun q=>(q.1,av P σ e q.2))=GW k a xs->W6 n τ ps=uC a (xs.map (Value.int k))/\∀x∈xs,k.wrap x=x
|[],[],a,_=>⟨rfl,fun _ h=>by cases h⟩
|[],x::xs,a,h=>by cases h
|q::ps,[],a,h=>by cases h
|(i,o)::ps,x::xs,a,h=>by
  simp only[U1,GW,qP,G6]at h
  obtain⟨⟨rfl,h1⟩,h2⟩:=h
  obtain⟨g1,g2⟩:=VS H hF ps xs (i+1) h2
  have hv:=B5 (P:=P) H.c2 hF e o
  rw[h1]at hv
  obtain⟨e1,e2⟩:=M0 hv
  refine⟨?_,fun y hy=>?_⟩
  ·simp only[W6,U1,uC];rw[e1];congr 1
  rcases K8.1 hy with rfl|hy
  ·exact e2
  exact g2 y hy
end
def MW:Op->Array (Nat×Operand)
|.build _ ps=>ps
|_=> #[]
def MX(t:TypeId):Op->Bool
|.build t' _=>beq t' t
|_=>false
theorem Qa{t:TypeId}{o:Op}(h:MX t o=true):o=.build t (MW o):=by
 cases o<;>simp only[MX,zM]at h
 rw[A5 h];rfl
theorem MY{t:TypeId}{d:Nat}(k:IntKind)(xs:List Int)(h:Wk P X0 w0 Q ⟨(nx P cf).a.k,(nx P cf).a.s.put (some d) (.ar 1 xs.length fun i=>.i k (xs.getD i 0))⟩)
  (e:((nx P cf).tag,beq (C1 (nx P cf).a.s (nx P cf).a.k) ((nx P cf).nm+64),(nx P cf).op.dst)=(9,true,some d):=by kernel_rfl)
  (eb:MX t (nx P cf).op.op=true:=by kernel_rfl)(ev0:((MW (nx P cf).op.op).toList.map (fun q=>(q.1,av P (nx P cf).a.s.σ (D6 P t) q.2)),V0 P t,(zeroCells P t).map (·.length))=(GW k 0 xs,some (xs.length,1),some xs.length):=by kernel_rfl):Wk P X0 w0 Q cf:=by
 have eo:=Qa eb
 simp only[G6]at e ev0
 obtain⟨e1,e2,e3⟩:=e
 obtain⟨a0,ha,hz⟩:=ev0
 refine GQ (fun v'=>v'=.ar 1 xs.length fun i=>.i k (xs.getD i 0)) (by rw[e1,e2]) (fun X τ w hF H=>?_) fun v' e=>by rw[e3,e];exact h
 obtain⟨C,hzC⟩:∃C,zeroCells P t=some C:=by
  cases hc:zeroCells P t with
 |none=>rw[hc]at hz;cases hz
 |some C=>exact⟨C,rfl⟩
 rw[hzC]at hz
 have hCl:C.length=xs.length:=by injection hz
 obtain⟨g1,g2⟩:=VS H hF _ _ _ a0
 have wE:=VR (xs.map (Value.int k)) 0 C (fun v hv=>by obtain⟨x,_,rfl⟩:=J6.1 hv;rfl) (by simp;omega)
 have wE:Instr.fill (fun i=>some (i*1,1)) C.toArray (uC 0 (xs.map (Value.int k)))=some (xs.map (Value.int k)).toArray:=by simpa using wE
 refine⟨.agg (xs.map (Value.int k)).toArray,w,X,.ar 1 xs.length fun i=>.i k (xs.getD i 0),?_,Cx.le.rfl' _ _ _,H.up zO,⟨_,rfl,by simp,fun j hj=>⟨?_,rfl⟩⟩,fun _ _ _ h=>h,rfl⟩
 ·have:(nx P cf).op=⟨some d,.build t (MW (nx P cf).op.op),(nx P cf).op.type,(nx P cf).op.pos,(nx P cf).op.after,(nx P cf).op.guard⟩:=by rw[<-eo, <-e3]
  rw[this]
  exact KI g1 (by rw[(Bld.arr ha hzC).eq];exact wE)
 have hx:xs.getD j 0∈xs:=by rw[l6,B6 hj];exact eG hj
 refine⟨?_,g2 _ hx⟩
 apply V7
 intro m
 rw[t7]
 cases m with
 |zero=>
  simp only[vG,if_true,Q5,l5,t8]
  rw[Y6,B6 hj,l6,B6 hj]
  rfl
 |succ m=>simp
def yJ(r:Nat)(c:V):V->V
|.pr r' j p=>bif beq r' r&&beq j 0&&p.isEmpty then .pz c else .pr r' j p
|v=>v
section
theorem Qb{b:Nat}{c0:V}{bW:List Value}(hρ:X.ρ r 0=some (b,o,N))(h0:0<bW.length)(hc:rep X c0 [] 2 bW)(W5:FzAt X.G b o bW){v:V}(h:repv X lv c v x):repv X lv c (yJ r c0 v) x:=by
 cases v
 case pr r' j p=>
  simp only[yJ]
  cases hb:beq r' r&&beq j 0&&p.isEmpty
  ·exact h
  simp only[A9]at hb
  have e1:=A5 hb.1.1
  have e2:=A5 hb.1.2
  have e3:p=[]:=List.isEmpty_iff.1 hb.2
  subst e1 e2 e3
  obtain⟨_,b',o',N',q1,q2,_⟩:=h
  rw[hρ]at q1
  simp only[F2,G6]at q1
  obtain⟨rfl,rfl,rfl⟩:=q1
  exact⟨b,o,bW,q2,hc,h0,W5⟩
 all_goals exact h
theorem Qc{k:List K}{s:T}(r:Nat)(hp:((s.h r 0).prs d6&&(s.h r 0).mem&&blt 0 (s.h r 0).sz)=true)(h:Wk P X0 w0 Q ⟨k,{ s with σ:=fun t=>yJ r (s.h r 0).strip.nz (s.σ t),h:=D9 s.h r 0 (.ro (s.h r 0).strip) }⟩):Wk P X0 w0 Q ⟨k,s⟩:=by
 refine⟨fun hQ=>?_⟩
 have I1:=h.run hQ
 refine tY (by rfl) (fun X τ w hF H=>?_) I1;have hc:∀σ h,C1 { s with σ:=σ,h:=h} k=C1 s k:=fun v h=>by unfold C1;split<;>rfl
 rw[hc]
 simp only[A9]at hp
 obtain⟨⟨hpp,hm⟩,hs⟩:=hp
 cases hρ:X.ρ r 0 with
|none=>
  refine⟨X,fun t=>?_,{ H with rt:=fun r' j b' o' N' K5=>?_ },fun _ _ _ h=>h,fun _ _=>rfl⟩
  ·have:=hF t
   show repv X s.lv _ (yJ r _ (s.σ t)) _
   cases hv:s.σ t<;>rw[hv]at this
   case pr r' j p=>
    simp only[yJ]
    cases hb:beq r' r&&beq j 0&&p.isEmpty
    ·exact this
    simp only[A9]at hb
    have e1:=A5 hb.1.1
    have e2:=A5 hb.1.2
    subst e1 e2
    obtain⟨_,b',o',N',q1,q2,_⟩:=this
    rw[hρ]at q1;cases q1
   all_goals exact this
  have hR:=H.rt r' j b' o' N' K5
  have D5:¬ (r'=r/\j=0):=fun⟨e1,e2⟩=>by subst e1 e2;rw[hρ]at K5;cases K5
  show RtR _ _ _ _ r' j b' o' N' (D9 s.h r 0 _ r' j)
  rw[gO _ _ D5];exact hR
|some p=>
  obtain⟨b,o,N⟩:=p
  have hR:=H.rt r 0 b o N hρ
  have oA:∃cs,rep X (s.h r 0) s.lv (C1 s k) cs/\(s.h r 0).mem=true/\cs.length=N/\R4 X w r 0 b o cs:=by
   cases hv:s.h r 0<;>rw[hv]at hR hm
   case ro v=>cases hm
   case un=>cases hm
   all_goals exact hR
  obtain⟨cs,q1,q2,q3,q4⟩:=oA
  obtain⟨f1,f2,f3⟩:=H.frz hρ q1 q2 hpp q3 q4
  have q5:rep X (s.h r 0).strip [] 2 cs:=sZ hpp q1
  have q6:=q5.mono f1.nil (B2 2)
  have h0:0<cs.length:=by rw[X3 q2 q1];exact Nat.blt_eq.mp hs
  exact⟨X.frz w r 0 b o N,fun t=>Qb (X:=X.frz w r 0 b o N) hρ h0 (pM q6) f3 ((hF t).mono f1 (B2 _)),f2,f1.fz,H.frz_y q1 q2 q3 q4 rfl⟩
theorem gF(r:Nat)(h:Wk P X0 w0 Q ⟨cf.k,{ cf.s with σ:=fun t=>yJ r (cf.s.h r 0).strip.nz (cf.s.σ t),h:=D9 cf.s.h r 0 (.ro (cf.s.h r 0).strip) }⟩)(hp:((cf.s.h r 0).prs d6&&(cf.s.h r 0).mem&&blt 0 (cf.s.h r 0).sz)=true:=by kernel_rfl):Wk P X0 w0 Q cf:=
 Qc (k:=cf.k) (s:=cf.s) r hp h
end
def yL:V->V->List (Nat×Nat)
|.bl t _,.bl t' _|.sl t _ _ _,.sl t' _ _ _=>bif blt 1 t&&blt 1 t' then [(t,t')] else []
|.os r _,.os r' _|.pr r _ _,.pr r' _ _=>[(r,r')]
|.st n g,.st _ g'|.tu n g,.tu _ g'|.fn _ n g,.fn _ _ g'=>(List.range n).flatMap fun k=>yL (g k) (g' k)
|.fo _ b _ v,.fo _ b' _ v'=>yL b b'++yL v v'
|_,_=>[]
def GX(κ:Nat)(h:Nat->Nat->V)(hl:List (Nat×V))(ren:List (Nat×Nat)):List (Nat×Nat):=ren++((hl.flatMap fun q=>yL (h (iK κ ren hl q.1) 0) q.2).filter fun q=>Nat.ble κ q.1)
def gW(κ:Nat)(s:T)(sl hl:List (Nat×V)):List (Nat×Nat):=GX κ s.h hl (GX κ s.h hl ((sl.flatMap fun q=>yL (s.σ q.1) q.2).filter fun q=>Nat.ble κ q.1))
section
variable {κ:Nat}
theorem cA{sl hl:List (Nat×V)}{n:Nat}{R:Act->World->Prop}(hX:Ok0 X0 κ)(hR:∀a w,At X0 w0 (St sl hl lv c n) c a w->R a w)(hS:pW (fK κ (gW κ (nx P cf).s sl hl)) (gK κ (gW κ (nx P cf).s sl hl) hl) (nx P cf).s.σ sl:=by repeat' first|exact zT|refine⟨v0,?_⟩)
  (hH:cT (fK κ (gW κ (nx P cf).s sl hl)) (gK κ (gW κ (nx P cf).s sl hl) hl) (iK κ (gW κ (nx P cf).s sl hl) hl) (nx P cf).s.h hl:=by repeat' first|exact zT|refine⟨v0,?_⟩)
  (e:nx P cf=.round R (nx P cf).s:=by kernel_rfl)(en:(nx P cf).s.n=n:=by kernel_rfl)(hk:cU κ (nx P cf).s (gW κ (nx P cf).s sl hl) sl hl lv c=true:=by kernel_rfl):Wk P X0 w0 Q cf:=cR hX _ hR hS hH e en hk
def qE(P:Program)(s:T)(rs:List ResultVar):V:=pU ((dX P s rs).getD [])
def yM(κ:Nat)(s:T)(r out:V)(ho:List (Nat×V)):List (Nat×Nat):=GX κ s.h ho (GX κ s.h ho ((yL r out).filter fun q=>Nat.ble κ q.1))
theorem xW(hX:Ok0 X0 κ)(out:V){ho:List (Nat×V)}{A0:List Nat}(hR:R out ho A0)
  (hH:cT (fK κ (yM κ (nx P cf).s (qE P (nx P cf).s fn.results.toList) out ho)) (gK κ (yM κ (nx P cf).s (qE P (nx P cf).s fn.results.toList) out ho) ho) (iK κ (yM κ (nx P cf).s (qE P (nx P cf).s fn.results.toList) out ho) ho) (nx P cf).s.h ho:=by repeat' first|exact zT|refine⟨v0,?_⟩)
  (hv:VEq ((qE P (nx P cf).s fn.results.toList).wk (fK κ (yM κ (nx P cf).s (qE P (nx P cf).s fn.results.toList) out ho)) (gK κ (yM κ (nx P cf).s (qE P (nx P cf).s fn.results.toList) out ho) ho) out).nz out:=by exact v0)
  (e:((nx P cf).ended,(dX P (nx P cf).s fn.results.toList).isSome,cU κ (nx P cf).s (yM κ (nx P cf).s (qE P (nx P cf).s fn.results.toList) out ho) [(0,out)] ho A0 64)=(true,true,true):=by kernel_rfl):Wk P X0 w0 (Fin P fn X0 w0 R) cf:=by
 simp only[G6]at e
 obtain⟨e1,e2,e3⟩:=e
 obtain⟨l,hl⟩:=iF.1 e2
 unfold qE at hH hv e3
 rw[hl]at hH hv e3
 exact UI hX _ l out ho A0 (by rw[e1,hl,e3]) hv hH hR
theorem cM(hX:Ok0 X0 κ)(sl hl:ι->List (Nat×V))(I:ι->Prop)(μ:ι->Nat)(lv:List Nat)(c:Nat)(i0:ι)(hI:I i0)
  (h:∀i,I i->∀R:Act->World->Prop,(∀j,I j->μ j<μ i->∀a w,At X0 w0 (St (sl j) (hl j) lv c (nx P cf).a.s.n) c a w->R a w)->Wk P X0 w0 Q ⟨.c (nx P cf).code:: .lp R::(nx P cf).a.k,St (sl i) (hl i) lv c (nx P cf).a.s.n⟩)
  (hS:pW (fK κ (gW κ (nx P cf).a.s (sl i0) (hl i0))) (gK κ (gW κ (nx P cf).a.s (sl i0) (hl i0)) (hl i0)) (nx P cf).a.s.σ (sl i0):=by repeat' first|exact zT|refine⟨v0,?_⟩)(hH:cT (fK κ (gW κ (nx P cf).a.s (sl i0) (hl i0))) (gK κ (gW κ (nx P cf).a.s (sl i0) (hl i0)) (hl i0)) (iK κ (gW κ (nx P cf).a.s (sl i0) (hl i0)) (hl i0)) (nx P cf).a.s.h (hl i0):=by repeat' first|exact zT|refine⟨v0,?_⟩)
  (e:(nx P cf).tag=4:=by kernel_rfl)(hk:cU κ (nx P cf).a.s (gW κ (nx P cf).a.s (sl i0) (hl i0)) (sl i0) (hl i0) lv c=true:=by kernel_rfl):Wk P X0 w0 Q cf:=cL hX sl hl I μ _ lv c i0 hI hS hH h e hk
end
theorem eE{p:Prop}(h:p:=by as_aux_lemma=>kernel_rfl):p:=h
theorem f2{p:Nat->Prop}(h0:p 0)(h1:p 1):∀i,i<2->p i:=fun i hi=>match i,hi with|0,_=>h0|1,_=>h1
theorem al(n:Nat)(h:∀i,i<n->Wk P X0 w0 Q ((nx P cf).alts.getD i ⟨[],pX⟩))(e:((nx P cf).tag,(nx P cf).alts.length)=(5,n):=by as_aux_lemma=>kernel_rfl):Wk P X0 w0 Q cf:=L6 n e h
abbrev By:=List UInt8
structure Obj where
 of:By
 data:By
structure Mani where
 root:By
 time:Int
 label:By
structure Snp where
 number:Int
 mani:Mani
 doom:Int
structure Doo where
 of:By
 doom:Int
structure TenR where
 name:By
 key:By
 quota:Int
 next:Int
 nb:Nat
 gb:Nat->Obj
 ns:Nat
 gs:Nat->Snp
 nd:Nat
 gd:Nat->Doo
structure Ent where
 seq:Int
 tick:Int
 serial:Int
 tenant:By
 «do»:Int
 status:Int
 of:By
structure StaR where
 root:By
 delay:Int
 serial:Int
 nr:Nat
 gr:Nat->Int
 nl:Nat
 gl:Nat->Ent
 head:By
structure OpT where
 «do»:Int
 tenant:By
 of:By
 number:Int
 «until»:Int
 rights:Int
 body:By
 token:By
 now:Int
 draw:By
instance:Inhabited Obj:=⟨⟨[],[]⟩⟩
instance:Inhabited Mani:=⟨⟨[],0,[]⟩⟩
instance:Inhabited Snp:=⟨⟨0,default,0⟩⟩
instance:Inhabited Doo:=⟨⟨[],0⟩⟩
instance:Inhabited Ent:=⟨⟨0,0,0,[],0,0,[]⟩⟩
def C3(b:Obj):V:=A1 [.bs 32 b.of,.bl 0 b.data]
def f8(m:Mani):V:=A1 [.bs 32 m.root,.i .i64 m.time,.s m.label]
def C9(x:Snp):V:=A1 [.i .i64 x.number,f8 x.mani,.i .i64 x.doom]
def E0(b:Doo):V:=A1 [.bs 32 b.of,.i .i64 b.doom]
def B4(t:TenR):V:=A1 [.s t.name,.bs 32 t.key,.i .i64 t.quota,.i .i64 t.next,.sl 0 33 t.nb fun i=>C3 (t.gb i),.sl 0 36 t.ns fun i=>C9 (t.gs i),.sl 0 33 t.nd fun i=>E0 (t.gd i)]
def H8(e:Ent):V:=A1 [.i .i64 e.seq,.i .i64 e.tick,.i .u64 e.serial,.s e.tenant,.i .i64 e.do,.i .i64 e.status,.bs 32 e.of]
def eU(n:Int):V:=.i .u64 n
def eI(n:By):V:=.bs 32 n
def J4(o:OpT):V:=A1 [.i .i64 o.do,.s o.tenant,.bs 32 o.of,.i .i64 o.number,.i .i64 o.until,.i .u8 o.rights,.bl 0 o.body,.bl 0 o.token,.i .i64 o.now,.bs 32 o.draw]
def I9(T:V)(s:StaR):V:=A1 [.bs 32 s.root,.i .i64 s.delay,.i .u64 s.serial,T,.sl 0 1 s.nr fun i=>eU (s.gr i),.sl 0 38 s.nl fun i=>H8 (s.gl i),.bs 32 s.head]
def nA(s:StaR)(o:OpT)(t:TenR)(n:Int):V:=A1 [.pz (I9 (.uk 1) s),J4 o,.pz (B4 t),.i .u64 n]
theorem vW{v:V}{a b:Int}(h: -9223372036854775808<=a/\a<9223372036854775808/\a=b)(e:v=.i .i64 (i64.wrap a):=by kernel_rfl):VEq v (.i .i64 b):=.of_eq (by rw[e,I8 ⟨h.1,h.2.1⟩,h.2.2])
theorem BU(l:By)(hl:l.length<1000000):Sat Tryz.prog 61 [.s l] [] (fun out A0=>A0=[]/\(∃p,out=.b p/\(p=true->l.length<=16))):=by
 refine cF Tryz.func61 fun X0 w0 hX=>?_
 refine cB ((l.length:Int)<1) ?_ ?_<;>intro h1
 ·exact xW hX (.b false) ⟨rfl,rfl,⟨_,rfl,by first|(intro h;cases h;done)|(intro _;omega)⟩⟩
 refine cB (16<(l.length:Int)) ?_ ?_<;>intro h2
 ·exact xW hX (.b false) ⟨rfl,rfl,⟨_,rfl,by first|(intro h;cases h;done)|(intro _;omega)⟩⟩
 refine cC ((0:Int)<=0/\0<(l.length:Int)) ?_
 refine cB (((l.getD 0 0).toNat:Int)<97) ?_ ?_<;>intro h3
 ·exact xW hX (.b false) ⟨rfl,rfl,⟨_,rfl,by first|(intro h;cases h;done)|(intro _;omega)⟩⟩
 refine cC ((0:Int)<=0/\0<(l.length:Int)) ?_
 refine cB (122<((l.getD 0 0).toNat:Int)) ?_ ?_<;>intro h4
 ·exact xW hX (.b false) ⟨rfl,rfl,⟨_,rfl,by first|(intro h;cases h;done)|(intro _;omega)⟩⟩
 refine cM hX (fun(k:Nat)=>[(0,.s l),(24,.i .i64 (l.length:Int)),(25,.i .i64 (k:Int))]) (fun(k:Nat)=>[]) (fun(k:Nat)=>k<=l.length) (fun(k:Nat)=>l.length-k) [] 1424 0 (by simp) ?_
 rintro k hI R hR
 refine cB ((k:Int)<(l.length:Int)) ?_ ?_<;>intro h5
 ·refine cC ((0:Int)<=(k:Int)/\(k:Int)<(l.length:Int)) ?_
  refine cB (97<=((l.getD k 0).toNat:Int)) ?_ ?_<;>intro h6
  ·refine cB (((l.getD k 0).toNat:Int)<=122) ?_ ?_<;>intro h7
   ·refine O1 (((l.getD k 0).toNat:Int)<=122) h7 ?_
    exact cA hX (hR (k+1) zO zO) (hS:=⟨v0,v0,vS,zT⟩)
   refine cB (48<=((l.getD k 0).toNat:Int)) ?_ ?_<;>intro h8
   ·refine cB (((l.getD k 0).toNat:Int)<=57) ?_ ?_<;>intro h9
    ·refine O1 (((l.getD k 0).toNat:Int)<=57) h9 ?_
     exact cA hX (hR (k+1) zO zO) (hS:=⟨v0,v0,vS,zT⟩)
    refine cB (((l.getD k 0).toNat:Int)=45) ?_ ?_<;>intro K0
    ·exact cA hX (hR (k+1) zO zO) (hS:=⟨v0,v0,vS,zT⟩)
    exact xW hX (.b false) ⟨rfl,rfl,⟨_,rfl,by first|(intro h;cases h;done)|(intro _;omega)⟩⟩
   refine cB (((l.getD k 0).toNat:Int)=45) ?_ ?_<;>intro P9
   ·exact cA hX (hR (k+1) zO zO) (hS:=⟨v0,v0,vS,zT⟩)
   exact xW hX (.b false) ⟨rfl,rfl,⟨_,rfl,by first|(intro h;cases h;done)|(intro _;omega)⟩⟩
  refine cB (48<=((l.getD k 0).toNat:Int)) ?_ ?_<;>intro h12
  ·refine cB (((l.getD k 0).toNat:Int)<=57) ?_ ?_<;>intro w6
   ·refine O1 (((l.getD k 0).toNat:Int)<=57) w6 ?_
    exact cA hX (hR (k+1) zO zO) (hS:=⟨v0,v0,vS,zT⟩)
   refine cB (((l.getD k 0).toNat:Int)=45) ?_ ?_<;>intro dM
   ·exact cA hX (hR (k+1) zO zO) (hS:=⟨v0,v0,vS,zT⟩)
   exact xW hX (.b false) ⟨rfl,rfl,⟨_,rfl,by first|(intro h;cases h;done)|(intro _;omega)⟩⟩
  refine cB (((l.getD k 0).toNat:Int)=45) ?_ ?_<;>intro dN
  ·exact cA hX (hR (k+1) zO zO) (hS:=⟨v0,v0,vS,zT⟩)
  exact xW hX (.b false) ⟨rfl,rfl,⟨_,rfl,by first|(intro h;cases h;done)|(intro _;omega)⟩⟩
 exact xW hX (.b true) ⟨rfl,rfl,⟨_,rfl,by first|(intro h;cases h;done)|(intro _;omega)⟩⟩
theorem BV(r:Int):Sat Tryz.prog 60 [.i .u8 r] [] (fun out A0=>A0=[]/\(∃p,out=.b p)):=by
 refine cF Tryz.func60 fun X0 w0 hX=>?_
 exact xW hX (.b (decide ((u8.wrap ((ofInt 8 r &&& ~~~ ofInt 8 15).toNat:Int))=0))) ⟨rfl,rfl,⟨_,rfl⟩⟩
theorem uD(l:By)(n:Int)(hl:l.length<100000000000)(hn:0<=n/\n<100000000000):Sat Tryz.prog 147 [.bl 0 l,.i .i64 n] [] (fun out A0=>out=.bl 2 l/\A0=[2]):=by
 refine cF Tryz.func147 fun X0 w0 hX=>?_
 refine cC ((0:Int)<=(i64.wrap ((l.length:Int)+n))/\(i64.wrap ((l.length:Int)+n))<=1000000000000) ?_ bw;refine cC ((([]:By).length+l.length)*1<=140737488355328) ?_ bd;exact xW hX (.bl 2 ([]++l)) ⟨rfl,rfl,rfl⟩
theorem nB(b:By)(v:Int)(n:Nat)(hb:b.length<1000000)(hn:n<1000):Sat Tryz.prog 98 [.bl 0 b,.i .u64 v,.i .i64 (n:Int)] [] (fun out A0=>∃l e,out=A2 [.bl 2 l,.i .i64 e]/\A0=[2]/\l.length<=b.length+8/\(e=0\/e=1\/e=2)/\(n=8->l.length=b.length+8)):=by
 refine cF Tryz.func98 fun X0 w0 hX=>?_
 refine rS 1 fun hv=>?_
 replace hv:=wU hv
 refine cB ((n:Int)<1) ?_ ?_<;>intro h1
 ·exact xW hX (A2 [.bl 2 [],.i .i64 1]) ⟨rfl,_,_,rfl,rfl,by first|omega|(simp;done)|(simp;omega),⟨by simp,fun hn8=>by first|omega|(exfalso;simp at *;omega)⟩⟩
 refine cB (8<(n:Int)) ?_ ?_<;>intro h2
 ·exact xW hX (A2 [.bl 2 [],.i .i64 1]) ⟨rfl,_,_,rfl,rfl,by first|omega|(simp;done)|(simp;omega),⟨by simp,fun hn8=>by first|omega|(exfalso;simp at *;omega)⟩⟩
 refine cB ((n:Int)<8) ?_ ?_<;>intro h3
 ·refine cC ((0:Int)<=(u64.wrap (8*(u64.wrap (n:Int))))) ?_ (hp:=(P3 _).1)
  refine cB ((v.fdiv (2 ^ (min ((u64.wrap (8*(u64.wrap (n:Int))))).toNat 64)))≠0) ?_ ?_<;>intro h4
  ·exact xW hX (A2 [.bl 2 [],.i .i64 2]) ⟨rfl,_,_,rfl,rfl,by first|omega|(simp;done)|(simp;omega),⟨by simp,fun hn8=>by first|omega|(exfalso;simp at *;omega)⟩⟩
  refine cK [] (uD b (n:Int) zO zO) ?_
  rintro out A0 ⟨rfl,rfl⟩
  refine cM hX (fun(p:By×Nat)=>[(1,.i .u64 v),(8,.bl 2 p.1),(9,.i .i64 ((p.2:Int)-1))]) (fun(p:By×Nat)=>[]) (fun(p:By×Nat)=>p.1.length+p.2=b.length+n/\n<=8) (fun(p:By×Nat)=>p.2) [2] 1744 (b,n) ⟨by simp,zO⟩ ?_ (hS:=⟨v0,v0,(vW (a:=((n:Int)-1)) zO),zT⟩);rintro⟨l,k⟩ hI R hR
  dsimp only at hI
  refine cB (0<=(k:Int)-1) ?_ ?_<;>intro h5
  ·refine cC ((0:Int)<=(u64.wrap (8*(u64.wrap ((k:Int)-1))))) ?_ (hp:=(P3 _).1)
   refine cC ((l.length+[UInt8.ofNat ((u8.wrap (v.fdiv (2 ^ (min ((u64.wrap (8*(u64.wrap ((k:Int)-1))))).toNat 64))))).toNat].length)*1<=140737488355328) ?_ bw;exact cA hX (hR ((l++[UInt8.ofNat ((u8.wrap (v.fdiv (2 ^ (min ((u64.wrap (8*(u64.wrap ((k:Int)-1))))).toNat 64))))).toNat]),k-1) ⟨by simp only[C6,u7];omega,hI.2⟩ (by dsimp only;omega)) (hS:=⟨v0,v0,(vW (a:=((k:Int)-1-1)) zO),zT⟩)
  exact xW hX (A2 [.bl 2 l,.i .i64 0]) ⟨rfl,_,_,rfl,rfl,by first|omega|(simp;done)|(simp;omega),⟨by simp,fun hn8=>by first|omega|(exfalso;simp at *;omega)⟩⟩
 refine cK [] (uD b (n:Int) zO zO) ?_
 rintro out A0 ⟨rfl,rfl⟩
 refine cM hX (fun(p:By×Nat)=>[(1,.i .u64 v),(8,.bl 2 p.1),(9,.i .i64 ((p.2:Int)-1))]) (fun(p:By×Nat)=>[]) (fun(p:By×Nat)=>p.1.length+p.2=b.length+n/\n<=8) (fun(p:By×Nat)=>p.2) [2] 1744 (b,n) ⟨by simp,zO⟩ ?_ (hS:=⟨v0,v0,(vW (a:=((n:Int)-1)) zO),zT⟩);rintro⟨l,k⟩ hI R hR
 dsimp only at hI
 refine cB (0<=(k:Int)-1) ?_ ?_<;>intro h6
 ·refine cC ((0:Int)<=(u64.wrap (8*(u64.wrap ((k:Int)-1))))) ?_ (hp:=(P3 _).1)
  refine cC ((l.length+[UInt8.ofNat ((u8.wrap (v.fdiv (2 ^ (min ((u64.wrap (8*(u64.wrap ((k:Int)-1))))).toNat 64))))).toNat].length)*1<=140737488355328) ?_ bw;exact cA hX (hR ((l++[UInt8.ofNat ((u8.wrap (v.fdiv (2 ^ (min ((u64.wrap (8*(u64.wrap ((k:Int)-1))))).toNat 64))))).toNat]),k-1) ⟨by simp only[C6,u7];omega,hI.2⟩ (by dsimp only;omega)) (hS:=⟨v0,v0,(vW (a:=((k:Int)-1-1)) zO),zT⟩)
 exact xW hX (A2 [.bl 2 l,.i .i64 0]) ⟨rfl,_,_,rfl,rfl,by first|omega|(simp;done)|(simp;omega),⟨by simp,fun hn8=>by first|omega|(exfalso;simp at *;omega)⟩⟩
theorem VT{v:Int}(h:127<v)(hv:v*128 ^ j<18446744073709551616):j<=8/\0<=v / 128/\v / 128*128 ^ (j+1)<18446744073709551616:=by
 have hp:(0:Int)<128 ^ j:=Int.pow_pos zO
 refine⟨?_,zO,?_⟩
 ·by_cases hj:j<=8
  ·exact hj
  exfalso
  have h9:(128:Int) ^ 9<=128 ^ j:=by
   have:=Nat.pow_le_pow_right (n:=128) zO (show 9<=j by omega)
   exact_mod_cast this
  have h1:128*(128:Int) ^ j<=v*128 ^ j:=Int.mul_le_mul_of_nonneg_right zO zO
  have:(128:Int) ^ 9=9223372036854775808:=by decide
  omega
 have h1:v / 128*128<=v:=by omega
 have h2:v / 128*128*128 ^ j<=v*128 ^ j:=Int.mul_le_mul_of_nonneg_right h1 zO
 rw[Int.pow_succ]
 have:v / 128*(128 ^ j*128)=v / 128*128*128 ^ j:=by rw[Int.mul_comm (128 ^ j) 128,Int.mul_assoc]
 omega
theorem Qd{v:Int}(h:0<=v):v.fdiv (2 ^ (min (7:Int).toNat 64))=v / 128:=by
 rw[show(2:Int) ^ (min (7:Int).toNat 64)=128 by decide,JA _ zO]
theorem Qe{x:V}{v b:Int}(h:0<=v)(hb:b=v / 128)(e:x=.i .u64 (v.fdiv (2 ^ (min (7:Int).toNat 64))):=by kernel_rfl):VEq x (.i .u64 b):=.of_eq (by rw[e,Qd h,hb])
theorem VU(b:By)(v:Int)(hb:b.length<10000000000):Sat Tryz.prog 126 [.bl 0 b,.i .u64 v] [] (fun out A0=>∃l,out=.bl 2 l/\A0=[2]/\l.length<=b.length+11/\(v<=127->l.length=b.length+1)):=by
 refine cF Tryz.func126 fun X0 w0 hX=>?_
 refine rS 1 fun hv=>?_
 replace hv:=wU hv
 refine cK [] (uD b 10 zO zO) ?_;rintro out A0 ⟨rfl,rfl⟩
 refine cM hX (fun(p:By×Int×Nat)=>[(1,.i .u64 p.2.1),(5,.bl 2 p.1)]) (fun(p:By×Int×Nat)=>[]) (fun(p:By×Int×Nat)=>p.1.length<=b.length+p.2.2/\0<=p.2.1/\p.2.1*128 ^ p.2.2<18446744073709551616/\p.2.2<=9/\p.2.1<=v/\(v<=127->p.1.length=b.length)) (fun(p:By×Int×Nat)=>p.2.1.toNat) [2] 272 (b,v,0) ⟨by simp,hv.1,by simpa using hv.2,by simp,by simp,fun _=>rfl⟩ ?_;rintro⟨l,v,j⟩ hI R hR
 dsimp only at hI
 refine cB (127<v) ?_ ?_<;>intro h1
 ·have hc:=VT h1 hI.2.2.1
  have hj:=hc.1
  refine cC ((l.length+[UInt8.ofNat ((u8.wrap ((ofInt 8 (u8.wrap v)|||ofInt 8 128).toNat:Int))).toNat].length)*1<=140737488355328) ?_ bw;exact cA hX (hR ((l++[UInt8.ofNat ((u8.wrap ((ofInt 8 (u8.wrap v)|||ofInt 8 128).toNat:Int))).toNat]),v / 128,j+1) ⟨by simp only[C6,u7];omega,hc.2.1,hc.2.2,by dsimp only;omega,by have:=hI.2.2.2.2.1;dsimp only;omega,fun h=>absurd hI.2.2.2.2.1 zO⟩ (by dsimp only;omega)) (hS:=⟨(Qe (v:=v) zO rfl),v0,zT⟩)
 refine cC ((l.length+[UInt8.ofNat ((u8.wrap v)).toNat].length)*1<=140737488355328) ?_ bw
 exact xW hX (.bl 2 (l++[UInt8.ofNat ((u8.wrap v)).toNat])) ⟨rfl,_,rfl,rfl,by simp only[C6,u7];omega,fun h=>by simp only[C6,u7,hI.2.2.2.2.2 h]⟩
theorem VV(b:By)(a n:Int)(hb:b.length<1000000)(ha:0<=a/\a<1000000)(hn:0<=n/\n<1000):Sat Tryz.prog 150 [.bl 0 b,.i .i64 a,.i .i64 n] [] (fun out A0=>A0=[]/\(∃x e,out=A2 [.i .u64 x,.i .i64 e]/\0<=x/\x<18446744073709551616/\(e=0\/e=1\/e=3)/\(e=0->a+n<=(b.length:Int)))):=by
 refine cF Tryz.func150 fun X0 w0 hX=>?_
 refine cB (n<1) ?_ ?_<;>intro h1
 ·exact xW hX (A2 [.i .u64 0,.i .i64 1]) ⟨rfl,rfl,⟨_,_,rfl,zO,zO,by simp,fun he=>by first|(exact absurd he (by decide))|(simp[IntKind.wrap,IntKind.bits,IntKind.signed]at *;omega)|omega⟩⟩
 refine cB (8<n) ?_ ?_<;>intro h2
 ·exact xW hX (A2 [.i .u64 0,.i .i64 1]) ⟨rfl,rfl,⟨_,_,rfl,zO,zO,by simp,fun he=>by first|(exact absurd he (by decide))|(simp[IntKind.wrap,IntKind.bits,IntKind.signed]at *;omega)|omega⟩⟩
 refine cB (a<0) ?_ ?_<;>intro h3
 ·exact xW hX (A2 [.i .u64 0,.i .i64 1]) ⟨rfl,rfl,⟨_,_,rfl,zO,zO,by simp,fun he=>by first|(exact absurd he (by decide))|(simp[IntKind.wrap,IntKind.bits,IntKind.signed]at *;omega)|omega⟩⟩
 refine cB ((i64.wrap ((b.length:Int)-n))<a) ?_ ?_<;>intro h4
 ·exact xW hX (A2 [.i .u64 0,.i .i64 3]) ⟨rfl,rfl,⟨_,_,rfl,zO,zO,by simp,fun he=>by first|(exact absurd he (by decide))|(simp[IntKind.wrap,IntKind.bits,IntKind.signed]at *;omega)|omega⟩⟩
 refine cC ((0:Int)<=a/\a<=(i64.wrap (a+n))/\(i64.wrap (a+n))<=(b.length:Int)) ?_ bw
 refine cM hX (fun(p:Nat×Int)=>[(8,.i .u64 p.2),(34,.bl 0 ((b.drop ((a).toNat)).take (((i64.wrap (a+n))).toNat-(a).toNat))),(35,.i .i64 (((b.drop ((a).toNat)).take (((i64.wrap (a+n))).toNat-(a).toNat)).length:Int)),(36,.i .i64 (p.1:Int))]) (fun(p:Nat×Int)=>[]) (fun(p:Nat×Int)=>p.1<=((b.drop ((a).toNat)).take (((i64.wrap (a+n))).toNat-(a).toNat)).length/\0<=p.2/\p.2<18446744073709551616) (fun(p:Nat×Int)=>((b.drop ((a).toNat)).take (((i64.wrap (a+n))).toNat-(a).toNat)).length-p.1) [] 1872 (0,0) ⟨by simp,by simp,by simp⟩ ?_;rintro⟨k,x⟩ hI R hR
 dsimp only at hI
 refine cB ((k:Int)<(((b.drop ((a).toNat)).take (((i64.wrap (a+n))).toNat-(a).toNat)).length:Int)) ?_ ?_<;>intro h5
 ·refine cC ((0:Int)<=(k:Int)/\(k:Int)<(((b.drop ((a).toNat)).take (((i64.wrap (a+n))).toNat-(a).toNat)).length:Int)) ?_ bw
  exact cA hX (hR (k+1,(u64.wrap ((ofInt 64 (u64.wrap (x*2 ^ (min (8:Int).toNat 64)))|||ofInt 64 (u64.wrap ((((b.drop ((a).toNat)).take (((i64.wrap (a+n))).toNat-(a).toNat)).getD k 0).toNat:Int))).toNat:Int))) ⟨by dsimp only;omega,P3 _⟩ (by dsimp only;omega)) (hS:=⟨v0,v0,v0,(vS (by simp only[F7,K4]at hI;omega)),zT⟩)
 exact xW hX (A2 [.i .u64 x,.i .i64 0]) ⟨rfl,rfl,⟨_,_,rfl,zO,zO,by simp,fun he=>by first|(exact absurd he (by decide))|(simp[IntKind.wrap,IntKind.bits,IntKind.signed]at *;omega)|omega⟩⟩
theorem uE(b s:By)(hb:b.length<9000000000)(hs:s.length<2000000):Sat Tryz.prog 100 [.bl 0 b,.bl 0 s] [] (fun out A0=>∃l e,out=A2 [.bl 2 l,.i .i64 e]/\A0=[2]/\l.length<=b.length+s.length+11/\(e=0\/e=2)/\(s.length<=127->l.length=b.length+1+s.length)):=by
 refine cF Tryz.func100 fun X0 w0 hX=>?_
 refine cB (65536<(s.length:Int)) ?_ ?_<;>intro h1
 ·exact xW hX (A2 [.bl 2 [],.i .i64 2]) ⟨rfl,_,_,rfl,rfl,by first|omega|(simp;done)|(simp;omega),⟨by simp,fun hs7=>by first|omega|(simp only[C6];have:=w5.2 (by rw[gT ⟨zO,zO⟩];omega);omega)⟩⟩
 refine cK [] (VU b (u64.wrap (s.length:Int)) bd) ?_
 rintro out A0 ⟨l0,rfl,rfl,w5⟩
 refine cC ((l0.length+s.length)*1<=140737488355328) ?_;exact xW hX (A2 [.bl 2 (l0++s),.i .i64 0]) ⟨rfl,_,_,rfl,rfl,by first|omega|(simp;done)|(simp;omega),⟨by simp,fun hs7=>by first|omega|(simp only[C6];have:=w5.2 (by rw[gT ⟨zO,zO⟩];omega);omega)⟩⟩
theorem qF{x:Int}{c:UInt8}(hk9:k<=9)(h0:¬ (c.toNat:Int)=0\/¬ 0<k)(h1:(c.toNat:Int)<128)(h9:k=9->(c.toNat:Int)<=1)(hv:u64.wrap ((ofInt 64 x|||ofInt 64 (u64.wrap ((u64.wrap (u8.wrap ((ofInt 8 (c.toNat:Int)&&&ofInt 8 127).toNat:Int)))*2 ^ (min ((u64.wrap (7*(u64.wrap (k:Int))))).toNat 64)))).toNat:Int)<128):i64.wrap ((k:Int)+1)=1:=by
 rcases Nat.eq_zero_or_pos k with rfl|hk
 ·rfl
 exfalso
 have oB:0<c.toNat:=by omega
 have e1:u64.wrap (7*(u64.wrap (k:Int)))=((7*k:Nat):Int):=by rw[gT (a:=(k:Int)) ⟨zO,zO⟩,gT ⟨zO,zO⟩];omega
 have e2:(ofInt 8 (c.toNat:Int)&&&ofInt 8 127).toNat=c.toNat:=by
  rw[BitVec.toNat_and]
  have a1:(ofInt 8 (c.toNat:Int)).toNat=c.toNat:=by rw[IZ];omega
  have a2:(ofInt 8 127).toNat=2 ^ 7-1:=by decide
  rw[a1,a2,Nat.and_two_pow_sub_one_eq_mod]
  omega
 have hp:(2:Nat) ^ 7<=2 ^ (7*k):=Nat.pow_le_pow_right zO zO
 have hm:c.toNat*2 ^ (7*k)<=2 ^ 63:=by
  by_cases h:k=9
  ·have:=h9 h
   subst h
   have:c.toNat=1:=by omega
   rw[this];decide
  have q:(2:Nat) ^ (7*k)<=2 ^ 56:=Nat.pow_le_pow_right zO zO
  exact J2 (Nat.mul_le_mul (show c.toNat<=2 ^ 7 by omega) q) (by decide)
 have hq:128<=c.toNat*2 ^ (7*k):=J2 hp (Nat.le_mul_of_pos_left _ oB)
 rw[e1,e2,Oa ⟨zO,zO⟩,gT (a:=(c.toNat:Int)) ⟨zO,zO⟩,show min ((7*k:Nat):Int).toNat 64=7*k by omega]at hv
 have e3:(c.toNat:Int)*2 ^ (7*k)=((c.toNat*2 ^ (7*k):Nat):Int):=by push_cast;rfl
 rw[e3,gT (a:=((c.toNat*2 ^ (7*k):Nat):Int)) ⟨zO,zO⟩,BitVec.toNat_or]at hv
 have e4:(ofInt 64 ((c.toNat*2 ^ (7*k):Nat):Int)).toNat=c.toNat*2 ^ (7*k):=by rw[IZ];omega
 rw[e4]at hv
 have hl:=Nat.right_le_or (n:=(ofInt 64 x).toNat) (m:=c.toNat*2 ^ (7*k))
 have hu:(ofInt 64 x).toNat|||c.toNat*2 ^ (7*k)<2 ^ 64:=Nat.or_lt_two_pow (BitVec.isLt _) zO
 rw[gT ⟨zO,zO⟩]at hv
 omega
theorem MZ(b:By)(hb:b.length<1000000):Sat Tryz.prog 181 [.bl 0 b] [] (fun out A0=>A0=[]/\(∃v a e,out=A2 [.i .u64 v,.i .i64 a,.i .i64 e]/\(0<=v/\v<18446744073709551616)/\(0<=a/\a<=b.length)/\(e=0\/e=3\/e=4)/\(e=0->v<128->a=1))):=by
 refine cF Tryz.func181 fun X0 w0 hX=>?_
 refine cM hX (fun(p:Nat×Int)=>[(5,.i .u64 p.2),(8,.bl 0 b),(9,.i .i64 (b.length:Int)),(10,.i .i64 (p.1:Int))]) (fun(p:Nat×Int)=>[]) (fun(p:Nat×Int)=>p.1<=b.length/\0<=p.2/\p.2<18446744073709551616/\p.1<=9) (fun(p:Nat×Int)=>b.length-p.1) [] 464 (0,0) ⟨by simp,by simp,by simp,by simp⟩ ?_;rintro⟨k,x⟩ hI R hR
 dsimp only at hI
 refine cB ((k:Int)<(b.length:Int)) ?_ ?_<;>intro h1
 ·refine cC ((0:Int)<=(k:Int)/\(k:Int)<(b.length:Int)) ?_
  refine cB ((k:Int)=9) ?_ ?_<;>intro h2
  ·refine cB (1<((b.getD k 0).toNat:Int)) ?_ ?_<;>intro h3
   ·refine O1 (1<((b.getD k 0).toNat:Int)) h3 ?_
    exact xW hX (A2 [.i .u64 0,.i .i64 0,.i .i64 4]) ⟨rfl,rfl,⟨_,_,_,rfl,bw,bw,by simp,by first|exact fun h=>absurd h (by decide)|exact fun _ hv=>qF zO zO zO zO hv⟩⟩
   refine cB (((b.getD k 0).toNat:Int)=0) ?_ ?_<;>intro h4
   ·refine cB (0<(k:Int)) ?_ ?_<;>intro h5
    ·exact xW hX (A2 [.i .u64 0,.i .i64 0,.i .i64 4]) ⟨rfl,rfl,⟨_,_,_,rfl,bw,bw,by simp,by first|exact fun h=>absurd h (by decide)|exact fun _ hv=>qF zO zO zO zO hv⟩⟩
    refine cC ((0:Int)<=(u64.wrap (7*(u64.wrap (k:Int))))) ?_ (hp:=(P3 _).1)
    refine cB (((b.getD k 0).toNat:Int)<128) ?_ ?_<;>intro h6
    ·exact xW hX (A2 [.i .u64 (u64.wrap ((ofInt 64 x|||ofInt 64 (u64.wrap ((u64.wrap (u8.wrap ((ofInt 8 ((b.getD k 0).toNat:Int)&&&ofInt 8 127).toNat:Int)))*2 ^ (min ((u64.wrap (7*(u64.wrap (k:Int))))).toNat 64)))).toNat:Int)),.i .i64 (i64.wrap ((k:Int)+1)),.i .i64 0]) ⟨rfl,rfl,⟨_,_,_,rfl,bw,bw,by simp,by first|exact fun h=>absurd h (by decide)|exact fun _ hv=>qF zO zO zO zO hv⟩⟩
    exact cA hX (hR (k+1,(u64.wrap ((ofInt 64 x|||ofInt 64 (u64.wrap ((u64.wrap (u8.wrap ((ofInt 8 ((b.getD k 0).toNat:Int)&&&ofInt 8 127).toNat:Int)))*2 ^ (min ((u64.wrap (7*(u64.wrap (k:Int))))).toNat 64)))).toNat:Int))) ⟨by dsimp only;omega,(P3 _).1,(P3 _).2,by dsimp only;omega⟩ (by dsimp only;omega)) (hS:=⟨v0,v0,v0,(vS zO),zT⟩)
   refine cC ((0:Int)<=(u64.wrap (7*(u64.wrap (k:Int))))) ?_ (hp:=(P3 _).1)
   refine cB (((b.getD k 0).toNat:Int)<128) ?_ ?_<;>intro h7
   ·exact xW hX (A2 [.i .u64 (u64.wrap ((ofInt 64 x|||ofInt 64 (u64.wrap ((u64.wrap (u8.wrap ((ofInt 8 ((b.getD k 0).toNat:Int)&&&ofInt 8 127).toNat:Int)))*2 ^ (min ((u64.wrap (7*(u64.wrap (k:Int))))).toNat 64)))).toNat:Int)),.i .i64 (i64.wrap ((k:Int)+1)),.i .i64 0]) ⟨rfl,rfl,⟨_,_,_,rfl,bw,bw,by simp,by first|exact fun h=>absurd h (by decide)|exact fun _ hv=>qF zO zO zO zO hv⟩⟩
   exact cA hX (hR (k+1,(u64.wrap ((ofInt 64 x|||ofInt 64 (u64.wrap ((u64.wrap (u8.wrap ((ofInt 8 ((b.getD k 0).toNat:Int)&&&ofInt 8 127).toNat:Int)))*2 ^ (min ((u64.wrap (7*(u64.wrap (k:Int))))).toNat 64)))).toNat:Int))) ⟨by dsimp only;omega,(P3 _).1,(P3 _).2,by dsimp only;omega⟩ (by dsimp only;omega)) (hS:=⟨v0,v0,v0,(vS zO),zT⟩)
  refine cB (((b.getD k 0).toNat:Int)=0) ?_ ?_<;>intro h8
  ·refine cB (0<(k:Int)) ?_ ?_<;>intro h9
   ·exact xW hX (A2 [.i .u64 0,.i .i64 0,.i .i64 4]) ⟨rfl,rfl,⟨_,_,_,rfl,bw,bw,by simp,by first|exact fun h=>absurd h (by decide)|exact fun _ hv=>qF zO zO zO zO hv⟩⟩
   refine cC ((0:Int)<=(u64.wrap (7*(u64.wrap (k:Int))))) ?_ (hp:=(P3 _).1)
   refine cB (((b.getD k 0).toNat:Int)<128) ?_ ?_<;>intro K0
   ·exact xW hX (A2 [.i .u64 (u64.wrap ((ofInt 64 x|||ofInt 64 (u64.wrap ((u64.wrap (u8.wrap ((ofInt 8 ((b.getD k 0).toNat:Int)&&&ofInt 8 127).toNat:Int)))*2 ^ (min ((u64.wrap (7*(u64.wrap (k:Int))))).toNat 64)))).toNat:Int)),.i .i64 (i64.wrap ((k:Int)+1)),.i .i64 0]) ⟨rfl,rfl,⟨_,_,_,rfl,bw,bw,by simp,by first|exact fun h=>absurd h (by decide)|exact fun _ hv=>qF zO zO zO zO hv⟩⟩
   exact cA hX (hR (k+1,(u64.wrap ((ofInt 64 x|||ofInt 64 (u64.wrap ((u64.wrap (u8.wrap ((ofInt 8 ((b.getD k 0).toNat:Int)&&&ofInt 8 127).toNat:Int)))*2 ^ (min ((u64.wrap (7*(u64.wrap (k:Int))))).toNat 64)))).toNat:Int))) ⟨by dsimp only;omega,(P3 _).1,(P3 _).2,by dsimp only;omega⟩ (by dsimp only;omega)) (hS:=⟨v0,v0,v0,(vS zO),zT⟩)
  refine cC ((0:Int)<=(u64.wrap (7*(u64.wrap (k:Int))))) ?_ (hp:=(P3 _).1)
  refine cB (((b.getD k 0).toNat:Int)<128) ?_ ?_<;>intro P9
  ·exact xW hX (A2 [.i .u64 (u64.wrap ((ofInt 64 x|||ofInt 64 (u64.wrap ((u64.wrap (u8.wrap ((ofInt 8 ((b.getD k 0).toNat:Int)&&&ofInt 8 127).toNat:Int)))*2 ^ (min ((u64.wrap (7*(u64.wrap (k:Int))))).toNat 64)))).toNat:Int)),.i .i64 (i64.wrap ((k:Int)+1)),.i .i64 0]) ⟨rfl,rfl,⟨_,_,_,rfl,bw,bw,by simp,by first|exact fun h=>absurd h (by decide)|exact fun _ hv=>qF zO zO zO zO hv⟩⟩
  exact cA hX (hR (k+1,(u64.wrap ((ofInt 64 x|||ofInt 64 (u64.wrap ((u64.wrap (u8.wrap ((ofInt 8 ((b.getD k 0).toNat:Int)&&&ofInt 8 127).toNat:Int)))*2 ^ (min ((u64.wrap (7*(u64.wrap (k:Int))))).toNat 64)))).toNat:Int))) ⟨by dsimp only;omega,(P3 _).1,(P3 _).2,by dsimp only;omega⟩ (by dsimp only;omega)) (hS:=⟨v0,v0,v0,(vS zO),zT⟩)
 exact xW hX (A2 [.i .u64 0,.i .i64 0,.i .i64 3]) ⟨rfl,rfl,⟨_,_,_,rfl,bw,bw,by simp,by first|exact fun h=>absurd h (by decide)|exact fun _ hv=>qF zO zO zO zO hv⟩⟩
theorem GY{b:By}{tv ta te:Int}(h1:0<=tv/\tv<18446744073709551616)(h2:0<=ta/\ta<=b.length)(hb:b.length<1000000)(he:te=0)(h:te=0->tv<128->ta=1)(h3:¬ u64.wrap (i64.wrap ((b.length:Int)-ta))<tv):(0:Int)=0->((b.drop ta.toNat).take ((i64.wrap (ta+(i64.wrap tv))).toNat-ta.toNat)).length<128->i64.wrap (ta+(i64.wrap tv))=1+(((b.drop ta.toNat).take ((i64.wrap (ta+(i64.wrap tv))).toNat-ta.toNat)).length:Int):=fun _ hl=>by
 rw[I8 (a:=(b.length:Int)-ta) ⟨zO,zO⟩,gT ⟨zO,zO⟩]at h3
 rw[I8 (a:=tv) ⟨zO,zO⟩,I8 (a:=ta+tv) ⟨zO,zO⟩]at hl ⊢
 have e:((b.drop ta.toNat).take ((ta+tv).toNat-ta.toNat)).length=tv.toNat:=by rw[F7,K4];omega
 rw[e]at hl ⊢
 have:=h he zO
 omega
theorem NA(b:By)(hb:b.length<1000000):Sat Tryz.prog 151 [.bl 0 b] [] (fun out A0=>∃l a e,out=A2 [.bl 2 l,.i .i64 a,.i .i64 e]/\A0=[2]/\(0<=a/\a<=b.length)/\l.length<=b.length/\(e=0->l.length<128->a=1+(l.length:Int))):=by
 refine cF Tryz.func151 fun X0 w0 hX=>?_
 refine cK [] (MZ b bd) ?_;rintro out A0 ⟨rfl,⟨l9,Q8,bZ,rfl,n9⟩⟩
 refine cB (bZ≠0) ?_ ?_<;>intro h1
 ·exact xW hX (A2 [.bl 2 [],.i .i64 0,.i .i64 bZ]) ⟨rfl,_,_,_,rfl,rfl,bw,by first|(simp;done)|(simp only[F7,K4];omega),by first|exact fun h=>absurd h (by decide)|exact fun h=>absurd h h1|exact GY n9.1 n9.2.1 hb (i7.1 h1) n9.2.2.2 h3⟩
 refine cB (65536<l9) ?_ ?_<;>intro h2
 ·exact xW hX (A2 [.bl 2 [],.i .i64 0,.i .i64 2]) ⟨rfl,_,_,_,rfl,rfl,bw,by first|(simp;done)|(simp only[F7,K4];omega),by first|exact fun h=>absurd h (by decide)|exact fun h=>absurd h h1|exact GY n9.1 n9.2.1 hb (i7.1 h1) n9.2.2.2 h3⟩
 refine cB ((u64.wrap (i64.wrap ((b.length:Int)-Q8)))<l9) ?_ ?_<;>intro h3
 ·exact xW hX (A2 [.bl 2 [],.i .i64 0,.i .i64 3]) ⟨rfl,_,_,_,rfl,rfl,bw,by first|(simp;done)|(simp only[F7,K4];omega),by first|exact fun h=>absurd h (by decide)|exact fun h=>absurd h h1|exact GY n9.1 n9.2.1 hb (i7.1 h1) n9.2.2.2 h3⟩
 refine cC ((0:Int)<=Q8/\Q8<=(i64.wrap (Q8+(i64.wrap l9)))/\(i64.wrap (Q8+(i64.wrap l9)))<=(b.length:Int)) ?_ bw
 refine cK [] (uD ((b.drop ((Q8).toNat)).take (((i64.wrap (Q8+(i64.wrap l9)))).toNat-(Q8).toNat)) 0 bd zO) ?_;rintro out A0 ⟨rfl,rfl⟩
 exact xW hX (A2 [.bl 2 ((b.drop ((Q8).toNat)).take (((i64.wrap (Q8+(i64.wrap l9)))).toNat-(Q8).toNat)),.i .i64 (i64.wrap (Q8+(i64.wrap l9))),.i .i64 0]) ⟨rfl,_,_,_,rfl,rfl,bw,by first|(simp;done)|(simp only[F7,K4];omega),by first|exact fun h=>absurd h (by decide)|exact fun h=>absurd h h1|exact GY n9.1 n9.2.1 hb (i7.1 h1) n9.2.2.2 h3⟩
section
theorem VX(z:Value)(vs:List Value)(len:Nat)(h1:∀v∈vs,v.oneCell'=true)(hl:vs.length=len):Instr.fill (fun i=>some (i*1,1)) ((Array.range (len*1)).map (([z].toArray)[· % ([z].toArray).size]!)) (en 0 vs)=some vs.toArray:=by
 have:=QA (zs:=((Array.range (len*1)).map (([z].toArray)[· % ([z].toArray).size]!)).toList) vs (by rw[nL,P5];exact h1) (by simp[hl])
 rwa [Array.toArray_toList]at this
def VY:HS:=I3 HS.init [97,98,99]
def Qf:List UInt8:=sY VY
attribute [local irreducible] VY Qf sY I3
end
section
variable {n:Nat} {σ:Nat->Value} {K:Act->World->Prop}
 {ty:TypeId} {pos:String} {aft:Array Edge} {g:Option (Nat×Bool)} {d:Nat} {t yt:TypeId} {x y:Operand}
theorem Qg{k:IntKind}{a b:Int}(v:Bool)(h:decide (a<b)=v):(binOp .lss t (.int k a) (.int k b)).run P w=.ok (.bool v) w:=by rw[<-h];exact aB
theorem Qh{k:IntKind}{a b:Int}(v:Bool)(h:decide (b<a)=v):(binOp .gtr t (.int k a) (.int k b)).run P w=.ok (.bool v) w:=by rw[<-h];exact zY
theorem Qi{k:IntKind}{a b:Int}(v:Bool)(h:decide (a≠b)=v):(binOp .neq t (.int k a) (.int k b)).run P w=.ok (.bool v) w:=by rw[<-h];exact DQ
end
theorem Qj{p:α->Prop}{a:α}(ha:p a):∀x∈[a],p x:=by
 intro x hx
 rw[O8]at hx
 rw[hx];exact ha
theorem Qk{p:α->Prop}{a b:α}(ha:p a)(hb:p b):∀x∈[a,b],p x:=by
 intro x hx
 simp only[K8,List.not_mem_nil,or_false]at hx
 rcases hx with h|h<;>rw[h]<;>assumption
theorem Hp.nilOwn(H:Hp w0 w S L)(T:TypeId)(sz:Nat):Hp w0 w S (.own none 0 0 [] T sz::L):=
 ⟨H.os,H.tape,H.output,H.size,H.frame,fun c hc=>by
  rcases K8.1 hc with rfl|h
  ·exact⟨rfl,rfl,rfl⟩
  ·exact H.has c h,fun c hc b hk=>by
  rcases K8.1 hc with rfl|h
  ·cases hk
  exact H.fresh c h b hk,List.pairwise_cons.2 ⟨fun _ _ _ h=>(by cases h),H.nd⟩⟩
section
variable {n:Nat} {σ:Nat->Value} {K:Act->World->Prop}
 {ty:TypeId} {pos:String} {aft:Array Edge} {g:Option (Nat×Bool)} {d:Nat} {t yt:TypeId} {x y z:Operand} {S:List Nat} {L:List Ch}
theorem Sl.ok.addr{s:Sl}(h:s.ok w)(hp:0<s.len):∃b o,s.a=some ⟨b,o,none⟩:=by
 rcases h.rd with h'|⟨b,o,C,T,fr,ha,hb,hc⟩
 ·have:=h.ln
  rw[List.map_eq_nil_iff.1 h']at this
  simp at this;omega
 exact⟨b,o,ha⟩
theorem Sl.get(s:List UInt8)(k:Nat)(h:k<s.length):(s.map V8)[k]? =some (V8 (s.getD k 0)):=by
 simp[l6,h]
theorem RdS.addr{a:Option Addr}(h:RdS w a vs)(hp:0<vs.length):∃b o,a=some ⟨b,o,none⟩:=by
 rcases h with rfl|⟨b,o,C,T,fr,ha,hb,hc⟩
 ·simp at hp
 exact⟨b,o,ha⟩
theorem Ql{a:Option Addr}{b:Nat}{ps:List Sl}{p:Sl}(hr:RdS w a (ps.map Sl.v))(ha:a=some ⟨b,o,none⟩)(hx:ev n σ x=.pointer (some ⟨b,o+k*1,none⟩))(ht:O5 P t=true)(hk:ps[k]? =some p):
  (execOp (ev n σ) ⟨some d,.load t x,ty,pos,aft,g⟩).run P w=.ok (.value p.v) w:=
 wZ (i:=k*1) hr ha hx ht (by simp[hk])
theorem kY{a:Option Addr}{b sz:Nat}{kk:IntKind}{i:Int}(k:Nat)(hx:ev n σ x=.slice a len cap)(hy:ev n σ y=.int kk i)(ha:a7 P t=some sz)(hb:a=some ⟨b,o,none⟩)(hi:i=(k:Int))(h1:k<len):
  (execOp (ev n σ) ⟨some d,.indexAddr t x y,ty,pos,aft,g⟩).run P w=.ok (.value (.pointer (some ⟨b,o+k*sz,none⟩))) w:=by
 subst hi
 exact EF hx hy ha hb zO zO
theorem GZ{s:Sl}{b:Nat}(hs:s.ok w)(ha:s.a=some ⟨b,o,none⟩)(hx:ev n σ x=.pointer (some ⟨b,o+k*1,none⟩))(ht:O5 P t=true)(hk:k<s.len):
  (execOp (ev n σ) ⟨some d,.load t x,ty,pos,aft,g⟩).run P w=.ok (.value (V8 (s.l.getD k 0))) w:=
 wZ (i:=k*1) hs.rd ha hx ht (by rw[l5];exact Sl.get _ _ (by rw[hs.ln];exact hk))
theorem VZ{b:Nat}{T:TypeId}(H:Hp w0 w S L)(hi:L[i]? =some (.blk b C T))(hx:ev n σ x=.pointer (some ⟨b,0,none⟩))(ht:T5 P t=some k)(hk:C.length=k):
  (execOp (ev n σ) ⟨some d,.load t x,ty,pos,aft,g⟩).run P w=.ok (.value (.agg C.toArray)) w:=by
 have h:=KG (P:=P) (t:=t) (d:=d) (ty:=ty) (pos:=pos) (aft:=aft) (g:=g) H hi hx ht zO
 rw[h,qM,V9 (Nat.le_of_eq hk)]
theorem uF{b:Nat}{l:List UInt8}{T:TypeId}(H:Hp w0 w S L)(hi:L[i]? =some (.blk b (l.map V8) T))(hx:ev n σ x=.pointer (some ⟨b,0,none⟩))(ht:T5 P t=some k)(hk:l.length=k):
  (execOp (ev n σ) ⟨some d,.load t x,ty,pos,aft,g⟩).run P w=.ok (.value (.agg (l.map V8).toArray)) w:=
 VZ H hi hx ht (by rw[J7,hk])
theorem nC{b:Nat}{l l':List UInt8}{T:TypeId}(H:Hp w0 w S L)(hi:L[i]? =some (.blk b (l.map V8) T))(hx:ev n σ x=.pointer (some ⟨b,0,none⟩))(hy:ev n σ y=.agg (l'.map V8).toArray)
  (hs:K2 P t=some k)(h1:l.length=k)(h2:l'.length=k)
  (h:∀w',Hp w0 w' S (L.set i (.blk b (l'.map V8) T))->K (mk n σ) w'):Oper.wp P ⟨none,.store t x y,ty,pos,aft,g⟩ (mk n σ) w K Q:=
 iY H hi hx hy (by rw[hs,bO,J7,h2]) (by rw[nL];simp[Value.oneCell']) (by rw[bO,J7,h2,J7,h1]) fun w' H'=>h w' H'
theorem WA{R:Ending->World->Prop}{tt:Tmp}{rt:TypeId}{b:Nat}{l:List UInt8}{T:TypeId}(hres:fn.results= #[.cell tt rt])(H:Hp w0 w S L)(hi:L[i]? =some (.blk b (l.map V8) T))(hv:ev n σ (.tmp tt)=.pointer (some ⟨b,0,none⟩))(hr:T5 P rt=some k)(hk:l.length=k)
  (hR:R (.returned (.agg (l.map V8).toArray)) w):bodyPost P fn R .ret (mk n σ) w:=
 AE hres H hi hv hr (by rw[J7,hk]) hR
theorem Qm{v:Value}(hx:ev n σ x=v):(execOp (ev n σ) ⟨some d,.assign x,ty,pos,aft,g⟩).run P w=.ok (.value v) w:=by rw[<-hx];exact eT
theorem Qn{F3:Array (Nat×Operand)}{zs:Array Value}{places:Nat->Option (Nat×Nat)}{cells:Array Value}(hB:Bld P t zs places)
  (dF:W6 n σ F3.toList=pv)(hf:Instr.fill places zs pv=some cells):
  (execOp (ev n σ) ⟨some d,.build t F3,ty,pos,aft,g⟩).run P w=.ok (.value (.agg cells)) w:=by
 have hp:(F3.map fun(i,x)=>(i,ev n σ x)).toList=pv:=by rw[<-dF,sJ,zJ]
 have:=run_build (P:=P) w t (F3.map fun(i,x)=>(i,ev n σ x)) cells (by rw[hp,hB.eq];exact hf)
 simp only[execOp,D0,this]
 simp
theorem yN{lo:Option Operand}{b sz h:Nat}{lv mv:Option Value}(hx:ev n σ x=.pointer (some ⟨b,0,none⟩))(ht:V0 P t=some (len,sz))
  (hl:lo.map (ev n σ)=lv)(hh:hi.map (ev n σ)=hv)(hm:mx.map (ev n σ)=mv)(hb:∀w,(Instr.sliceBounds false len len lv hv mv).run P w=.ok (0,h,m) w):
  (execOp (ev n σ) ⟨some d,.slice t x lo hi mx,ty,pos,aft,g⟩).run P w=.ok (.value (.slice (some ⟨b,0,none⟩) h m)) w:=by
 have:=EE (P:=P) (w:=w) (d:=d) (ty:=ty) (pos:=pos) (aft:=aft) (g:=g) hx ht hl hh hm hb
 rwa [PU,qT,qT]at this
theorem Qo{lo:Option Operand}{a:Option Addr}{sz h:Nat}{lv mv:Option Value}(hx:ev n σ x=.slice a len cap)(ht:a7 P t=some sz)
  (hl:lo.map (ev n σ)=lv)(hh:hi.map (ev n σ)=hv)(hm:mx.map (ev n σ)=mv)(hb:∀w,(Instr.sliceBounds true len cap lv hv mv).run P w=.ok (0,h,m) w):
  (execOp (ev n σ) ⟨some d,.slice t x lo hi mx,ty,pos,aft,g⟩).run P w=.ok (.value (.slice a h m)) w:=by
 have:=KH (P:=P) (w:=w) (d:=d) (ty:=ty) (pos:=pos) (aft:=aft) (g:=g) hx ht hl hh hm hb
 rwa [PU,qT,qT]at this
def Sl.cut(s:Sl)(l h m:Nat):Sl:=⟨sa s.a l m 1,h-l,m-l,(s.l.drop l).take (h-l)⟩
theorem yO{s:Bool}(w:World):(Instr.sliceBounds s len cap none none none).run P w=.ok (0,len,cap) w:=EC w
theorem Qp{s:Bool}{k:IntKind}{i:Int}(h:Nat)(e:i=(h:Int))(h1:h<=cap)(w:World):(Instr.sliceBounds s len cap none (some (.int k i)) none).run P w=.ok (0,h,cap) w:=by
 subst e;exact PV zO zO w
theorem Hp.slOwn(H:Hp w0 w S L){a:Option Nat}{l:List UInt8}{T:TypeId}(hi:L[i]? =some (.own a len cap (l.map V8) T 1)):(⟨hd a,len,cap,l⟩:Sl).ok w:=by
 have h:=H.has _ (E3 hi)
 refine⟨Ch.rd_own h,?_,?_,?_⟩
 ·cases a with
 |none=>obtain⟨h1,h2,h3⟩:=h;simp only[List.map_eq_nil_iff]at h3;rw[h3,h1];rfl
 |some b=>obtain⟨h1,_⟩:=h;simpa using h1
 ·cases a with
 |none=>obtain⟨h1,h2,h3⟩:=h;simp only;omega
 |some b=>exact h.2.1
 cases a with
 |none=>obtain⟨h1,h2,h3⟩:=h;simp only;omega
 |some b=>have:=h.2.1;have:=h.2.2.1;simp only[maxLen]at *;omega
theorem Hp.ownLen(H:Hp w0 w S L){a:Option Nat}{T:TypeId}{sz:Nat}(hi:L[i]? =some (.own a len cap xs T sz)):xs.length=len*sz/\len<=cap/\cap<=maxLen:=by
 have h:=H.has _ (E3 hi)
 cases a with
|none=>obtain⟨rfl,rfl,rfl⟩:=h;simp[maxLen]
|some b=>exact⟨h.1,h.2.1,h.2.2.1⟩
theorem Hp.ownAddr(H:Hp w0 w S L){a:Option Nat}{T:TypeId}{sz:Nat}(hi:L[i]? =some (.own a len cap xs T sz))(h0:0<len):∃b,hd a=some ⟨b,0,none⟩:=by
 have h:=H.has _ (E3 hi)
 cases a with
|none=>obtain⟨h1,_⟩:=h;omega
|some b=>exact⟨b,rfl⟩
theorem Hp.slBlkA(H:Hp w0 w S L){b:Nat}{l:List UInt8}{T:TypeId}(hi:L[i]? =some (.blk b (l.map V8) T))(len:Nat)(h1:l.length=len)(h3:len<=9223372036854775807):(⟨some ⟨b,0,none⟩,len,len,l⟩:Sl).ok w:=
 ⟨Ch.rd_all (H.has _ (E3 hi)),h1,B2 _,h3⟩
theorem Hp.rot{c:Ch}(H:Hp w0 w S (L++[c])):Hp w0 w S (c::L):=H.perm (PH _ _)
theorem Hp.nilEnd(H:Hp w0 w S L)(T:TypeId)(sz:Nat):Hp w0 w S (L++[.own none 0 0 [] T sz]):=
 (H.nilOwn T sz).perm (PH _ _).symm
theorem WB{kx ky:IntKind}{li ci:Int}(l:Nat)(H:Hp w0 w S L)(hT:SlTy P t e 1 1)(hz:zeroCells P e=some [V8 0])(hx:ev n σ x=.int kx li)(hy:ev n σ y=.int ky ci)
  (hl:li=(l:Int))(hc:ci=(l:Int))(hm:l<=281474976710656)
  (h:∀b w',Hp w0 w' S (L++[.own (some b) l l ((replicate l (0:UInt8)).map V8) e 1])->w0.heap.size<=b->K (mk n (up σ d (.slice (hd (some b)) l l))) w'):
  Oper.wp P ⟨some d,.makeSlice t x y,ty,pos,aft,g⟩ (mk n σ) w K Q:=by
 have N2:l<=maxLen:=J2 hm (by decide)
 refine PY (l:=l) (c:=l) H hT hz hx hy hl hc (B2 _) zO N2 fun b w' H' hb=>h b w' ?_ hb
 have:=H'.toOwn (i:=L.length) (len:=l) (cap:=l) (sz:=1) (b:=b) (C:=replicate l (V8 0)) (T:=e) (by simp) (B2 _) N2 (by simp)
 rw[dA _ _ (B2 _),bP]at this
 simpa using this
theorem Qq{kx ky:IntKind}{li ci:Int}(c:Nat)(H:Hp w0 w S L)(hT:SlTy P t e 1 1)(hz:zeroCells P e=some [V8 0])(hx:ev n σ x=.int kx li)(hy:ev n σ y=.int ky ci)
  (hl:li=0)(hc:ci=(c:Int))(hm:c<=281474976710656)
  (h:∀b w',Hp w0 w' S (L++[.own (some b) 0 c (([]:List UInt8).map V8) e 1])->w0.heap.size<=b->K (mk n (up σ d (.slice (hd (some b)) 0 c))) w'):
  Oper.wp P ⟨some d,.makeSlice t x y,ty,pos,aft,g⟩ (mk n σ) w K Q:=by
 have N2:c<=maxLen:=J2 hm (by decide)
 refine PY (l:=0) (c:=c) H hT hz hx hy hl hc (L8 _) zO N2 fun b w' H' hb=>h b w' ?_ hb
 have:=H'.toOwn (i:=L.length) (len:=0) (cap:=c) (sz:=1) (b:=b) (C:=replicate c (V8 0)) (T:=e) (by simp) (L8 _) N2 (by simp)
 rw[dA _ _ (B2 _),bP]at this
 simpa using this
theorem WC{F3:Array (Nat×Operand)}(l:List UInt8)(H:Hp w0 w S L)(hT:SlTy P t e 1 1)(hz:zeroCells P e=some [V8 0])
  (hp:W6 n σ F3.toList=en 0 (l.map V8))(D7:l.length=len)(hm:len<=16777216)
  (h:∀b w',Hp w0 w' S (L++[.own (some b) len len (l.map V8) e 1])->w0.heap.size<=b->K (mk n (up σ d (.slice (hd (some b)) len len))) w'):
  Oper.wp P ⟨some d,.buildSlice t len F3,ty,pos,aft,g⟩ (mk n σ) w K Q:=by
 refine sU H hT hz (by decide) hp zO (VX _ (l.map V8) len (by simp[Value.oneCell']) (by simpa using D7)) fun b w' H' hb=>h b w' ?_ hb
 have:=H'.toOwn (i:=L.length) (len:=len) (cap:=len) (sz:=1) (b:=b) (C:=l.map V8) (T:=e) (by simp) (B2 _) (J2 hm (by decide)) (by simpa using D7)
 rw[dA _ _ (B2 _),bP,V9 (by simp;omega)]at this
 simpa using this
theorem NB{bytes:Nat}{F3:Array (Nat×Operand)}{zv:Value}(vs:List Value)(H:Hp w0 w S L)(hT:SlTy P t e 1 bytes)(hz:zeroCells P e=some [zv])
  (hp:W6 n σ F3.toList=en 0 vs)(h1:vs.all (·.oneCell')=true)(D7:vs.length=len)(hm:len<=16777216)
  (h:∀b w',Hp w0 w' S (L++[.own (some b) len len vs e 1])->w0.heap.size<=b->K (mk n (up σ d (.slice (hd (some b)) len len))) w'):
  Oper.wp P ⟨some d,.buildSlice t len F3,ty,pos,aft,g⟩ (mk n σ) w K Q:=by
 refine sU H hT hz (by decide) hp zO (VX _ vs len (by simpa using h1) D7) fun b w' H' hb=>h b w' ?_ hb
 have:=H'.toOwn (i:=L.length) (len:=len) (cap:=len) (sz:=1) (b:=b) (C:=vs) (T:=e) (by simp) (B2 _) (J2 hm (by decide)) (by simpa using D7)
 rw[dA _ _ (B2 _),bP,V9 zO]at this
 simpa using this
theorem BW{a:Option Nat}{len':Nat}{l l':List UInt8}{e':TypeId}{tx:TypeId}{s:Sl}(el:l++s.l=l')(en:len+s.len=len')(H:Hp w0 w S L)(hi:L[i]? =some (.own a len cap (l.map V8) e 1))(hT:SlTy P t e 1 1)(hu:P.underlying tx=some (.slice e'))
  (hx:ev n σ x=.slice (hd a) len cap)(hy:ev n σ y=s.v)(hs:s.ok w)(hm:len'<=140737488355328)
  (h:∀a' M5 w',Hp w0 w' S (L.set i (.own a' len' M5 (l'.map V8) e 1))->K (mk n (up σ d (.slice (hd a') len' M5))) w'):
  Oper.wp P ⟨some d,.call ⟨.builtin .append, #[x,y], #[t,tx]⟩,ty,pos,aft,g⟩ (mk n σ) w K Q:=by
 subst el en
 refine PX (m:=s.len) (news:=s.l.map V8) H hi hT hx hy (RdS.src hu hs.rd (by simp[hs.ln]) (by decide) (by simp[Value.oneCell'])) (by decide) zO zO fun a' M5 w' H'=>h a' M5 w' ?_
 rw[lI];exact H'
theorem WD{b:Nat}{a:Option Nat}{l:List UInt8}{T:TypeId}{u:UInt8}(H:Hp w0 w S L)(hi:L[i]? =some (.own a len cap (l.map V8) T 1))(hx:ev n σ x=.pointer (some ⟨b,0+k*1,none⟩))(ha:hd a=some ⟨b,0,none⟩)
  (hy:ev n σ y=V8 u)(hs:K2 P t=some 1)(hk:k<len)
  (h:∀w',Hp w0 w' S (L.set i (.own a len cap ((l.set k u).map V8) T 1))->K (mk n σ) w'):Oper.wp P ⟨none,.store t x y,ty,pos,aft,g⟩ (mk n σ) w K Q:=by
 have hl:=(H.ownLen hi).1
 refine Dj H hi hx ha hy hs rfl zO fun w' H'=>h w' ?_
 rw[<-List.map_set,l5,J5]at H'
 exact H'
theorem WE{a:Option Nat}{l:List UInt8}{T e':TypeId}{s:Sl}{tx:TypeId}(H:Hp w0 w S L)(hi:L[i]? =some (.own a len cap (l.map V8) T 1))(hu:P.underlying t=some (.slice e))(hu':P.underlying tx=some (.slice e'))(hs:K2 P e=some 1)
  (hx:ev n σ x=.slice (hd a) len cap)(hy:ev n σ y=s.v)(hsok:s.ok w)(hpos:0<len)
  (h:∀w',Hp w0 w' S (L.set i (.own a len cap ((s.l.take (min s.len len)++l.drop (min s.len len)).map V8) T 1))->K (mk n (up σ d (VI ((min s.len len:Nat):Int)))) w'):
  Oper.wp P ⟨some d,.call ⟨.builtin .copy, #[x,y], #[t,tx]⟩,ty,pos,aft,g⟩ (mk n σ) w K Q:=by
 cases a with
|none=>have:=H.has _ (E3 hi);obtain⟨h1,_⟩:=this;omega
|some b=>
  obtain⟨q1,q2,q3,rest,hw,q5⟩:=H.has _ (E3 hi)
  have hlt:i<L.length:=(N1.1 hi).1
  have Hb:Hp w0 w S (L.set i (.blk b (l.map V8++rest) T)):=H.conv hi rfl fun _=>hw
  have hll:l.length=len:=by simpa using q1
  refine QB (o:=0) (vs:=s.l.map V8) Hb (i:=i) (by rw[List.getElem?_set_self hlt]) hu hu' hs (by decide) hx hy hsok.rd (by simp[hsok.ln]) (by simp[Value.oneCell']) (by simp;omega) fun w' H'=>h w' ?_
  have e1:(l.map V8++rest).take 0++(s.l.map V8).take (min s.len len*1)++(l.map V8++rest).drop (0+min s.len len*1)=(s.l.take (min s.len len)++l.drop (min s.len len)).map V8++rest:=by
   rw[List.take_zero,Y5,l5,J5,qO (by simp;omega)]
   simp
  rw[e1,List.set_set]at H'
  have lZ:=hsok.ln
  have:=H'.conv (i:=i) (c:=.blk b ((s.l.take (min s.len len)++l.drop (min s.len len)).map V8++rest) T) (c':=.own (some b) len cap ((s.l.take (min s.len len)++l.drop (min s.len len)).map V8) T 1) (by rw[List.getElem?_set_self hlt]) rfl (fun M4=>⟨by simp;omega,q2,q3,rest,M4,by simp only[C6,J7,F7,K4]at *;omega⟩)
  rwa [List.set_set]at this
theorem Sl.ok_nil(w:World):(⟨none,0,0,[]⟩:Sl).ok w:=⟨.inl rfl,rfl,B2 _,by decide⟩
theorem HA{a:Int}(k:Nat)(h:a=(k:Int)):u64.wrap a=((UInt64.ofNat k).toNat:Int):=by
 subst h
 have:=De (a:=(k:Int)) zO
 rwa [jT]at this
theorem NC{t:TypeId}{a b:Nat}:(binOp .mul t (L9 (UInt64.ofNat a)) (L9 (UInt64.ofNat b))).run P w=.ok (L9 (UInt64.ofNat (a*b))) w:=by
 rw[UInt64.ofNat_mul];exact Cz
theorem Qr(m:Nat)(h:m<64):(((UInt64.ofNat m).toNat:Nat):Int).toNat=m:=by
 rw[aM];omega
theorem ND{x:UInt64}(m:Nat)(h:m<64):(Op.shift .shr .u64 (x.toNat:Int) .u64 ((UInt64.ofNat m).toNat:Int)).run P w=.ok (L9 (x>>>UInt64.ofNat m)) w:=by
 have:=PS (P:=P) (w:=w) (x:=x) (yk:=.u64) (c:=((UInt64.ofNat m).toNat:Int)) zO (by rw[aM];omega)
 rwa [Qr m h]at this
def Sl.full(x:Sl):Sl:=⟨x.a,x.cap,x.cap,x.l++replicate 3 229⟩
structure Sl.kept (x:Sl) (w:World):Prop where
 ok:x.ok w
 room:x.cap=x.len+3
 all:x.full.ok w
end
def uG(tmps:Array Value):ResultVar->Sem Value
|.tmp t=>pure (tmps.getD t undef)
|.cell a t=>do loadVar t (<-asAddr (tmps.getD a undef))
def uH(P:Program)(n:Nat)(σ:Nat->Value)(w:World):List ResultVar->List Value->Prop
|[],[]=>True
|.tmp t::rs,v::vs=>ev n σ (.tmp t)=v/\uH P n σ w rs vs
|.cell a t::rs,v::vs=>(∃b C T k,ev n σ (.tmp a)=.pointer (some ⟨b,0,none⟩)/\w.heap[b]? =some (.cells (List.toArray C) T (0,0))/\((T5 P t=some k/\C.length=k/\v=.agg C.toArray)\/(O5 P t=true/\C[0]? =some v)))/\uH P n σ w rs vs
|_,_=>False
theorem NE{P:Program}{n:Nat}{σ:Nat->Value}{w:World}:∀(rs:List ResultVar) (vs:List Value) (L0:Array Value),uH P n σ w rs vs->
  (rs.foldlM (fun L0 r=>do let v <-uG (mk n σ).tmps r;pure (L0.push v)) L0:Sem (Array Value)).run P w=.ok (L0++vs.toArray) w
|[],[],L0,_=>by simp
|.tmp t::rs,v::vs,L0,h=>by
  have h1:(mk n σ).tmps.getD t undef=v:=by rw[sM];exact h.1
  have e:(uG (mk n σ).tmps (.tmp t)).run P w=.ok v w:=by simp[uG,h1]
  rw[List.foldlM_cons,D0,D0,e]
  simp only[F6,iE]
  rw[NE rs vs _ h.2]
  congr 1
  simp
|.cell a t::rs,v::vs,L0,h=>by
  obtain⟨⟨b,C,T,k,h1,h2,h3⟩,h4⟩:=h
  have e1:(mk n σ).tmps.getD a undef=.pointer (some ⟨b,0,none⟩):=by rw[sM];exact h1
  have e2:(loadVar t ⟨b,0,none⟩).run P w=.ok v w:=by
   rcases h3 with⟨hr,hk,rfl⟩|⟨hc,hv⟩
   ·have:=AC (P:=P) (t:=t) (k:=k) (o:=0) h2 hr zO
    simp only[Instr.loadAt,Instr.sureAddr,D0,iE,F6]at this
    rw[this,qM,V9 zO]
   have:=sS (P:=P) (t:=t) (a:=⟨b,0,none⟩) (v:=v) (w:=w) hc (by simp[World.cell?, h2,hv])
   simpa only[Instr.loadAt,Instr.sureAddr,D0,iE,F6] using this
  have e:(uG (mk n σ).tmps (.cell a t)).run P w=.ok v w:=by simp[uG,e1,asAddr,e2]
  rw[List.foldlM_cons,D0,D0,e]
  simp only[F6,iE]
  rw[NE rs vs _ h4]
  congr 1
  simp
theorem WF{n:Nat}{σ:Nat->Value}{R:Ending->World->Prop}(rs:List ResultVar)(vs:List Value)(hres:fn.results=rs.toArray)(h1:(vs.length==1)=false)(hv:uH P n σ w rs vs)
  (hR:R (.returned (.tuple vs.toArray)) w):bodyPost P fn R .ret (mk n σ) w:=by
 refine⟨oT n σ,.tuple vs.toArray,?_,hR⟩
 have h2:=NE (P:=P) (w:=w) rs vs #[] hv
 have h3:(fn.results.mapM (uG (mk n σ).tmps)).run P w=.ok vs.toArray w:=by
  rw[hres,Array.mapM_eq_foldlM,List.foldlM_toArray]
  simpa using h2
 have h4:results fn (mk n σ).tmps=(do let vs <-fn.results.mapM (uG (mk n σ).tmps);pure (if h:vs.size=1 then vs[0] else .tuple vs)):=by
  unfold results
  congr 1
 rw[h4,D0,h3]
 have:¬ vs.length=1:=by simpa using h1
 simp[this]
theorem HB{n:Nat}{σ:Nat->Value}{t:Nat}{v:Value}{rs:List ResultVar}(hv:ev n σ (.tmp t)=v)(h:uH P n σ w rs vs):uH P n σ w (.tmp t::rs) (v::vs):=⟨hv,h⟩
theorem WG{n:Nat}{σ:Nat->Value} :uH P n σ w [] []:=trivial
section
variable {n:Nat} {σ:Nat->Value} {c:Code} {κ ξ ο π:Type}
theorem NF(G4:ι->κ->List (Nat×Value))(A:ι->κ->World->Prop)(μ:ι->κ->Nat)(i:ι)(k:κ)(hp:fits σ (G4 i k))(hA:A i k w)
  (h:∀i k τ w,A i k w->c.wp P (Exit.then (oS n (fun x:ι×κ=>G4 x.1 x.2) (fun x=>A x.1 x.2) (fun x=>μ x.1 x.2) (μ i k)) Q) (mk n (o7 τ (G4 i k))) w):(Code.loop c).wp P Q (mk n σ) w:=
 aA (fun x:ι×κ=>G4 x.1 x.2) (fun x=>A x.1 x.2) (fun x=>μ x.1 x.2) (i,k) hp hA fun x τ w hA=>h x.1 x.2 τ w hA
theorem Qt(G4:ι->κ->ξ->List (Nat×Value))(A:ι->κ->ξ->World->Prop)(μ:ι->κ->ξ->Nat)(i:ι)(k:κ)(x:ξ)(hp:fits σ (G4 i k x))(hA:A i k x w)
  (h:∀i k x τ w,A i k x w->c.wp P (Exit.then (oS n (fun y:ι×κ×ξ=>G4 y.1 y.2.1 y.2.2) (fun y=>A y.1 y.2.1 y.2.2) (fun y=>μ y.1 y.2.1 y.2.2) (μ i k x)) Q) (mk n (o7 τ (G4 i k x))) w):(Code.loop c).wp P Q (mk n σ) w:=
 aA (fun y:ι×κ×ξ=>G4 y.1 y.2.1 y.2.2) (fun y=>A y.1 y.2.1 y.2.2) (fun y=>μ y.1 y.2.1 y.2.2) (i,k,x) hp hA fun y τ w hA=>h y.1 y.2.1 y.2.2 τ w hA
theorem WH(G4:ι->κ->ξ->ο->List (Nat×Value))(A:ι->κ->ξ->ο->World->Prop)(μ:ι->κ->ξ->ο->Nat)(i:ι)(k:κ)(x:ξ)(o:ο)(hp:fits σ (G4 i k x o))(hA:A i k x o w)
  (h:∀i k x o τ w,A i k x o w->c.wp P (Exit.then (oS n (fun y:ι×κ×ξ×ο=>G4 y.1 y.2.1 y.2.2.1 y.2.2.2) (fun y=>A y.1 y.2.1 y.2.2.1 y.2.2.2) (fun y=>μ y.1 y.2.1 y.2.2.1 y.2.2.2) (μ i k x o)) Q) (mk n (o7 τ (G4 i k x o))) w):(Code.loop c).wp P Q (mk n σ) w:=
 aA (fun y:ι×κ×ξ×ο=>G4 y.1 y.2.1 y.2.2.1 y.2.2.2) (fun y=>A y.1 y.2.1 y.2.2.1 y.2.2.2) (fun y=>μ y.1 y.2.1 y.2.2.1 y.2.2.2) (i,k,x,o) hp hA fun y τ w hA=>h y.1 y.2.1 y.2.2.1 y.2.2.2 τ w hA
theorem WI(G4:ι->κ->ξ->ο->π->List (Nat×Value))(A:ι->κ->ξ->ο->π->World->Prop)(μ:ι->κ->ξ->ο->π->Nat)(i:ι)(k:κ)(x:ξ)(o:ο)(p:π)(hp:fits σ (G4 i k x o p))(hA:A i k x o p w)
  (h:∀i k x o p τ w,A i k x o p w->c.wp P (Exit.then (oS n (fun y:ι×κ×ξ×ο×π=>G4 y.1 y.2.1 y.2.2.1 y.2.2.2.1 y.2.2.2.2) (fun y=>A y.1 y.2.1 y.2.2.1 y.2.2.2.1 y.2.2.2.2) (fun y=>μ y.1 y.2.1 y.2.2.1 y.2.2.2.1 y.2.2.2.2) (μ i k x o p)) Q) (mk n (o7 τ (G4 i k x o p))) w):(Code.loop c).wp P Q (mk n σ) w:=
 aA (fun y:ι×κ×ξ×ο×π=>G4 y.1 y.2.1 y.2.2.1 y.2.2.2.1 y.2.2.2.2) (fun y=>A y.1 y.2.1 y.2.2.1 y.2.2.2.1 y.2.2.2.2) (fun y=>μ y.1 y.2.1 y.2.2.1 y.2.2.2.1 y.2.2.2.2) (i,k,x,o,p) hp hA fun y τ w hA=>h y.1 y.2.1 y.2.2.1 y.2.2.2.1 y.2.2.2.2 τ w hA
end
def J0(l:List UInt8):List UInt8:=sY (I3 HS.init l)
theorem gX(l:List UInt8):(J0 l).length=32:=RF _
theorem Qu(w0:World)(a:Option Addr)(s:Sl)(hr:RdS w0 a [s.v])(hs:s.ok w0):
  Ret Tryz.prog 87 [.slice a 1 1] w0 fun v w'=>v=.agg ((J0 s.l).map V8).toArray/\Hp w0 w' [] []:=by
 have h:=LA w0 a 1 1 [s] hr rfl (Qj hs) (by decide)
 rw[show fC [s]=s.l by simp[fC]]at h
 exact h
theorem WJ(w0:World)(a:Option Addr)(s u:Sl)(hr:RdS w0 a [s.v,u.v])(hs:s.ok w0)(hu:u.ok w0):
  Ret Tryz.prog 87 [.slice a 2 2] w0 fun v w'=>v=.agg ((J0 (s.l++u.l)).map V8).toArray/\Hp w0 w' [] []:=by
 have h:=LA w0 a 2 2 [s,u] hr rfl (Qk hs hu) (by decide)
 rw[show fC [s,u]=s.l++u.l by simp[fC]]at h
 exact h
theorem Qv(w0:World)(pa:Option Addr)(len cap:Nat)(ps:List Sl)(hr:RdS w0 pa (ps.map Sl.v))(hl:ps.length=len)(M4:∀p∈ps,p.ok w0)(N2:len<9223372036854775807):
  Ret Tryz.prog 87 [.slice pa len cap] w0 fun v w'=>v=.agg ((J0 (fC ps)).map V8).toArray/\Hp w0 w' [] []:=LA w0 pa len cap ps hr hl M4 N2
def Qw(x:List UInt8):List Value:=S5 (I3 HS.init x)
attribute [irreducible] J0 Qw
def be(v:Nat):Nat->List UInt8
|0=>[]
|i+1=>UInt8.ofNat (v / 256 ^ i)::be v i
theorem NG(v:Nat):∀n,(be v n).length=n
|0=>rfl
|n+1=>by simp[be,NG v n]
theorem WK(v:UInt64)(k:Nat)(h:k<8):(v>>>UInt64.ofNat (8*k)).toUInt8=UInt8.ofNat (v.toNat / 256 ^ k):=by
 apply DB.1
 have e:(UInt64.ofNat (8*k)).toNat % 64=8*k:=by rw[aM];omega
 rw[UInt64.toNat_toUInt8,UInt64.toNat_shiftRight,e,PG,UInt8.toNat_ofNat',Nat.pow_mul]
theorem Qx(v:UInt64)(k:Nat)(h:k<8)(hv:v.toNat<256 ^ k):v>>>UInt64.ofNat (8*k)=0:=by
 apply UInt64.toNat_inj.1
 have e:(UInt64.ofNat (8*k)).toNat % 64=8*k:=by rw[aM];omega
 rw[UInt64.toNat_shiftRight,e,PG,Nat.pow_mul]
 exact Nat.div_eq_of_lt hv
theorem WL(w0:World)(s:Sl)(hs:s.ok w0)(n:Nat)(hm:s.len+n<=1099511627776):
  Ret Tryz.prog 147 [s.v,VI (n:Int)] w0 fun v w'=>∃a cap,v=.slice (hd a) s.len cap/\Hp w0 w' [] [.own a s.len cap (s.l.map V8) 5 1]:=by
 refine T7 Tryz.func147 rfl Tryz.ntmps147 (by simp) ?_
 have H:=Hp.refl w0 []
 refine rG ?_;refine aZ ?_;refine eN ?_
 refine rG ?_;refine B8 ?_;refine lV (aC aX rfl) ?_;refine B8 ?_;refine lV (D1 (a:=(s.len:Int)) (b:=(n:Int)) rfl rfl (fun _=>Z9 zO zO)) ?_;refine A3 (Qq (s.len+n) H eY pC rfl rfl rfl zO zO (fun b1 w H P8=>?_));replace H:Hp _ w _ ([.own (some b1) 0 (s.len+n) ((([]:List UInt8)).map V8) 5 1]):=H
 refine B8 ?_;refine A3 (BW (s:=s) (l':=s.l) (len':=s.len) rfl (J5 _) H (i:=0) rfl eY Tryz.underlying45 rfl rfl (hs.up H (fun _=>U9 _)) zO (fun a2 c3 w H=>?_));replace H:Hp _ w _ ([.own a2 s.len c3 ((s.l).map V8) 5 1]):=H
 refine aZ ?_;refine eN ?_
 refine o8 ?_
 refine w9 (v:=.slice (hd a2) s.len c3) Tryz.results147 rfl ?_
 refine⟨_,rfl,?_⟩
 exact⟨_,_,rfl,H⟩
theorem Qy(w0:World)(s:Sl)(hs:s.ok w0)(u:UInt64)(n:Nat)(h1:1<=n)(h8:n<=8)(hf:n=8\/u.toNat<256 ^ n)(hm:s.len<=1048576):
 Ret Tryz.prog 98 [s.v,L9 u,VI (n:Int)] w0 fun v w'=>∃a cap,v=.tuple #[.slice (hd a) (s.len+n) cap,VI 0]/\Hp w0 w' [] [.own a (s.len+n) cap ((s.l++be u.toNat n).map V8) 5 1]:=by
 refine T7 Tryz.func98 rfl Tryz.ntmps98 (by simp) ?_
 have H:=Hp.refl w0 []
 refine rG ?_;refine aZ ?_;refine aZ ?_;refine eN ?_
 refine qB ?_;refine rG ?_;refine B8 ?_;refine lV (D1 (a:=(n:Int)) (b:=1) rfl rfl (fun _=>Qg false (decide_eq_false zO))) ?_;refine B8 ?_;refine cE rfl rfl rfl (G5 L4 ?_);refine cE rfl rfl rfl (G5 (D1 (a:=(n:Int)) (b:=8) rfl rfl (fun _=>Qh false (decide_eq_false zO))) ?_);refine lV (wY rfl) ?_;refine aZ ?_;refine eN ?_
 refine qN ?_;refine rG ?_;refine B8 ?_;refine lV (D1 (a:=(n:Int)) (b:=8) rfl rfl (fun _=>aB)) ?_;refine B8 ?_
 by_cases hc1:(n:Int)<8
 ·
  refine cE rfl rfl (by exact bT hc1) (G5 L4 ?_);refine cE rfl rfl (by exact bT hc1) (G5 L4 ?_);refine cE rfl rfl (by exact bT hc1) (G5 (iZ (v:=((UInt64.ofNat n).toNat:Int)) Tryz.underlying3 Tryz.underlying172 rfl (HA n zO)) ?_);refine cE rfl rfl (by exact bT hc1) (G5 (D1 (AB 8 (by decide)) rfl (fun _=>NC)) ?_);refine cE rfl rfl (by exact bT hc1) (G5 (oY rfl rfl (.inr rfl) (fun _=>ND (8*n) zO)) ?_);refine cE rfl rfl (by exact bT hc1) (G5 (D1 (a:=((u>>>UInt64.ofNat (8*n)).toNat:Int)) (b:=0) rfl rfl (fun _=>Qi false (decide_eq_false (fun D5=>D5 (by rw[Qx u n zO zO];rfl))))) ?_);refine lV (wY (b:=true) (bT hc1)) ?_;refine aZ ?_;refine eN ?_
  refine qN ?_;refine M6 ?_;refine rG ?_;refine B8 ?_;refine B8 ?_;refine A3 (N4 Tryz.func147 rfl rfl rfl (WL _ s (hs.up H (fun _=>U9 _)) n (by first|omega|(simp only[Sl.cut];omega))) ?_);rintro _ w ⟨a2,c3,rfl,Hc⟩
  replace H:Hp _ w _ ([.own a2 s.len c3 ((s.l).map V8) 5 1]):=H.call Hc
  clear Hc
  refine aZ ?_;refine eN ?_
  refine rG ?_;refine B8 ?_;refine lV (D1 (a:=(n:Int)) (b:=1) rfl rfl (fun _=>gE zO zO)) ?_;refine aZ ?_;refine eN ?_
  refine qB ?_;repeat refine D8 ?_
  refine WI (fun(k:Nat) (l:List UInt8) (a:Option Nat) (ln:Nat) (c:Nat)=>[(1,L9 u),(8,.slice (hd a) ln c),(9,VI ((k:Int)-1))])
   (fun(k:Nat) (l:List UInt8) (a:Option Nat) (ln:Nat) (c:Nat) w=>(k<=n/\l++be u.toNat k=s.l++be u.toNat n/\ln+k=s.len+n)/\Hp w0 w [] ([.own a ln c ((l).map V8) 5 1]))
   (fun(k:Nat) (l:List UInt8) (a:Option Nat) (ln:Nat) (c:Nat)=>k) n s.l _ s.len _ ⟨rfl,rfl,rfl,zT⟩ ⟨⟨B2 _,rfl,rfl⟩,H⟩ ?_
  clear H
  rintro k l a ln c τ w ⟨⟨hk,hl,lZ⟩,H⟩
  refine rG ?_;refine B8 ?_;refine lV (D1 (a:=((k:Int)-1)) (b:=0) rfl rfl (fun _=>JS)) ?_;refine eN ?_
  by_cases hc4:0<=((k:Int)-1)
  ·
   repeat refine D8 ?_
   refine cG (by exact bT hc4) ?_;refine M6 ?_;refine qB ?_;have nS:k=(k-1)+1:=by omega
   rw[nS,be]at hl
   refine rG ?_;refine B8 ?_;refine B8 ?_;refine B8 ?_;refine lV (iZ (v:=((UInt64.ofNat (k-1)).toNat:Int)) Tryz.underlying3 Tryz.underlying172 rfl (HA (k-1) zO)) ?_;refine lV (D1 (AB 8 (by decide)) rfl (fun _=>NC)) ?_;refine lV (oY rfl rfl (.inr rfl) (fun _=>ND (8*(k-1)) zO)) ?_;refine lV (iZ Tryz.underlying37 Tryz.underlying5 rfl (JX _)) ?_;refine A3 (WC ([(u>>>UInt64.ofNat (8*(k-1))).toUInt8]) H eY pC rfl rfl (by decide) (fun b5 w H hb5=>?_));replace H:Hp _ w _ ([_,.own (some b5) 1 1 (([(u>>>UInt64.ofNat (8*(k-1))).toUInt8]).map V8) 5 1]):=H
   refine A3 (BW (s:=⟨hd (some b5),1,1,[(u>>>UInt64.ofNat (8*(k-1))).toUInt8]⟩) (l':=l++[UInt8.ofNat (u.toNat / 256 ^ (k-1))]) (len':=ln+1) (by rw[<-WK u (k-1) zO]) rfl H (i:=0) rfl eY Tryz.underlying45 rfl rfl (H.slOwn (i:=1) rfl) zO (fun a6 c7 w H=>?_));replace H:Hp _ w _ ([.own a6 (ln+1) c7 ((l++[UInt8.ofNat (u.toNat / 256 ^ (k-1))]).map V8) 5 1,_]):=H
   refine aZ ?_;refine eN ?_
   refine rG ?_;refine B8 ?_;refine lV (D1 (a:=((k:Int)-1)) (b:=1) rfl rfl (fun _=>gE zO zO)) ?_;refine aZ ?_;refine eN ?_
   refine U7 (k-1,l++[UInt8.ofNat (u.toNat / 256 ^ (k-1))],a6,ln+1,c7) ?_ ?_ ?_
   ·exact⟨rfl,rfl,show VI (((k:Int)-1)-1)=VI (((k-1:Nat):Int)-1) from congrArg VI zO,zT⟩
   ·refine⟨?_,?_⟩
    ·try dsimp only
     exact⟨zO,by simpa using hl,zO⟩
    exact H.sub (.cons_cons _ (P4 _))
   show(k-1:Nat)<k;omega
  
  repeat refine D8 ?_
  refine cH (by exact bF hc4) ?_;refine W8 ?_;refine rG ?_;refine B8 ?_;refine aZ ?_;refine aZ ?_;refine eN ?_
  refine o8 ?_
  refine WF (vs:=[.slice (hd a) ln c,VI 0]) _ Tryz.results98 rfl (HB (v:=.slice (hd a) ln c) rfl (HB (v:=VI 0) rfl (WG))) ?_
  refine⟨_,rfl,?_⟩
  have lL:k=0:=by omega
  subst lL
  simp only[be,Z5,t8]at hl lZ
  subst hl lZ
  exact⟨_,_,rfl,H⟩
 
 refine oR rfl rfl (by exact bF hc1) rfl ?_;refine oR rfl rfl (by exact bF hc1) rfl ?_;refine oR rfl rfl (by exact bF hc1) rfl ?_;refine oR rfl rfl (by exact bF hc1) rfl ?_;refine oR rfl rfl (by exact bF hc1) rfl ?_;refine oR rfl rfl (by exact bF hc1) rfl ?_;refine lV (wY (b:=false) (bF hc1)) ?_;refine aZ ?_;refine eN ?_
 refine qN ?_;refine M6 ?_;refine rG ?_;refine B8 ?_;refine B8 ?_;refine A3 (N4 Tryz.func147 rfl rfl rfl (WL _ s (hs.up H (fun _=>U9 _)) n (by first|omega|(simp only[Sl.cut];omega))) ?_);rintro _ w ⟨a8,c9,rfl,Hc⟩
 replace H:Hp _ w _ ([.own a8 s.len c9 ((s.l).map V8) 5 1]):=H.call Hc
 clear Hc
 refine aZ ?_;refine eN ?_
 refine rG ?_;refine B8 ?_;refine lV (D1 (a:=(n:Int)) (b:=1) rfl rfl (fun _=>gE zO zO)) ?_;refine aZ ?_;refine eN ?_
 refine qB ?_;repeat refine D8 ?_
 refine WI (fun(k:Nat) (l:List UInt8) (a:Option Nat) (ln:Nat) (c:Nat)=>[(1,L9 u),(8,.slice (hd a) ln c),(9,VI ((k:Int)-1))])
  (fun(k:Nat) (l:List UInt8) (a:Option Nat) (ln:Nat) (c:Nat) w=>(k<=n/\l++be u.toNat k=s.l++be u.toNat n/\ln+k=s.len+n)/\Hp w0 w [] ([.own a ln c ((l).map V8) 5 1]))
  (fun(k:Nat) (l:List UInt8) (a:Option Nat) (ln:Nat) (c:Nat)=>k) n s.l _ s.len _ ⟨rfl,rfl,rfl,zT⟩ ⟨⟨B2 _,rfl,rfl⟩,H⟩ ?_
 clear H
 rintro k l a ln c τ w ⟨⟨hk,hl,lZ⟩,H⟩
 refine rG ?_;refine B8 ?_;refine lV (D1 (a:=((k:Int)-1)) (b:=0) rfl rfl (fun _=>JS)) ?_;refine eN ?_
 by_cases hc10:0<=((k:Int)-1)
 ·
  repeat refine D8 ?_
  refine cG (by exact bT hc10) ?_;refine M6 ?_;refine qB ?_;have nS:k=(k-1)+1:=by omega
  rw[nS,be]at hl
  refine rG ?_;refine B8 ?_;refine B8 ?_;refine B8 ?_;refine lV (iZ (v:=((UInt64.ofNat (k-1)).toNat:Int)) Tryz.underlying3 Tryz.underlying172 rfl (HA (k-1) zO)) ?_;refine lV (D1 (AB 8 (by decide)) rfl (fun _=>NC)) ?_;refine lV (oY rfl rfl (.inr rfl) (fun _=>ND (8*(k-1)) zO)) ?_;refine lV (iZ Tryz.underlying37 Tryz.underlying5 rfl (JX _)) ?_;refine A3 (WC ([(u>>>UInt64.ofNat (8*(k-1))).toUInt8]) H eY pC rfl rfl (by decide) (fun b11 w H hb11=>?_));replace H:Hp _ w _ ([_,.own (some b11) 1 1 (([(u>>>UInt64.ofNat (8*(k-1))).toUInt8]).map V8) 5 1]):=H
  refine A3 (BW (s:=⟨hd (some b11),1,1,[(u>>>UInt64.ofNat (8*(k-1))).toUInt8]⟩) (l':=l++[UInt8.ofNat (u.toNat / 256 ^ (k-1))]) (len':=ln+1) (by rw[<-WK u (k-1) zO]) rfl H (i:=0) rfl eY Tryz.underlying45 rfl rfl (H.slOwn (i:=1) rfl) zO (fun a12 c13 w H=>?_));replace H:Hp _ w _ ([.own a12 (ln+1) c13 ((l++[UInt8.ofNat (u.toNat / 256 ^ (k-1))]).map V8) 5 1,_]):=H
  refine aZ ?_;refine eN ?_
  refine rG ?_;refine B8 ?_;refine lV (D1 (a:=((k:Int)-1)) (b:=1) rfl rfl (fun _=>gE zO zO)) ?_;refine aZ ?_;refine eN ?_
  refine U7 (k-1,l++[UInt8.ofNat (u.toNat / 256 ^ (k-1))],a12,ln+1,c13) ?_ ?_ ?_
  ·exact⟨rfl,rfl,show VI (((k:Int)-1)-1)=VI (((k-1:Nat):Int)-1) from congrArg VI zO,zT⟩
  ·refine⟨?_,?_⟩
   ·try dsimp only
    exact⟨zO,by simpa using hl,zO⟩
   exact H.sub (.cons_cons _ (P4 _))
  show(k-1:Nat)<k;omega
 
 repeat refine D8 ?_
 refine cH (by exact bF hc10) ?_;refine W8 ?_;refine rG ?_;refine B8 ?_;refine aZ ?_;refine aZ ?_;refine eN ?_
 refine o8 ?_
 refine WF (vs:=[.slice (hd a) ln c,VI 0]) _ Tryz.results98 rfl (HB (v:=.slice (hd a) ln c) rfl (HB (v:=VI 0) rfl (WG))) ?_
 refine⟨_,rfl,?_⟩
 have lL:k=0:=by omega
 subst lL
 simp only[be,Z5,t8]at hl lZ
 subst hl lZ
 exact⟨_,_,rfl,H⟩
theorem Qz(x a b:UInt8):x|||(a^^^b)=0↔x=0/\a=b:=by
 constructor
 ·intro h
  have h1:=congrArg UInt8.toBitVec h
  simp only[UInt8.toBitVec_or,UInt8.toBitVec_xor]at h1
  have hx:x.toBitVec=0#8:=by
   apply BitVec.eq_of_getElem_eq
   intro i hi
   have:=congrArg (·[i]) h1
   simp at this
   simp[this.1]
  have U4:a.toBitVec=b.toBitVec:=by
   apply BitVec.eq_of_getElem_eq
   intro i hi
   have:=congrArg (·[i]) h1
   simp at this
   exact this.2
  exact⟨UInt8.toBitVec_inj.1 hx,UInt8.toBitVec_inj.1 U4⟩
 rintro⟨rfl,rfl⟩;simp
theorem Ra{a b:List UInt8}(i:Nat)(ha:i<a.length)(hb:i<b.length):a.take (i+1)=b.take (i+1)↔a.take i=b.take i/\a.getD i 0=b.getD i 0:=by
 have e:∀l:List UInt8,i<l.length->l.take (i+1)=l.take i++[l.getD i 0]:=fun l hl=>by
  rw[DE,l6];simp[hl]
 rw[e a ha,e b hb]
 constructor
 ·intro h
  have:=List.append_inj h (by simp;omega)
  exact⟨this.1,by simpa using this.2⟩
 rintro⟨h1,h2⟩;rw[h1,h2]
theorem Rb(w0:World)(s u:Sl)(hs:s.ok w0)(hu:u.ok w0):
 Ret Tryz.prog 106 [s.v,u.v] w0 fun v w'=>v=.bool (decide (s.l=u.l))/\Hp w0 w' [] []:=by
 refine T7 Tryz.func106 rfl Tryz.ntmps106 (by simp) ?_
 have H:=Hp.refl w0 []
 have rF:=hs.ln
 have hul:=hu.ln
 have N2:=hs.mx
 refine rG ?_;refine aZ ?_;refine eN ?_
 refine rG ?_;refine B8 ?_;refine lV (aC aX rfl) ?_;refine B8 ?_;refine lV (aC aX rfl) ?_;refine lV (D1 (a:=(s.len:Int)) (b:=(u.len:Int)) rfl rfl (fun _=>DQ)) ?_;refine eN ?_
 by_cases hc1:(s.len:Int)≠(u.len:Int)
 ·
  repeat refine D8 ?_
  refine cG (by exact bT hc1) ?_;refine rG ?_;refine aZ ?_;refine eN ?_
  refine o8 ?_
  refine w9 (v:=.bool false) Tryz.results106 rfl ?_
  refine⟨_,rfl,?_⟩
  refine⟨?_,H⟩
  have e:¬ s.l=u.l:=fun e=>by rw[e]at rF;omega
  rw[decide_eq_false e]
 
 repeat refine D8 ?_
 refine cH (by exact bF hc1) ?_;refine M6 ?_;refine rG ?_;refine lV (Qm (c8 0 (by decide))) ?_;refine eN ?_
 refine rG ?_;refine B8 ?_;refine lV (aC aX rfl) ?_;refine B8 ?_;refine eN ?_
 refine qB ?_;repeat refine D8 ?_
 refine NF (fun(i:Nat) (x:UInt8)=>[(0,s.v),(1,u.v),(5,V8 x),(13,VI (s.len:Int)),(14,VI (i:Int))])
  (fun(i:Nat) (x:UInt8) w=>(i<=s.len/\(x=0↔s.l.take i=u.l.take i))/\Hp w0 w [] ([]))
  (fun(i:Nat) (x:UInt8)=>s.len-i) 0 (UInt8.ofNat 0) ⟨rfl,rfl,rfl,rfl,rfl,zT⟩ ⟨⟨L8 _,by simp⟩,H⟩ ?_
 clear H
 rintro i x τ w ⟨⟨hi,hx⟩,H⟩
 refine rG ?_;refine lV (D1 (a:=(i:Int)) (b:=(s.len:Int)) rfl rfl (fun _=>aB)) ?_;refine eN ?_
 by_cases W4:(i:Int)<(s.len:Int)
 ·
  repeat refine D8 ?_
  refine cG (by exact bT W4) ?_;refine M6 ?_;refine qB ?_;refine rG ?_;refine B8 ?_;refine aZ ?_;refine eN ?_
  repeat refine D8 ?_
  refine sV mixed zK ?_;replace H:=H.drew
  refine A7 (L4) ?_;refine A7 (L4) ?_;refine A7 (L4) ?_;have iQ:=((hs.up H (fun _=>U9 _))).addr (by (try simp only[Sl.cut]);omega)
  obtain⟨ab3,ao4,iQ⟩:=iQ
  refine A7 (kY i rfl rfl aX iQ zO (by (try simp only[Sl.cut]);omega)) ?_;refine A7 (GZ (s:=s) (k:=i) (hs.up H (fun _=>U9 _)) iQ rfl pA (by (try simp only[Sl.cut]);omega)) ?_;refine A7 (L4) ?_;refine A7 (L4) ?_;have ah8:=((hu.up H (fun _=>U9 _))).addr (by (try simp only[Sl.cut]);omega)
  obtain⟨ab6,ao7,ah8⟩:=ah8
  refine A7 (kY i rfl rfl aX ah8 zO (by (try simp only[Sl.cut]);omega)) ?_;refine A7 (GZ (s:=u) (k:=i) (hu.up H (fun _=>U9 _)) ah8 rfl pA (by (try simp only[Sl.cut]);omega)) ?_;refine A7 (D1 rfl rfl (fun _=>JV)) ?_;refine A7 (D1 rfl rfl (fun _=>Ct)) ?_;refine A7 (eT) ?_;refine kP ?_;refine rG ?_;refine lV (D1 (a:=(i:Int)) (b:=1) rfl rfl (fun _=>Z9 zO zO)) ?_;refine B8 ?_;refine eN ?_
  refine U7 (i+1,x|||(((s.l).getD i 0)^^^((u.l).getD i 0))) ?_ ?_ ?_
  ·exact⟨rfl,rfl,show V8 (x|||(((s.l).getD i 0)^^^((u.l).getD i 0)))=V8 (x|||(((s.l).getD i 0)^^^((u.l).getD i 0)):UInt8) from congrArg V8 rfl,rfl,show VI ((i:Int)+1)=VI ((i+1:Nat):Int) from congrArg VI zO,zT⟩
  ·refine⟨?_,?_⟩
   ·try dsimp only
    exact⟨zO,by rw[Qz,hx,Ra i zO zO]⟩
   exact H
  show s.len-(i+1:Nat)<s.len-i;omega
 
 repeat refine D8 ?_
 refine cH (by exact bF W4) ?_;refine W8 ?_;refine rG ?_;refine B8 ?_;refine lV (D1 (a:=(x.toNat:Int)) (b:=0) rfl rfl (fun _=>JT)) ?_;refine aZ ?_;refine eN ?_
 refine o8 ?_
 refine w9 (v:=.bool (decide ((x.toNat:Int)=0))) Tryz.results106 rfl ?_
 refine⟨_,rfl,?_⟩
 refine⟨?_,H⟩
 congr 1
 have iR:i=s.len:=by omega
 subst iR
 rw[V9 zO,V9 zO]at hx
 rw[decide_eq_decide, <-hx, <-DB]
 have z:(0:UInt8).toNat=0:=rfl
 rw[z]
 omega
def V4(k:List UInt8):List UInt8:=k++replicate (64-k.length) 0
def S1(k:List UInt8):List UInt8:=if 64<k.length then J0 k else k
def S2(k:List UInt8)(m:UInt8):List UInt8:=(V4 k).map (· ^^^ m)
def jO(k b:List UInt8):List UInt8:=J0 (S2 (S1 k) 92++J0 (S2 (S1 k) 54++b))
theorem HC(k b:List UInt8):(jO k b).length=32:=by simp[jO,gX]
theorem WM(k:List UInt8)(h:k.length<=64):(V4 k).length=64:=by simp[V4];omega
theorem WN(k:List UInt8)(n:Nat)(hn:k.length=n)(h:n<=64):k.take (min n 64)++(replicate 64 (0:UInt8)).drop (min n 64)=V4 k:=by
 rw[jU h,V9 zO,List.drop_replicate,V4,hn]
def Z2(l:List UInt8)(m:UInt8)(i:Nat):List UInt8:=(l.take i).map (· ^^^ m)++l.drop i
theorem WO(l:List UInt8)(m:UInt8)(i:Nat)(h:i<=l.length):(Z2 l m i).length=l.length:=by simp[Z2];omega
theorem WP(l:List UInt8)(m:UInt8)(i:Nat)(h:i<=l.length):((l.take i).map (· ^^^ m)).length=i:=by simp;omega
theorem Rc(l:List UInt8)(m:UInt8)(i:Nat)(h:i<l.length):(Z2 l m i).getD i 0=l.getD i 0:=by
 have hl:=WP l m i zO
 rw[Z2,l6,l6,L7 zO,hl,bP,Q5,t8]
theorem WQ(l:List UInt8)(m:UInt8)(i:Nat)(h:i<l.length):(Z2 l m i).set i ((Z2 l m i).getD i 0^^^m)=Z2 l m (i+1):=by
 have hl:=WP l m i zO
 rw[Rc l m i h]
 unfold Z2
 rw[dA _ _ zO,hl,bP,JD h,List.set_cons_zero,DE,lI,H9]
 simp[l6,h]
theorem WR(w0:World)(s:Sl)(hs:s.ok w0)(m:UInt8):
 Ret Tryz.prog 148 [s.v,V8 m] w0 fun v w'=>∃b,v=.slice (hd (some b)) 64 64/\Hp w0 w' [] [.own (some b) 64 64 ((S2 (S1 s.l) m).map V8) 5 1]:=by
 refine T7 Tryz.func148 rfl Tryz.ntmps148 (by simp) ?_
 have H:=Hp.refl w0 []
 have rF:=hs.ln
 have N2:=hs.mx
 refine rG ?_;refine aZ ?_;refine eN ?_
 refine rG ?_;refine B8 ?_;refine lV (aC aX rfl) ?_;refine lV (D1 (a:=(s.len:Int)) (b:=64) rfl rfl (fun _=>zY)) ?_;refine eN ?_
 by_cases hc1:64<(s.len:Int)
 ·
  repeat refine D8 ?_
  refine cG (by exact bT hc1) ?_;refine rG ?_;refine B8 ?_;refine A3 (NB ([s.v]) H KM KL rfl (by simp[Value.oneCell',Sl.v]) rfl (by decide) (fun b2 w H U5=>?_));replace H:Hp _ w _ ([.own (some b2) 1 1 ([s.v]) 45 1]):=H
  refine A3 (N4 Tryz.func87 rfl rfl rfl (Qu _ _ s (H.own (i:=0) rfl) (hs.up H (fun _=>U9 _))) ?_);rintro _ w ⟨rfl,Hc⟩
  replace H:Hp _ w _ ([_]):=H.call Hc
  clear Hc
  refine A3 (W9 H aW (fun b3 w H z6=>?_));replace H:Hp _ w _ ([_,.blk b3 ((replicate 32 (0:UInt8)).map V8) 36]):=H
  refine A3 (nC (l':=J0 (s.l)) H (i:=1) rfl rfl rfl jC (show(replicate 32 (0:UInt8)).length=32 from(jV ..)) (show(J0 (s.l)).length=32 from gX _) (fun w H=>?_));replace H:Hp _ w _ ([_,.blk b3 ((J0 (s.l)).map V8) 36]):=H
  refine eN ?_
  refine rG ?_;refine lV (yN (h:=32) (m:=32) (lv:=none) (hv:=none) (mv:=none) rfl sW rfl rfl rfl (fun w=>yO w)) ?_;refine aZ ?_;refine eN ?_
  refine rG ?_;refine A3 (WB 64 H eY pC rfl rfl zO zO zO (fun b4 w H hb4=>?_));replace H:Hp _ w _ ([_,_,.own (some b4) 64 64 ((replicate 64 (0:UInt8)).map V8) 5 1]):=H
  refine aZ ?_;refine eN ?_
  refine rG ?_;refine B8 ?_;refine B8 ?_;refine A3 (WE (s:=(⟨some ⟨b3,0,none⟩,32,32,J0 (s.l)⟩:Sl)) H (i:=2) rfl Tryz.underlying45 Tryz.underlying45 xB rfl rfl (H.slBlkA (i:=1) rfl 32 (show(J0 (s.l)).length=32 from gX _) (by decide)) zO (fun w H=>?_));replace H:Hp _ w _ ([_,_,.own (some b4) 64 64 (((J0 (s.l)).take (min 32 64)++(replicate 64 (0:UInt8)).drop (min 32 64)).map V8) 5 1]):=H
  refine eN ?_
  have hkl:(J0 (s.l)).length<=64:=by first|omega|simp[gX]
  have en:(J0 (s.l)).take (min 32 64)++(replicate 64 (0:UInt8)).drop (min 32 64)=V4 (J0 (s.l)):=WN _ _ (by first|omega|simp[gX]) zO
  rw[en]at H;clear en
  replace H:Hp _ w _ ([_,_,.own (some b4) 64 64 ((V4 (J0 (s.l))).map V8) 5 1]):=H
  refine rG ?_;refine B8 ?_;refine lV (aC aX rfl) ?_;refine B8 ?_;refine eN ?_
  refine qB ?_;repeat refine D8 ?_
  refine aA (fun(i:Nat)=>[(1,V8 m),(6,.slice (hd (some b4)) 64 64),(20,VI 64),(21,VI (i:Int))])
   (fun(i:Nat) w=>(i<=64)/\Hp w0 w [] ([.own (some b2) 1 1 ([s.v]) 45 1,.blk b3 ((J0 (s.l)).map V8) 36,.own (some b4) 64 64 ((Z2 (V4 (J0 (s.l))) m i).map V8) 5 1]))
   (fun(i:Nat)=>64-i) 0 ⟨rfl,rfl,rfl,rfl,zT⟩ ⟨zO,H⟩ ?_
  clear H
  rintro i τ w ⟨hi,H⟩
  have hpl:=WM (J0 (s.l)) hkl
  have fT:=WO (V4 (J0 (s.l))) m i zO
  refine rG ?_;refine lV (D1 (a:=(i:Int)) (b:=64) rfl rfl (fun _=>aB)) ?_;refine eN ?_
  by_cases hc5:(i:Int)<64
  ·
   repeat refine D8 ?_
   refine cG (by exact bT hc5) ?_;refine M6 ?_;refine qB ?_;refine rG ?_;refine B8 ?_;refine aZ ?_;refine eN ?_
   refine rG ?_;refine B8 ?_;refine B8 ?_;obtain⟨ab6,ah7⟩:=H.ownAddr (i:=2) rfl zO
   refine lV (kY i rfl rfl aX ah7 zO (by (try simp only[Sl.cut]);omega)) ?_;refine lV (GZ (s:=⟨hd (some b4),64,64,Z2 (V4 (J0 (s.l))) m i⟩) (k:=i) (H.slOwn (i:=2) rfl) ah7 rfl pA (by (try simp only[Sl.cut]);omega)) ?_;refine B8 ?_;refine lV (D1 rfl rfl (fun _=>JV)) ?_;refine lV (kY i rfl rfl aX ah7 zO (by (try simp only[Sl.cut]);omega)) ?_;refine A3 (WD (u:=((Z2 (V4 (J0 (s.l))) m i).getD i 0)^^^m) (k:=i) H (i:=2) rfl rfl ah7 rfl xB zO (fun w H=>?_));replace H:Hp _ w _ ([_,_,.own (some b4) 64 64 (((Z2 (V4 (J0 (s.l))) m i).set i (((Z2 (V4 (J0 (s.l))) m i).getD i 0)^^^m)).map V8) 5 1]):=H
   refine eN ?_
   refine rG ?_;refine lV (D1 (a:=(i:Int)) (b:=1) rfl rfl (fun _=>Z9 zO zO)) ?_;refine B8 ?_;refine eN ?_
   have en:=WQ (V4 (J0 (s.l))) m i zO
   rw[en]at H;clear en
   refine U7 (i+1) ?_ ?_ ?_
   ·exact⟨rfl,rfl,rfl,show VI ((i:Int)+1)=VI ((i+1:Nat):Int) from congrArg VI zO,zT⟩
   ·refine⟨?_,?_⟩
    ·try dsimp only
     exact by omega
    exact H
   show 64-(i+1:Nat)<64-i;omega
  
  repeat refine D8 ?_
  refine cH (by exact bF hc5) ?_;refine W8 ?_;refine rG ?_;refine B8 ?_;refine aZ ?_;refine eN ?_
  refine o8 ?_
  refine w9 (v:=.slice (hd (some b4)) 64 64) Tryz.results148 rfl ?_
  refine⟨_,rfl,?_⟩
  have iR:i=64:=by omega
  subst iR
  have e2:Z2 (V4 (J0 (s.l))) m 64=S2 (S1 s.l) m:=by
   rw[Z2,V9 zO,List.drop_of_length_le zO,Z5,S1,if_pos zO,S2]
  rw[e2]at H
  exact⟨_,rfl,H.sub (.cons _ (.cons _ (.cons_cons _ (P4 _))))⟩
 
 repeat refine D8 ?_
 refine cH (by exact bF hc1) ?_;refine M6 ?_;refine rG ?_;refine A3 (WB 64 H eY pC rfl rfl zO zO zO (fun b8 w H hb8=>?_));replace H:Hp _ w _ ([.own (some b8) 64 64 ((replicate 64 (0:UInt8)).map V8) 5 1]):=H
 refine aZ ?_;refine eN ?_
 refine rG ?_;refine B8 ?_;refine B8 ?_;refine A3 (WE (s:=s) H (i:=0) rfl Tryz.underlying45 Tryz.underlying45 xB rfl rfl (hs.up H (fun _=>U9 _)) zO (fun w H=>?_));replace H:Hp _ w _ ([.own (some b8) 64 64 (((s.l).take (min s.len 64)++(replicate 64 (0:UInt8)).drop (min s.len 64)).map V8) 5 1]):=H
 refine eN ?_
 have hkl:(s.l).length<=64:=by first|omega|simp[gX]
 have en:(s.l).take (min s.len 64)++(replicate 64 (0:UInt8)).drop (min s.len 64)=V4 (s.l):=WN _ _ (by first|omega|simp[gX]) zO
 rw[en]at H;clear en
 replace H:Hp _ w _ ([.own (some b8) 64 64 ((V4 (s.l)).map V8) 5 1]):=H
 refine rG ?_;refine B8 ?_;refine lV (aC aX rfl) ?_;refine B8 ?_;refine eN ?_
 refine qB ?_;repeat refine D8 ?_
 refine aA (fun(i:Nat)=>[(1,V8 m),(6,.slice (hd (some b8)) 64 64),(20,VI 64),(21,VI (i:Int))])
  (fun(i:Nat) w=>(i<=64)/\Hp w0 w [] ([.own (some b8) 64 64 ((Z2 (V4 (s.l)) m i).map V8) 5 1]))
  (fun(i:Nat)=>64-i) 0 ⟨rfl,rfl,rfl,rfl,zT⟩ ⟨zO,H⟩ ?_
 clear H
 rintro i τ w ⟨hi,H⟩
 have hpl:=WM (s.l) hkl
 have fT:=WO (V4 (s.l)) m i zO
 refine rG ?_;refine lV (D1 (a:=(i:Int)) (b:=64) rfl rfl (fun _=>aB)) ?_;refine eN ?_
 by_cases hc9:(i:Int)<64
 ·
  repeat refine D8 ?_
  refine cG (by exact bT hc9) ?_;refine M6 ?_;refine qB ?_;refine rG ?_;refine B8 ?_;refine aZ ?_;refine eN ?_
  refine rG ?_;refine B8 ?_;refine B8 ?_;obtain⟨ab10,ah11⟩:=H.ownAddr (i:=0) rfl zO
  refine lV (kY i rfl rfl aX ah11 zO (by (try simp only[Sl.cut]);omega)) ?_;refine lV (GZ (s:=⟨hd (some b8),64,64,Z2 (V4 (s.l)) m i⟩) (k:=i) (H.slOwn (i:=0) rfl) ah11 rfl pA (by (try simp only[Sl.cut]);omega)) ?_;refine B8 ?_;refine lV (D1 rfl rfl (fun _=>JV)) ?_;refine lV (kY i rfl rfl aX ah11 zO (by (try simp only[Sl.cut]);omega)) ?_;refine A3 (WD (u:=((Z2 (V4 (s.l)) m i).getD i 0)^^^m) (k:=i) H (i:=0) rfl rfl ah11 rfl xB zO (fun w H=>?_));replace H:Hp _ w _ ([.own (some b8) 64 64 (((Z2 (V4 (s.l)) m i).set i (((Z2 (V4 (s.l)) m i).getD i 0)^^^m)).map V8) 5 1]):=H
  refine eN ?_
  refine rG ?_;refine lV (D1 (a:=(i:Int)) (b:=1) rfl rfl (fun _=>Z9 zO zO)) ?_;refine B8 ?_;refine eN ?_
  have en:=WQ (V4 (s.l)) m i zO
  rw[en]at H;clear en
  refine U7 (i+1) ?_ ?_ ?_
  ·exact⟨rfl,rfl,rfl,show VI ((i:Int)+1)=VI ((i+1:Nat):Int) from congrArg VI zO,zT⟩
  ·refine⟨?_,?_⟩
   ·try dsimp only
    exact by omega
   exact H
  show 64-(i+1:Nat)<64-i;omega
 
 repeat refine D8 ?_
 refine cH (by exact bF hc9) ?_;refine W8 ?_;refine rG ?_;refine B8 ?_;refine aZ ?_;refine eN ?_
 refine o8 ?_
 refine w9 (v:=.slice (hd (some b8)) 64 64) Tryz.results148 rfl ?_
 refine⟨_,rfl,?_⟩
 have iR:i=64:=by omega
 subst iR
 have e2:Z2 (V4 (s.l)) m 64=S2 (S1 s.l) m:=by
  rw[Z2,V9 zO,List.drop_of_length_le zO,Z5,S1,if_neg zO,S2]
 rw[e2]at H
 exact⟨_,rfl,H.sub (.cons_cons _ (P4 _))⟩
theorem Rd(w0:World)(s u:Sl)(hs:s.ok w0)(hu:u.ok w0):
  Ret Tryz.prog 99 [s.v,u.v] w0 fun v w'=>v=.agg ((jO s.l u.l).map V8).toArray/\Hp w0 w' [] []:=by
 refine T7 Tryz.func99 rfl Tryz.ntmps99 (by simp) ?_
 have H:=Hp.refl w0 []
 refine rG ?_;refine A3 (W9 H aW (fun b1 w H P8=>?_));replace H:Hp _ w _ ([.blk b1 ((replicate 32 (0:UInt8)).map V8) 36]):=H
 refine eN ?_
 refine rG ?_;refine B8 ?_;refine A3 (N4 Tryz.func148 rfl rfl rfl (WR _ s (hs.up H (fun _=>U9 _)) ((54:UInt8))) ?_);rintro _ w ⟨b2,rfl,Hc⟩
 replace H:Hp _ w _ ([_,.own (some b2) 64 64 ((S2 (S1 (s.l)) ((54:UInt8))).map V8) 5 1]):=H.call Hc
 clear Hc
 refine B8 ?_;refine A3 (NB ([.slice (hd (some b2)) 64 64,u.v]) H KM KL rfl (by simp[Value.oneCell',Sl.v]) rfl (by decide) (fun b3 w H z6=>?_));replace H:Hp _ w _ ([_,_,.own (some b3) 2 2 ([.slice (hd (some b2)) 64 64,u.v]) 45 1]):=H
 refine A3 (N4 Tryz.func87 rfl rfl rfl (WJ _ _ (⟨hd (some b2),64,64,S2 (S1 (s.l)) ((54:UInt8))⟩) u (H.own (i:=2) rfl) (H.slOwn (i:=1) rfl) (hu.up H (fun _=>U9 _))) ?_);rintro _ w ⟨rfl,Hc⟩
 replace H:Hp _ w _ ([_,_,_]):=H.call Hc
 clear Hc
 refine A3 (W9 H aW (fun b4 w H hb4=>?_));replace H:Hp _ w _ ([_,_,_,.blk b4 ((replicate 32 (0:UInt8)).map V8) 36]):=H
 refine A3 (nC (l':=J0 ((S2 (S1 (s.l)) ((54:UInt8)))++u.l)) H (i:=3) rfl rfl rfl jC (show(replicate 32 (0:UInt8)).length=32 from(jV ..)) (show(J0 ((S2 (S1 (s.l)) ((54:UInt8)))++u.l)).length=32 from gX _) (fun w H=>?_));replace H:Hp _ w _ ([_,_,_,.blk b4 ((J0 ((S2 (S1 (s.l)) ((54:UInt8)))++u.l)).map V8) 36]):=H
 refine eN ?_
 repeat refine D8 ?_
 refine Ih H (fun j=>Nat.ble 0 j) mixed fun H=>?_
 have HS:=H
 refine zA 0 rfl (fun w=>L4) ?_;refine zA 2 rfl (fun w=>yN (h:=32) (m:=32) (lv:=none) (hv:=none) (mv:=none) rfl sW rfl rfl rfl (fun w=>yO w)) ?_;refine zU 1 rfl (N4 Tryz.func148 rfl rfl rfl (WR _ s (hs.up H (fun _=>U9 _)) ((92:UInt8))) ?_);rintro _ w ⟨b5,rfl,Hc⟩
 replace H:Hp _ w _ ([_,_,_,_,.own (some b5) 64 64 ((S2 (S1 (s.l)) ((92:UInt8))).map V8) 5 1]):=H.call Hc
 clear Hc
 refine⟨fun h=>Bool.noConfusion (h:true=false),?_⟩
 clear HS
 refine zU 3 rfl (NB ([.slice (hd (some b5)) 64 64,(⟨some ⟨b4,0,none⟩,32,32,J0 ((S2 (S1 (s.l)) ((54:UInt8)))++u.l)⟩:Sl).v]) H KM KL rfl (by simp[Value.oneCell',Sl.v]) rfl (by decide) (fun b6 w H hb6=>?_));replace H:Hp _ w _ ([_,_,_,_,_,.own (some b6) 2 2 ([.slice (hd (some b5)) 64 64,(⟨some ⟨b4,0,none⟩,32,32,J0 ((S2 (S1 (s.l)) ((54:UInt8)))++u.l)⟩:Sl).v]) 45 1]):=H
 refine⟨fun h=>Bool.noConfusion (h:true=false),?_⟩
 refine zU 4 rfl (N4 Tryz.func87 rfl rfl rfl (WJ _ _ (⟨hd (some b5),64,64,S2 (S1 (s.l)) ((92:UInt8))⟩) (⟨some ⟨b4,0,none⟩,32,32,J0 ((S2 (S1 (s.l)) ((54:UInt8)))++u.l)⟩:Sl) (H.own (i:=5) rfl) (H.slOwn (i:=4) rfl) (H.slBlkA (i:=3) rfl 32 (show(J0 ((S2 (S1 (s.l)) ((54:UInt8)))++u.l)).length=32 from gX _) (by decide))) ?_);rintro _ w ⟨rfl,Hc⟩
 replace H:Hp _ w _ ([_,_,_,_,_,_]):=H.call Hc
 clear Hc
 refine⟨fun h=>Bool.noConfusion (h:true=false),?_⟩
 refine zU 5 rfl (nC (l':=J0 ((S2 (S1 (s.l)) ((92:UInt8)))++(J0 ((S2 (S1 (s.l)) ((54:UInt8)))++u.l)))) H (i:=0) rfl rfl rfl jC (show(replicate 32 (0:UInt8)).length=32 from(jV ..)) (show(J0 ((S2 (S1 (s.l)) ((92:UInt8)))++(J0 ((S2 (S1 (s.l)) ((54:UInt8)))++u.l)))).length=32 from gX _) (fun w H=>?_));replace H:Hp _ w _ ([.blk b1 ((J0 ((S2 (S1 (s.l)) ((92:UInt8)))++(J0 ((S2 (S1 (s.l)) ((54:UInt8)))++u.l)))).map V8) 36,_,_,_,_,_]):=H
 refine⟨fun h=>Bool.noConfusion (h:true=false),?_⟩
 refine Ig zK ?_;refine o8 ?_
 refine WA (l:=J0 ((S2 (S1 (s.l)) ((92:UInt8)))++(J0 ((S2 (S1 (s.l)) ((54:UInt8)))++u.l)))) Tryz.results99 H (i:=0) rfl rfl aV (show(J0 ((S2 (S1 (s.l)) ((92:UInt8)))++(J0 ((S2 (S1 (s.l)) ((54:UInt8)))++u.l)))).length=32 from gX _) ?_
 refine⟨_,rfl,?_⟩
 exact⟨rfl,H.sub (P4 _)⟩
theorem Re(w0:World)(u:UInt64)(n:Nat)(h1:1<=n)(h8:n<=8)(hf:n=8\/u.toNat<256 ^ n):
  Ret Tryz.prog 98 [.slice none 0 0,L9 u,VI (n:Int)] w0 fun v w'=>∃a cap,v=.tuple #[.slice (hd a) n cap,VI 0]/\Hp w0 w' [] [.own a n cap ((be u.toNat n).map V8) 5 1]:=
 (Qy w0 ⟨none,0,0,[]⟩ (Sl.ok_nil _) u n h1 h8 hf (by simp)).mono fun v w' ⟨a,c,hv,H⟩=>⟨a,c,by simpa using hv,by simpa using H⟩
def s9(l:List (List UInt8)):List UInt8:=l.flatMap fun p=>be p.length 8++p
theorem Rf(l:List (List UInt8))(p:List UInt8):s9 (l++[p])=s9 l++be p.length 8++p:=by simp[s9]
def fr(ps:List Sl)(i:Nat):List UInt8:=s9 ((ps.take i).map Sl.l)
theorem Rg(ps:List Sl)(i:Nat)(p:Sl)(h:ps[i]? =some p):fr ps (i+1)=fr ps i++be p.l.length 8++p.l:=by
 rw[fr,DE,h];simp only[Option.toList_some,lI,U1,List.map_nil,Rf];rfl
theorem Rh(ps:List Sl)(i:Nat)(h:ps.length=i):fr ps i=s9 (ps.map Sl.l):=by rw[fr,V9 zO]
theorem Ri(ps:List Sl):∀i,(fr ps i).length<=(s9 (ps.map Sl.l)).length:=by
 intro i
 have:s9 (ps.map Sl.l)=fr ps i++s9 ((ps.drop i).map Sl.l):=by
  rw[fr,s9,s9,s9, <-List.flatMap_append, <-lI,uY]
 rw[this];simp
theorem Rj(n:Nat)(h:n<18446744073709551616):(UInt64.ofNat n).toNat=n:=by rw[aM];omega
theorem Rk(w0:World)(s:Sl)(hs:s.ok w0)(pa:Option Addr)(pl pc:Nat)(ps:List Sl)(hr:RdS w0 pa (ps.map Sl.v))(hl:ps.length=pl)(M4:∀p∈ps,p.ok w0)(hp63:pl<=1048576)(hB:(s9 (ps.map Sl.l)).length<=1048576):
 Ret Tryz.prog 51 [s.v,.slice pa pl pc] w0 fun v w'=>v=.agg ((jO s.l (s9 (ps.map Sl.l))).map V8).toArray/\Hp w0 w' [] []:=by
 refine T7 Tryz.func51 rfl Tryz.ntmps51 (by simp) ?_
 have H:=Hp.refl w0 []
 refine rG ?_;refine A3 (W9 H aW (fun b1 w H P8=>?_));replace H:Hp _ w _ ([.blk b1 ((replicate 32 (0:UInt8)).map V8) 36]):=H
 refine eN ?_
 refine rG ?_;refine aZ ?_;refine eN ?_
 refine rG ?_;refine B8 ?_;refine lV (aC EJ rfl) ?_;refine B8 ?_;refine eN ?_
 refine qB ?_;repeat refine D8 ?_
 refine Qt (fun(i:Nat) (a:Option Nat) (c:Nat)=>[(0,s.v),(4,.pointer (some ⟨b1,0,none⟩)),(5,.slice (hd a) ((fr ps i).length) c),(10,.slice pa pl pc),(11,VI (pl:Int)),(12,VI (i:Int))])
  (fun(i:Nat) (a:Option Nat) (c:Nat) w=>(i<=pl)/\Hp w0 w [] ([.blk b1 ((replicate 32 (0:UInt8)).map V8) 36,.own a ((fr ps i).length) c ((fr ps i).map V8) 5 1]))
  (fun(i:Nat) (a:Option Nat) (c:Nat)=>pl-i) 0 none 0 ⟨rfl,rfl,rfl,rfl,rfl,rfl,zT⟩ ⟨L8 _,(H.nilEnd 5 1)⟩ ?_
 clear H
 rintro i a c τ w ⟨hi,H⟩
 refine rG ?_;refine lV (D1 (a:=(i:Int)) (b:=(pl:Int)) rfl rfl (fun _=>aB)) ?_;refine eN ?_
 by_cases W4:(i:Int)<(pl:Int)
 ·
  repeat refine D8 ?_
  refine cG (by exact bT W4) ?_;refine M6 ?_;refine qB ?_;refine rG ?_;obtain⟨ab3,ao4,iQ⟩:=(H.rd hr (U9 _)).addr (by simp only[J7];omega)
  refine lV (kY i rfl rfl EJ iQ zO (by (try simp only[Sl.cut]);omega)) ?_;obtain⟨p6,hp7⟩:∃p,ps[i]? =some p:=⟨_,B6 zO⟩
  have hpok8:=M4 p6 (E3 hp7)
  have hpok8n:=hpok8.ln
  have hpok8m:=hpok8.le
  refine lV (Ql (k:=i) (H.rd hr (U9 _)) iQ rfl EI hp7) ?_;refine aZ ?_;refine eN ?_
  have lW:=Rg ps i p6 hp7
  have hs2:=Ri ps (i+1)
  have hs3:(fr ps (i+1)).length=(fr ps i).length+8+p6.l.length:=by rw[lW];simp[NG];omega
  refine rG ?_;refine B8 ?_;refine lV (aC aX rfl) ?_;refine lV (iZ (v:=((UInt64.ofNat p6.len).toNat:Int)) Tryz.underlying3 Tryz.underlying37 rfl (HA p6.len zO)) ?_;refine A3 (N4 Tryz.func98 rfl rfl rfl (Re _ (UInt64.ofNat p6.len) 8 zO zO (.inl rfl)) ?_);rintro _ w ⟨a9,c10,rfl,Hc⟩
  replace H:Hp _ w _ ([_,_,.own a9 8 c10 ((be (UInt64.ofNat p6.len).toNat 8).map V8) 5 1]):=H.call Hc
  clear Hc
  refine B8 ?_;refine lV (cO rfl rfl) ?_;refine lV (cO rfl rfl) ?_;refine aZ ?_;refine aZ ?_;refine eN ?_
  refine rG ?_;refine B8 ?_;refine B8 ?_;refine A3 (BW (s:=⟨hd a9,8,c10,be (UInt64.ofNat p6.len).toNat 8⟩) (l':=fr ps i++(be (UInt64.ofNat p6.len).toNat 8)) (len':=(fr ps i).length+8) rfl rfl H (i:=1) rfl eY Tryz.underlying45 rfl rfl (H.slOwn (i:=2) rfl) zO (fun a11 c12 w H=>?_));replace H:Hp _ w _ ([_,.own a11 ((fr ps i).length+8) c12 ((fr ps i++(be (UInt64.ofNat p6.len).toNat 8)).map V8) 5 1,_]):=H
  refine B8 ?_;refine A3 (BW (s:=p6) (l':=fr ps (i+1)) (len':=(fr ps (i+1)).length) (by rw[lW,Rj _ zO,hpok8n]) zO H (i:=1) rfl eY Tryz.underlying45 rfl rfl (hpok8.up H (fun _=>U9 _)) zO (fun a13 c14 w H=>?_));replace H:Hp _ w _ ([_,.own a13 ((fr ps (i+1)).length) c14 ((fr ps (i+1)).map V8) 5 1,_]):=H
  refine aZ ?_;refine eN ?_
  refine rG ?_;refine lV (D1 (a:=(i:Int)) (b:=1) rfl rfl (fun _=>Z9 zO zO)) ?_;refine B8 ?_;refine eN ?_
  refine U7 (i+1,a13,c14) ?_ ?_ ?_
  ·exact⟨rfl,rfl,rfl,rfl,rfl,show VI ((i:Int)+1)=VI ((i+1:Nat):Int) from congrArg VI zO,zT⟩
  ·refine⟨?_,?_⟩
   ·try dsimp only
    exact by omega
   exact H.sub (.cons_cons _ (.cons_cons _ (P4 _)))
  show pl-(i+1:Nat)<pl-i;omega
 
 repeat refine D8 ?_
 refine cH (by exact bF W4) ?_;refine W8 ?_;have iR:i=pl:=by omega
 subst iR
 refine rG ?_;refine B8 ?_;refine B8 ?_;refine A3 (N4 Tryz.func99 rfl rfl rfl (Rd _ s ⟨hd a,(fr ps i).length,c,fr ps i⟩ (hs.up H (fun _=>U9 _)) (H.slOwn (i:=1) rfl)) ?_);rintro _ w ⟨rfl,Hc⟩
 replace H:Hp _ w _ ([_,_]):=H.call Hc
 clear Hc
 refine A3 (nC (l':=jO (s.l) (fr ps i)) H (i:=0) rfl rfl rfl jC (show(replicate 32 (0:UInt8)).length=32 from(jV ..)) (show(jO (s.l) (fr ps i)).length=32 from HC _ _) (fun w H=>?_));replace H:Hp _ w _ ([.blk b1 ((jO (s.l) (fr ps i)).map V8) 36,_]):=H
 refine eN ?_
 refine o8 ?_
 refine WA (l:=jO (s.l) (fr ps i)) Tryz.results51 H (i:=0) rfl rfl aV (show(jO (s.l) (fr ps i)).length=32 from HC _ _) ?_
 refine⟨_,rfl,?_⟩
 rw[Rh ps i hl]
 exact⟨rfl,H.sub (P4 _)⟩
theorem WS{t n:Nat}{g:Nat->V}{L:Nat->List UInt8}(H:Wd X X h0 lv 16 w w)(hg:∀i,i<n->∃q,g i=.bl q (L i))(hv:repv X lv 16 (.sl t 1 n g) x):
  ∃a cap,x=.slice a n cap/\∃ps:List Sl,RdS w a (ps.map Sl.v)/\ps.length=n/\(∀p∈ps,p.ok w)/\ps.map Sl.l=(List.range n).map L:=by
 have hq:∀i,∃q,i<n->g i=.bl q (L i):=fun i=>by
  by_cases hi:i<n
  ·obtain⟨q,h⟩:=hg i hi;exact⟨q,fun _=>h⟩
  exact⟨0,fun h=>absurd h hi⟩
 have hq':=fun i=>(hq i).choose_spec
 obtain⟨a,cap,e1,_,_,ps,p1,p2,p3⟩:=Pa (g:=L) (q:=fun i=>(hq i).choose) H ((VEq.sl t 1 n g _ fun i hi=>hq' i hi).repv hv)
 refine⟨a,cap,e1,ps.zipIdx.map fun p=>⟨p.1.1,(L p.2).length,p.1.2,L p.2⟩,?_,by simp[p1],fun p hp=>?_,?_⟩
 ·rw[List.map_map];exact p2
 ·obtain⟨y,y1,rfl⟩:=J6.1 hp
  obtain⟨z,i⟩:=y
  have hz:ps[i]? =some z:=by
   obtain⟨k,hk⟩:=CZ y1
   rw[List.getElem?_zipIdx]at hk
   obtain⟨p,z1,z2⟩:=eL.1 hk
   simp only[J5,G6]at z2
   obtain⟨rfl,rfl⟩:=z2
   exact z1
  obtain⟨r1,r2,r3⟩:=p3 i z hz
  exact⟨r3,rfl,r1,by have:maxLen=9223372036854775807:=rfl;simp only;omega⟩
 apply V7
 intro k
 rw[List.map_map,Y6,List.getElem?_zipIdx,Y6]
 by_cases hk:k<n
 ·rw[JF hk,B6 zO];simp
 rw[V6 zO,V6 (by simp;omega)];rfl
theorem WT(k:By)(t t' n:Nat)(g:Nat->V)(L:Nat->By)(hg:∀i,i<n->∃q,g i=.bl q (L i))(hn:n<=1048576)(hB:(s9 ((List.range n).map L)).length<=1048576):
  Sat Tryz.prog 51 [.bl t k,.sl t' 1 n g] [] (fun out A0=>A0=[]/\out=.bs 32 (jO k (s9 ((List.range n).map L)))):=uB fun X w vs h1 h2 H=>by
 obtain⟨x,y,rfl⟩:∃x y,vs=[x,y]:=by
  match vs,h1 with
 |[x,y],_=>exact⟨x,y,rfl⟩
 obtain⟨a,cap,rfl,c1,c2,c3⟩:=yG H (h2 0 _ _ rfl rfl)
 obtain⟨pa,pc,rfl,ps,d1,d2,d3,d4⟩:=WS H hg (h2 1 _ _ rfl rfl)
 have:=Rk w ⟨a,k.length,cap,k⟩ ⟨c3,rfl,c1,by have:maxLen=9223372036854775807:=rfl;simp only;omega⟩ pa n pc ps d1 d2 d3 hn (by rw[d4];exact hB)
 refine this.mono fun v w' ⟨hv,Hk⟩=>⟨⟨_,⟨rfl,rfl⟩,?_⟩,Hk⟩
 rw[hv,d4]
 exact⟨_,rfl,HC _ _,by simp⟩
theorem Rl(t n:Nat)(g:Nat->V)(L:Nat->By)(hg:∀i,i<n->∃q,g i=.bl q (L i))(hn:n<=1048576):
  Sat Tryz.prog 87 [.sl t 1 n g] [] (fun out A0=>A0=[]/\out=.bs 32 (J0 (((List.range n).map L).flatten))):=uB fun X w vs h1 h2 H=>by
 obtain⟨y,rfl⟩:∃y,vs=[y]:=List.length_eq_one_iff.1 h1
 obtain⟨pa,pc,rfl,ps,d1,d2,d3,d4⟩:=WS H hg (h2 0 _ _ rfl rfl)
 have:=Qv w pa n pc ps d1 d2 d3 zO
 refine this.mono fun v w' ⟨hv,Hk⟩=>⟨⟨_,⟨rfl,rfl⟩,?_⟩,Hk⟩
 have e:fC ps=((List.range n).map L).flatten:=by rw[<-d4];simp[fC,List.flatMap]
 rw[hv, <-e]
 exact⟨_,rfl,gX _,by simp⟩
theorem WU(t t':Nat)(a b:By):Sat Tryz.prog 106 [.bl t a,.bl t' b] [] (fun out A0=>A0=[]/\out=.b (decide (a=b))):=uB fun X w vs h1 h2 H=>by
 obtain⟨x,y,rfl⟩:∃x y,vs=[x,y]:=by
  match vs,h1 with
 |[x,y],_=>exact⟨x,y,rfl⟩
 have mx:maxLen=9223372036854775807:=rfl
 obtain⟨c,cap,rfl,c1,c2,c3⟩:=yG H (h2 0 _ _ rfl rfl)
 obtain⟨d,dap,rfl,d1,d2,d3⟩:=yG H (h2 1 _ _ rfl rfl)
 have:=Rb w ⟨c,a.length,cap,a⟩ ⟨d,b.length,dap,b⟩ ⟨c3,rfl,c1,by simp only;omega⟩ ⟨d3,rfl,d1,by simp only;omega⟩
 refine this.mono fun v w' ⟨hv,Hk⟩=>⟨⟨_,⟨rfl,rfl⟩,?_⟩,Hk⟩
 rw[hv];rfl
theorem Rm(v:Int):Sat Tryz.prog 149 [.i .i64 v] [] (fun out A0=>A0=[]/\(∃x,out=.i .u64 x/\0<=x/\x<18446744073709551616)):=by
 refine cF Tryz.func149 fun X0 w0 hX=>?_
 refine rS 0 fun hv=>?_
 replace hv:=wI hv
 exact xW hX (.i .u64 (u64.wrap ((ofInt 64 (u64.wrap ((u64.wrap v)*2 ^ (min (1:Int).toNat 64)))^^^ofInt 64 (u64.wrap (v.fdiv (2 ^ (min (63:Int).toNat 64))))).toNat:Int))) ⟨rfl,rfl,⟨_,rfl,by first|omega|exact P3 _|exact pZ _|(simp[IntKind.wrap,IntKind.bits,IntKind.signed];omega)⟩⟩
theorem NH(v:Int):Sat Tryz.prog 49 [.i .i64 v] [] (fun out A0=>A0=[]/\(∃x,out=.i .u64 x/\0<=x/\x<18446744073709551616)):=by
 refine cF Tryz.func49 fun X0 w0 hX=>?_
 refine rS 0 fun hv=>?_
 replace hv:=wI hv
 refine cB (v<0) ?_ ?_<;>intro h1
 ·exact xW hX (.i .u64 (u64.wrap ((u64.wrap (2*(u64.wrap (i64.wrap (0-(i64.wrap (v+1)))))))+1))) ⟨rfl,rfl,⟨_,rfl,by first|omega|exact P3 _|exact pZ _|(simp[IntKind.wrap,IntKind.bits,IntKind.signed];omega)⟩⟩
 exact xW hX (.i .u64 (u64.wrap (2*(u64.wrap v)))) ⟨rfl,rfl,⟨_,rfl,by first|omega|exact P3 _|exact pZ _|(simp[IntKind.wrap,IntKind.bits,IntKind.signed];omega)⟩⟩
theorem NI(v:Int):Sat Tryz.prog 104 [.i .u64 v] [] (fun out A0=>A0=[]/\(∃x,out=.i .i64 x/\ -9223372036854775808<=x/\x<9223372036854775808)):=by
 refine cF Tryz.func104 fun X0 w0 hX=>?_
 refine rS 0 fun hv=>?_
 replace hv:=wU hv
 exact xW hX (.i .i64 (i64.wrap ((ofInt 64 (i64.wrap (v.fdiv (2 ^ (min (1:Int).toNat 64))))^^^ofInt 64 (i64.wrap (0-(i64.wrap (u64.wrap ((ofInt 64 v&&&ofInt 64 1).toNat:Int)))))).toNat:Int))) ⟨rfl,rfl,⟨_,rfl,by first|omega|exact P3 _|exact pZ _|(simp[IntKind.wrap,IntKind.bits,IntKind.signed];omega)⟩⟩
theorem NJ(v:Int):Sat Tryz.prog 90 [.i .u64 v] [] (fun out A0=>A0=[]/\(∃x,out=.i .i64 x/\ -9223372036854775808<=x/\x<9223372036854775808)):=by
 refine cF Tryz.func90 fun X0 w0 hX=>?_
 refine rS 0 fun hv=>?_
 replace hv:=wU hv
 refine cB ((v.tmod 2)=1) ?_ ?_<;>intro h1
 ·exact xW hX (.i .i64 (i64.wrap ((i64.wrap (0-(i64.wrap (u64.wrap (v.tdiv 2)))))-1))) ⟨rfl,rfl,⟨_,rfl,by first|omega|exact P3 _|exact pZ _|(simp[IntKind.wrap,IntKind.bits,IntKind.signed];omega)⟩⟩
 exact xW hX (.i .i64 (i64.wrap (u64.wrap (v.tdiv 2)))) ⟨rfl,rfl,⟨_,rfl,by first|omega|exact P3 _|exact pZ _|(simp[IntKind.wrap,IntKind.bits,IntKind.signed];omega)⟩⟩
theorem Rn{v:Int}(h0:0<=v)(hv:v*128 ^ j<18446744073709551616):v<18446744073709551616:=by
 have hp:(0:Int)<128 ^ j:=Int.pow_pos zO
 have h2:v*1<=v*128 ^ j:=Int.mul_le_mul_of_nonneg_left zO h0
 omega
theorem vD{x:V}{v b:Int}(h:0<=v/\v<18446744073709551616)(hb:b=v / 128)(e:x=.i .u64 (u64.wrap (v.tdiv 128)):=by kernel_rfl):VEq x (.i .u64 b):=.of_eq (by rw[e,hb,Int.tdiv_eq_ediv_of_nonneg h.1,gT zO])
theorem WV(k n:Int)(h:0<n): -n<k.tmod n/\k.tmod n<n:=by
 have h1:=Int.tmod_lt_of_pos k h
 have h2: -(k.tmod n)<n:=by rw[<-Int.neg_tmod];exact Int.tmod_lt_of_pos (-k) h
 exact⟨zO,h1⟩
theorem NK(d:Int):Sat Tryz.prog 68 [.i .i64 d] [] (fun out A0=>A0=[]/\(∃p,out=.b p)):=by
 refine cF Tryz.func68 fun X0 w0 hX=>?_
 refine cB (10<=d) ?_ ?_<;>intro h1
 ·exact xW hX (.b (decide (d<=17))) ⟨rfl,rfl,⟨_,rfl⟩⟩
 exact xW hX (.b false) ⟨rfl,rfl,⟨_,rfl⟩⟩
theorem WW(d:Int):Sat Tryz.prog 65 [.i .i64 d] [] (fun out A0=>A0=[]/\(∃x e,out=A2 [.i .u8 x,.i .i64 e])):=by
 refine cF Tryz.func65 fun X0 w0 hX=>?_
 refine cB (d=2) ?_ ?_<;>intro h1
 ·refine O1 (d=2) h1 ?_
  exact xW hX (A2 [.i .u8 1,.i .i64 0]) ⟨rfl,rfl,⟨_,_,rfl⟩⟩
 refine cB (d=4) ?_ ?_<;>intro h2
 ·refine O1 (d=4) h2 ?_
  exact xW hX (A2 [.i .u8 1,.i .i64 0]) ⟨rfl,rfl,⟨_,_,rfl⟩⟩
 refine cB (d=5) ?_ ?_<;>intro h3
 ·refine O1 (d=5) h3 ?_
  exact xW hX (A2 [.i .u8 1,.i .i64 0]) ⟨rfl,rfl,⟨_,_,rfl⟩⟩
 refine cB (d=6) ?_ ?_<;>intro h4
 ·refine O1 (d=6) h4 ?_
  exact xW hX (A2 [.i .u8 1,.i .i64 0]) ⟨rfl,rfl,⟨_,_,rfl⟩⟩
 refine cB (d=9) ?_ ?_<;>intro h5
 ·exact xW hX (A2 [.i .u8 1,.i .i64 0]) ⟨rfl,rfl,⟨_,_,rfl⟩⟩
 refine cB (d=1) ?_ ?_<;>intro h6
 ·refine O1 (d=1) h6 ?_
  exact xW hX (A2 [.i .u8 2,.i .i64 0]) ⟨rfl,rfl,⟨_,_,rfl⟩⟩
 refine cB (d=3) ?_ ?_<;>intro h7
 ·exact xW hX (A2 [.i .u8 2,.i .i64 0]) ⟨rfl,rfl,⟨_,_,rfl⟩⟩
 refine cB (d=7) ?_ ?_<;>intro h8
 ·refine O1 (d=7) h8 ?_
  exact xW hX (A2 [.i .u8 4,.i .i64 0]) ⟨rfl,rfl,⟨_,_,rfl⟩⟩
 refine cB (d=8) ?_ ?_<;>intro h9
 ·exact xW hX (A2 [.i .u8 4,.i .i64 0]) ⟨rfl,rfl,⟨_,_,rfl⟩⟩
 refine cK [] (NK d) ?_
 rintro out A0 ⟨rfl,⟨pr0,rfl⟩⟩
 refine cb (pr0) ?_ ?_<;>intro K0
 ·exact xW hX (A2 [.i .u8 8,.i .i64 0]) ⟨rfl,rfl,⟨_,_,rfl⟩⟩
 exact xW hX (A2 [.i .u8 0,.i .i64 1]) ⟨rfl,rfl,⟨_,_,rfl⟩⟩
theorem WX(a b:Int):Sat Tryz.prog 67 [.i .u8 a,.i .u8 b] [] (fun out A0=>A0=[]/\(∃p,out=.b p)):=by
 refine cF Tryz.func67 fun X0 w0 hX=>?_
 exact xW hX (.b (decide ((u8.wrap ((ofInt 8 b &&& ~~~ ofInt 8 a).toNat:Int))=0))) ⟨rfl,rfl,⟨_,rfl⟩⟩
theorem Ro(a b:Int):Sat Tryz.prog 109 [.i .u8 a,.i .u8 b] [] (fun out A0=>A0=[]/\(∃x,out=.i .u8 x/\0<=x/\x<256)):=by
 refine cF Tryz.func109 fun X0 w0 hX=>?_
 exact xW hX (.i .u8 (u8.wrap ((ofInt 8 a&&&ofInt 8 b).toNat:Int))) ⟨rfl,rfl,⟨_,rfl,UQ _⟩⟩
theorem NL(k n:Int)(hk: -9223372036854775808<=k/\k<9223372036854775808)(hn:0<=n/\n<1000000):Sat Tryz.prog 21 [.i .i64 k,.i .i64 n] [] (fun out A0=>A0=[]/\(∃x,out=.i .i64 x/\0<=x/\(0<n->x<n)/\x<1000000/\(0<=k->k<n->x=k))):=by
 have hm:=WV k n
 refine cF Tryz.func21 fun X0 w0 hX=>?_
 refine cB (n<1) ?_ ?_<;>intro h1
 ·exact xW hX (.i .i64 0) ⟨rfl,rfl,⟨_,rfl,by first|omega|(rw[I8 zO];omega),fun _=>by first|omega|(rw[I8 zO];omega),by first|omega|(rw[I8 zO];omega),fun q0 q1=>by have q2:=Int.tmod_eq_of_lt q0 q1;first|omega|(exfalso;omega)⟩⟩
 refine cC (n≠(0:Int)) ?_
 refine cB ((k.tmod n)<0) ?_ ?_<;>intro h2
 ·exact xW hX (.i .i64 (i64.wrap ((k.tmod n)+n))) ⟨rfl,rfl,⟨_,rfl,by first|omega|(rw[I8 zO];omega),fun _=>by first|omega|(rw[I8 zO];omega),by first|omega|(rw[I8 zO];omega),fun q0 q1=>by have q2:=Int.tmod_eq_of_lt q0 q1;first|omega|(exfalso;omega)⟩⟩
 exact xW hX (.i .i64 (k.tmod n)) ⟨rfl,rfl,⟨_,rfl,by first|omega|(rw[I8 zO];omega),fun _=>by first|omega|(rw[I8 zO];omega),by first|omega|(rw[I8 zO];omega),fun q0 q1=>by have q2:=Int.tmod_eq_of_lt q0 q1;first|omega|(exfalso;omega)⟩⟩
theorem Rp{x v:Int}(hx:0<=x/\x<18446744073709551616)(h:x*256 ^ k<=v):u64.wrap (x.tdiv 256)*256 ^ (k+1)<=v:=by
 have e:u64.wrap (x.tdiv 256)=x / 256:=by
  rw[Int.tdiv_eq_ediv_of_nonneg hx.1,gT ⟨zO,zO⟩]
 have hp:(0:Int)<=256 ^ k:=Int.le_of_lt (Int.pow_pos zO)
 have h1:x / 256*256*256 ^ k<=x*256 ^ k:=Int.mul_le_mul_of_nonneg_right zO hp
 rw[e,Int.pow_succ,Int.mul_comm (256 ^ k) 256, <-Int.mul_assoc]
 omega
theorem HD{x v:Int}(h:x*256 ^ k<=v)(hv:v<18446744073709551616)(hk:k=8)(hx:0<x):False:=by
 subst hk
 have:(256:Int) ^ 8=18446744073709551616:=by decide
 rw[this]at h
 omega
theorem Rq(b:By)(v:Int)(n:Nat)(hb:b.length<1000000)(hn:n<1000):Sat Tryz.prog 96 [.bl 0 b,.i .u64 v,.i .i64 (n:Int)] [] (fun out A0=>∃l e,out=A2 [.bl 2 l,.i .i64 e]/\A0=[2]/\l.length<=b.length+8/\(e=0\/e=1\/e=2)/\(n=8->l.length=b.length+8)):=by
 refine cF Tryz.func96 fun X0 w0 hX=>?_
 refine rS 1 fun hv=>?_
 replace hv:=wU hv
 refine cB ((n:Int)<1) ?_ ?_<;>intro h1
 ·exact xW hX (A2 [.bl 2 [],.i .i64 1]) ⟨rfl,_,_,rfl,rfl,by first|omega|(simp;done)|(simp;omega),by simp,by first|exact fun h8=>absurd h8 zO|exact fun h8=>(HD hI.2.2.2.2.2 hv.2 zO h4).elim|exact fun h8=>(by simp only[C6,M3];omega)⟩
 refine cB (8<(n:Int)) ?_ ?_<;>intro h2
 ·exact xW hX (A2 [.bl 2 [],.i .i64 1]) ⟨rfl,_,_,rfl,rfl,by first|omega|(simp;done)|(simp;omega),by simp,by first|exact fun h8=>absurd h8 zO|exact fun h8=>(HD hI.2.2.2.2.2 hv.2 zO h4).elim|exact fun h8=>(by simp only[C6,M3];omega)⟩
 refine cM hX (fun(p:Nat×By×Int)=>[(0,.bl 0 b),(1,.i .u64 p.2.2),(2,.i .i64 (n:Int)),(8,.bl 2 p.2.1),(9,.i .i64 (p.1:Int))]) (fun(p:Nat×By×Int)=>[]) (fun(p:Nat×By×Int)=>p.1<=n/\n<=8/\p.2.1.length=p.1/\0<=p.2.2/\p.2.2<18446744073709551616/\p.2.2*256 ^ p.1<=v) (fun(p:Nat×By×Int)=>n-p.1) [2] 656 (0,[],v) ⟨by simp,zO,by simp,hv.1,hv.2,by simp⟩ ?_
 rintro⟨k,l,x⟩ hI R hR
 dsimp only at hI
 refine cB ((k:Int)<(n:Int)) ?_ ?_<;>intro h3
 ·refine cC (([UInt8.ofNat ((u8.wrap (x.tmod 256))).toNat].length+l.length)*1<=140737488355328) ?_ bw
  exact cA hX (hR (k+1,([UInt8.ofNat ((u8.wrap (x.tmod 256))).toNat]++l),(u64.wrap (x.tdiv 256))) ⟨by dsimp only;omega,hI.2.1,by simp;omega,(P3 _).1,(P3 _).2,Rp ⟨hI.2.2.2.1,hI.2.2.2.2.1⟩ hI.2.2.2.2.2⟩ (by dsimp only;omega)) (hS:=⟨v0,v0,v0,v0,(vS zO),zT⟩)
 refine cB (0<x) ?_ ?_<;>intro h4
 ·exact xW hX (A2 [.bl 2 [],.i .i64 2]) ⟨rfl,_,_,rfl,rfl,by first|omega|(simp;done)|(simp;omega),by simp,by first|exact fun h8=>absurd h8 zO|exact fun h8=>(HD hI.2.2.2.2.2 hv.2 zO h4).elim|exact fun h8=>(by simp only[C6,M3];omega)⟩
 refine cC ((([]:By).length+b.length)*1<=140737488355328) ?_ bd
 refine cC ((([]++b).length+l.length)*1<=140737488355328) ?_ bd;exact xW hX (A2 [.bl 2 (([]++b)++l),.i .i64 0]) ⟨rfl,_,_,rfl,rfl,by first|omega|(simp;done)|(simp;omega),by simp,by first|exact fun h8=>absurd h8 zO|exact fun h8=>(HD hI.2.2.2.2.2 hv.2 zO h4).elim|exact fun h8=>(by simp only[C6,M3];omega)⟩
theorem NM(b:By)(v:Int)(hb:b.length<1000000):Sat Tryz.prog 97 [.bl 0 b,.i .u64 v] [] (fun out A0=>∃l,out=.bl 2 l/\A0=[2]/\l.length<=b.length+11):=by
 refine cF Tryz.func97 fun X0 w0 hX=>?_
 refine rS 1 fun hv=>?_
 replace hv:=wU hv
 refine cC ((([]:By).length+b.length)*1<=140737488355328) ?_ bd;refine cM hX (fun(p:By×Int×Nat)=>[(1,.i .u64 p.2.1),(5,.bl 2 p.1)]) (fun(p:By×Int×Nat)=>[]) (fun(p:By×Int×Nat)=>p.1.length<=b.length+p.2.2/\0<=p.2.1/\p.2.1*128 ^ p.2.2<18446744073709551616/\p.2.2<=9) (fun(p:By×Int×Nat)=>p.2.1.toNat) [2] 336 (b,v,0) ⟨by simp,hv.1,by simpa using hv.2,by simp⟩ ?_;rintro⟨l,v,j⟩ hI R hR
 dsimp only at hI
 refine cB (128<=v) ?_ ?_<;>intro h1
 ·have hc:=VT (v:=v) (j:=j) zO hI.2.2.1
  have hj:=hc.1
  refine cC ((l.length+[UInt8.ofNat ((u8.wrap (u64.wrap ((v.tmod 128)+128)))).toNat].length)*1<=140737488355328) ?_ bw;exact cA hX (hR ((l++[UInt8.ofNat ((u8.wrap (u64.wrap ((v.tmod 128)+128)))).toNat]),v / 128,j+1) ⟨by simp only[C6,u7];omega,hc.2.1,hc.2.2,by dsimp only;omega⟩ (by dsimp only;omega)) (hS:=⟨(vD (v:=v) ⟨hI.2.1,Rn hI.2.1 hI.2.2.1⟩ rfl),v0,zT⟩)
 refine cC ((l.length+[UInt8.ofNat ((u8.wrap v)).toNat].length)*1<=140737488355328) ?_ bw
 exact xW hX (.bl 2 (l++[UInt8.ofNat ((u8.wrap v)).toNat])) ⟨rfl,_,rfl,rfl,by simp only[C6,u7];omega⟩
theorem yP(v:Int):Sat Tryz.prog 47 [.i .u64 v] [] (fun out A0=>∃l,out=.bl 2 l/\A0=[2]/\l.length=8):=by
 refine cF Tryz.func47 fun X0 w0 hX=>?_
 refine rS 0 fun hv=>?_
 replace hv:=wU hv
 refine cK [] ((Rq [] v 8 bd bd).full (ins':=[.bl 1 [],.i .u64 v,.i .i64 8])) ?_;rintro out A0 ⟨N6,pe0,rfl,rfl,dF,hq0⟩
 exact xW hX (.bl 2 N6) ⟨rfl,_,rfl,rfl,by have h:=hq0.2 rfl;simpa using h⟩
theorem Rr(b:By)(a n:Int)(hb:b.length<1000000)(ha:0<=a/\a<1000000)(hn:0<=n/\n<1000):Sat Tryz.prog 142 [.bl 0 b,.i .i64 a,.i .i64 n] [] (fun out A0=>A0=[]/\(∃x e,out=A2 [.i .u64 x,.i .i64 e]/\0<=x/\x<18446744073709551616/\(e=0\/e=1\/e=3))):=by
 refine cF Tryz.func142 fun X0 w0 hX=>?_
 refine cB (n<1) ?_ ?_<;>intro h1
 ·exact xW hX (A2 [.i .u64 0,.i .i64 1]) ⟨rfl,rfl,⟨_,_,rfl,zO,zO,by simp⟩⟩
 refine cB (8<n) ?_ ?_<;>intro h2
 ·exact xW hX (A2 [.i .u64 0,.i .i64 1]) ⟨rfl,rfl,⟨_,_,rfl,zO,zO,by simp⟩⟩
 refine cB (a<0) ?_ ?_<;>intro h3
 ·exact xW hX (A2 [.i .u64 0,.i .i64 1]) ⟨rfl,rfl,⟨_,_,rfl,zO,zO,by simp⟩⟩
 refine cB ((b.length:Int)<a) ?_ ?_<;>intro h4
 ·exact xW hX (A2 [.i .u64 0,.i .i64 3]) ⟨rfl,rfl,⟨_,_,rfl,zO,zO,by simp⟩⟩
 refine cB ((i64.wrap ((b.length:Int)-a))<n) ?_ ?_<;>intro h5
 ·exact xW hX (A2 [.i .u64 0,.i .i64 3]) ⟨rfl,rfl,⟨_,_,rfl,zO,zO,by simp⟩⟩
 refine cM hX (fun(p:Nat×Int)=>[(0,.bl 0 b),(1,.i .i64 a),(2,.i .i64 n),(8,.i .u64 p.2),(9,.i .i64 (p.1:Int))]) (fun(p:Nat×Int)=>[]) (fun(p:Nat×Int)=>((p.1:Nat):Int)<=n/\0<=p.2/\p.2<18446744073709551616) (fun(p:Nat×Int)=>n.toNat-p.1) [] 1680 (0,0) ⟨by simp;omega,by simp,by simp⟩ ?_
 rintro⟨k,x⟩ hI R hR
 dsimp only at hI
 refine cB ((k:Int)<n) ?_ ?_<;>intro h6
 ·refine cC ((0:Int)<=(i64.wrap (a+(k:Int)))/\(i64.wrap (a+(k:Int)))<(b.length:Int)) ?_ bw
  exact cA hX (hR (k+1,(u64.wrap ((u64.wrap (x*256))+(u64.wrap ((b.getD (((i64.wrap (a+(k:Int)))).toNat) 0).toNat:Int))))) ⟨by dsimp only;omega,P3 _⟩ (by dsimp only;omega)) (hS:=⟨v0,v0,v0,v0,(vS bd),zT⟩)
 exact xW hX (A2 [.i .u64 x,.i .i64 0]) ⟨rfl,rfl,⟨_,_,rfl,zO,zO,by simp⟩⟩
theorem WY(b s:By)(hb:b.length<900000)(hs:s.length<1000000):Sat Tryz.prog 48 [.bl 0 b,.bl 0 s] [] (fun out A0=>∃l e,out=A2 [.bl 2 l,.i .i64 e]/\A0=[2]/\l.length<=b.length+s.length+11/\(e=0\/e=2)):=by
 refine cF Tryz.func48 fun X0 w0 hX=>?_
 refine cB (65536<(s.length:Int)) ?_ ?_<;>intro h1
 ·exact xW hX (A2 [.bl 2 [],.i .i64 2]) ⟨rfl,_,_,rfl,rfl,bd,by simp⟩
 refine cK [] (NM b (u64.wrap (s.length:Int)) bd) ?_
 rintro out A0 ⟨l0,rfl,rfl,w5⟩
 refine cC ((l0.length+s.length)*1<=140737488355328) ?_;exact xW hX (A2 [.bl 2 (l0++s),.i .i64 0]) ⟨rfl,_,_,rfl,rfl,bd,by simp⟩
theorem WZ(b:By)(hb:b.length<1000000):Sat Tryz.prog 145 [.bl 0 b] [] (fun out A0=>A0=[]/\(∃v a e,out=A2 [.i .u64 v,.i .i64 a,.i .i64 e]/\(0<=v/\v<18446744073709551616)/\(0<=a/\a<=b.length)/\(e=0\/e=3\/e=4))):=by
 refine cF Tryz.func145 fun X0 w0 hX=>?_
 refine cM hX (fun(p:Nat×Int×Int)=>[(0,.bl 0 b),(5,.i .u64 p.2.1),(6,.i .u64 p.2.2),(7,.i .i64 (p.1:Int))]) (fun(p:Nat×Int×Int)=>[]) (fun(p:Nat×Int×Int)=>p.1<=b.length/\0<=p.2.1/\p.2.1<18446744073709551616) (fun(p:Nat×Int×Int)=>b.length-p.1) [] 400 (0,0,1) ⟨by simp,by simp,by simp⟩ ?_;rintro⟨k,x,u⟩ hI R hR
 dsimp only at hI
 refine cB ((k:Int)<(b.length:Int)) ?_ ?_<;>intro h1
 ·refine cC ((0:Int)<=(k:Int)/\(k:Int)<(b.length:Int)) ?_
  refine cB ((k:Int)=9) ?_ ?_<;>intro h2
  ·refine cB (1<(u64.wrap ((b.getD k 0).toNat:Int))) ?_ ?_<;>intro h3
   ·exact xW hX (A2 [.i .u64 0,.i .i64 0,.i .i64 4]) ⟨rfl,rfl,⟨_,_,_,rfl,bw,bw,by simp⟩⟩
   refine cB ((u64.wrap ((b.getD k 0).toNat:Int))<128) ?_ ?_<;>intro h4
   ·refine cB ((u64.wrap ((b.getD k 0).toNat:Int))=0) ?_ ?_<;>intro h5
    ·refine cB (0<(k:Int)) ?_ ?_<;>intro h6
     ·exact xW hX (A2 [.i .u64 0,.i .i64 0,.i .i64 4]) ⟨rfl,rfl,⟨_,_,_,rfl,bw,bw,by simp⟩⟩
     exact xW hX (A2 [.i .u64 (u64.wrap (x+(u64.wrap ((u64.wrap ((b.getD k 0).toNat:Int))*u)))),.i .i64 (i64.wrap ((k:Int)+1)),.i .i64 0]) ⟨rfl,rfl,⟨_,_,_,rfl,bw,bw,by simp⟩⟩
    exact xW hX (A2 [.i .u64 (u64.wrap (x+(u64.wrap ((u64.wrap ((b.getD k 0).toNat:Int))*u)))),.i .i64 (i64.wrap ((k:Int)+1)),.i .i64 0]) ⟨rfl,rfl,⟨_,_,_,rfl,bw,bw,by simp⟩⟩
   exact cA hX (hR (k+1,(u64.wrap (x+(u64.wrap ((u64.wrap ((u64.wrap ((b.getD k 0).toNat:Int))-128))*u)))),(u64.wrap (u*128))) ⟨by dsimp only;omega,P3 _⟩ (by dsimp only;omega)) (hS:=⟨v0,v0,v0,(vS bd),zT⟩)
  refine cB ((u64.wrap ((b.getD k 0).toNat:Int))<128) ?_ ?_<;>intro h7
  ·refine cB ((u64.wrap ((b.getD k 0).toNat:Int))=0) ?_ ?_<;>intro h8
   ·refine cB (0<(k:Int)) ?_ ?_<;>intro h9
    ·exact xW hX (A2 [.i .u64 0,.i .i64 0,.i .i64 4]) ⟨rfl,rfl,⟨_,_,_,rfl,bw,bw,by simp⟩⟩
    exact xW hX (A2 [.i .u64 (u64.wrap (x+(u64.wrap ((u64.wrap ((b.getD k 0).toNat:Int))*u)))),.i .i64 (i64.wrap ((k:Int)+1)),.i .i64 0]) ⟨rfl,rfl,⟨_,_,_,rfl,bw,bw,by simp⟩⟩
   exact xW hX (A2 [.i .u64 (u64.wrap (x+(u64.wrap ((u64.wrap ((b.getD k 0).toNat:Int))*u)))),.i .i64 (i64.wrap ((k:Int)+1)),.i .i64 0]) ⟨rfl,rfl,⟨_,_,_,rfl,bw,bw,by simp⟩⟩
  exact cA hX (hR (k+1,(u64.wrap (x+(u64.wrap ((u64.wrap ((u64.wrap ((b.getD k 0).toNat:Int))-128))*u)))),(u64.wrap (u*128))) ⟨by dsimp only;omega,P3 _⟩ (by dsimp only;omega)) (hS:=⟨v0,v0,v0,(vS bd),zT⟩)
 exact xW hX (A2 [.i .u64 0,.i .i64 0,.i .i64 3]) ⟨rfl,rfl,⟨_,_,_,rfl,bw,bw,by simp⟩⟩
theorem Rt(b:By)(hb:b.length<1000000):Sat Tryz.prog 144 [.bl 0 b] [] (fun out A0=>∃l a e,out=A2 [.bl 2 l,.i .i64 a,.i .i64 e]/\A0=[2]/\(0<=a/\a<=b.length)/\l.length<=b.length):=by
 refine cF Tryz.func144 fun X0 w0 hX=>?_
 refine cK [] (WZ b bd) ?_;rintro out A0 ⟨rfl,⟨l9,Q8,bZ,rfl,n9⟩⟩
 refine cB (bZ≠0) ?_ ?_<;>intro h1
 ·exact xW hX (A2 [.bl 2 [],.i .i64 0,.i .i64 bZ]) ⟨rfl,_,_,_,rfl,rfl,bw,by first|(simp;done)|(simp only[F7,K4];omega)|(simp;omega)⟩
 refine cB (65536<l9) ?_ ?_<;>intro h2
 ·exact xW hX (A2 [.bl 2 [],.i .i64 0,.i .i64 2]) ⟨rfl,_,_,_,rfl,rfl,bw,by first|(simp;done)|(simp only[F7,K4];omega)|(simp;omega)⟩
 refine cB ((i64.wrap ((b.length:Int)-Q8))<(i64.wrap l9)) ?_ ?_<;>intro h3
 ·exact xW hX (A2 [.bl 2 [],.i .i64 0,.i .i64 3]) ⟨rfl,_,_,_,rfl,rfl,bw,by first|(simp;done)|(simp only[F7,K4];omega)|(simp;omega)⟩
 refine cC ((0:Int)<=Q8/\Q8<=(i64.wrap (Q8+(i64.wrap l9)))/\(i64.wrap (Q8+(i64.wrap l9)))<=(b.length:Int)) ?_ bw
 refine cC ((([]:By).length+((b.drop ((Q8).toNat)).take (((i64.wrap (Q8+(i64.wrap l9)))).toNat-(Q8).toNat)).length)*1<=140737488355328) ?_ bw;exact xW hX (A2 [.bl 2 ([]++((b.drop ((Q8).toNat)).take (((i64.wrap (Q8+(i64.wrap l9)))).toNat-(Q8).toNat))),.i .i64 (i64.wrap (Q8+(i64.wrap l9))),.i .i64 0]) ⟨rfl,_,_,_,rfl,rfl,bw,by first|(simp;done)|(simp only[F7,K4];omega)|(simp;omega)⟩
theorem uI(b:By)(hb:b.length<=1000000):Sat Tryz.prog 59 [.bl 0 b] [] (fun out A0=>out=.bl 2 b/\A0=[2]):=by
 refine cF Tryz.func59 fun X0 w0 hX=>?_
 refine c0 (b.length) (fun h1=>?_) ?_
 ·obtain rfl:=l4.1 h1
  exact xW hX (.bl 2 []) ⟨rfl,rfl,rfl⟩
 refine cC ((([]:By).length+b.length)*1<=140737488355328) ?_ bd
 exact xW hX (.bl 2 ([]++b)) ⟨rfl,rfl,rfl⟩
theorem NN(b:By)(v:Int)(hb:b.length<1000000):Sat Tryz.prog 101 [.bl 0 b,.i .i64 v] [] (fun out A0=>∃l,out=.bl 2 l/\A0=[2]/\l.length<=b.length+8):=by
 refine cF Tryz.func101 fun X0 w0 hX=>?_
 refine cK [] (Rm v) ?_;rintro out A0 ⟨rfl,⟨zz0,rfl,y8⟩⟩
 refine cK [] (nB b zz0 8 bd bd) ?_;rintro out A0 ⟨mA,pe1,rfl,rfl,hp1,hq1⟩
 exact xW hX (.bl 2 mA) ⟨rfl,_,rfl,rfl,by assumption⟩
theorem XA(r u:Int):Sat Tryz.prog 152 [A1 [.i .u8 r,.i .i64 u]] [] (fun out A0=>∃l,out=.bl 2 l/\A0=[2]/\l.length<=9):=by
 refine cF Tryz.func152 fun X0 w0 hX=>?_
 refine cK [] ((NN [UInt8.ofNat (r).toNat] u bd).full (ins':=[.bl 1 [UInt8.ofNat (r).toNat],.i .i64 u])) ?_;rintro out A0 ⟨cl0,rfl,rfl,oB⟩
 exact xW hX (.bl 2 cl0) ⟨rfl,_,rfl,rfl,by simp at *;omega⟩
structure Cav where
 r:Int
 u:Int
structure Tok where
 serial:Int
 tenant:By
 rights:Int
 «from»:Int
 «until»:Int
 cavs:List Cav
 tag:By
instance:Inhabited Cav:=⟨⟨0,0⟩⟩
def bG(c:Cav):V:=A1 [.i .u8 c.r,.i .i64 c.u]
def G1(t:Tok):V:=A1 [.i .u64 t.serial,.s t.tenant,.i .u8 t.rights,.i .i64 t.from,.i .i64 t.until,Nq 2 bG t.cavs,.bs 32 t.tag]
theorem HE(t:Tok)(ht:t.tenant.length<1000000)(hc:t.cavs.length<1000000):Sat Tryz.prog 50 [G1 t] [] (fun out A0=>A0=[]/\(∃p,out=.b p)):=by
 refine cF Tryz.func50 fun X0 w0 hX=>?_
 refine cN (t.tenant=[]) ?_ ?_<;>intro h1
 ·refine cK [] (BU t.tenant bd) ?_
  rintro out A0 ⟨rfl,⟨pn0,rfl,o5⟩⟩
  refine cn (pn0) ?_ ?_<;>intro h2
  ·exact xW hX (.b false) ⟨rfl,rfl,⟨_,rfl⟩⟩
  refine cK [] (BV t.rights) ?_
  rintro out A0 ⟨rfl,⟨pk1,rfl⟩⟩
  refine cn (pk1) ?_ ?_<;>intro h3
  ·exact xW hX (.b false) ⟨rfl,rfl,⟨_,rfl⟩⟩
  refine cB (8<(t.cavs.length:Int)) ?_ ?_<;>intro h4
  ·exact xW hX (.b false) ⟨rfl,rfl,⟨_,rfl⟩⟩
  refine cM hX (fun(k:Nat)=>[(27,B3 0 2 bG t.cavs),(28,.i .i64 (t.cavs.length:Int)),(29,.i .i64 (k:Int))]) (fun(k:Nat)=>[]) (fun(k:Nat)=>k<=t.cavs.length) (fun(k:Nat)=>t.cavs.length-k) [] 1744 0 (by simp) ?_
  rintro k hI R hR
  refine cB ((k:Int)<(t.cavs.length:Int)) ?_ ?_<;>intro h5
  ·refine cC ((0:Int)<=(k:Int)/\(k:Int)<(t.cavs.length:Int)) ?_
   refine cK [] (BV ((t.cavs.getD k default).r)) ?_;rintro out A0 ⟨rfl,⟨pk2,rfl⟩⟩
   refine cn (pk2) ?_ ?_<;>intro h6
   ·exact xW hX (.b false) ⟨rfl,rfl,⟨_,rfl⟩⟩
   exact cA hX (hR (k+1) zO zO) (hS:=⟨v0,v0,vS,zT⟩)
  exact xW hX (.b true) ⟨rfl,rfl,⟨_,rfl⟩⟩
 refine cK [] (BV t.rights) ?_
 rintro out A0 ⟨rfl,⟨pk3,rfl⟩⟩
 refine cn (pk3) ?_ ?_<;>intro h7
 ·exact xW hX (.b false) ⟨rfl,rfl,⟨_,rfl⟩⟩
 refine cB (8<(t.cavs.length:Int)) ?_ ?_<;>intro h8
 ·exact xW hX (.b false) ⟨rfl,rfl,⟨_,rfl⟩⟩
 refine cM hX (fun(k:Nat)=>[(27,B3 0 2 bG t.cavs),(28,.i .i64 (t.cavs.length:Int)),(29,.i .i64 (k:Int))]) (fun(k:Nat)=>[]) (fun(k:Nat)=>k<=t.cavs.length) (fun(k:Nat)=>t.cavs.length-k) [] 1744 0 (by simp) ?_
 rintro k hI R hR
 refine cB ((k:Int)<(t.cavs.length:Int)) ?_ ?_<;>intro h9
 ·refine cC ((0:Int)<=(k:Int)/\(k:Int)<(t.cavs.length:Int)) ?_
  refine cK [] (BV ((t.cavs.getD k default).r)) ?_;rintro out A0 ⟨rfl,⟨pk4,rfl⟩⟩
  refine cn (pk4) ?_ ?_<;>intro K0
  ·exact xW hX (.b false) ⟨rfl,rfl,⟨_,rfl⟩⟩
  exact cA hX (hR (k+1) zO zO) (hS:=⟨v0,v0,vS,zT⟩)
 exact xW hX (.b true) ⟨rfl,rfl,⟨_,rfl⟩⟩
theorem NO(t:Tok)(ht:t.tenant.length<500000):Sat Tryz.prog 52 [G1 t] [] (fun out A0=>∃l,out=.bl 2 l/\A0=[2]/\l.length<=t.tenant.length+40):=by
 refine cF Tryz.func52 fun X0 w0 hX=>?_
 refine cK [] ((nB [] t.serial 8 bd bd).full (ins':=[.bl 1 [],.i .u64 t.serial,.i .i64 8])) ?_;rintro out A0 ⟨N6,pe0,rfl,rfl,dF,hq0⟩
 have dF:N6.length<=8:=by simpa using dF
 refine cK [] (uE N6 t.tenant bd bd) ?_;rintro out A0 ⟨xl1,xe1,rfl,rfl,hx1,hy1⟩
 refine cC ((xl1.length+[UInt8.ofNat (t.rights).toNat].length)*1<=140737488355328) ?_ bd;refine cK [] (NN (xl1++[UInt8.ofNat (t.rights).toNat]) t.from bd) ?_;rintro out A0 ⟨cl2,rfl,rfl,W4⟩
 simp only[C6,u7]at W4
 refine cK [] (NN cl2 t.until bd) ?_;rintro out A0 ⟨cl3,rfl,rfl,hc3⟩
 exact xW hX (.bl 2 cl3) ⟨rfl,_,rfl,rfl,by first|omega|(simp at *;omega)⟩
theorem NP(t:Tok)(hc:t.cavs.length<1000000):Sat Tryz.prog 66 [G1 t] [] (fun out A0=>A0=[]/\(∃r u,out=A2 [.i .u8 r,.i .i64 u])):=by
 refine cF Tryz.func66 fun X0 w0 hX=>?_
 refine cM hX (fun(p:Nat×Int×Int)=>[(4,.i .u8 p.2.1),(5,.i .i64 p.2.2),(13,B3 0 2 bG t.cavs),(14,.i .i64 (t.cavs.length:Int)),(15,.i .i64 (p.1:Int))]) (fun(p:Nat×Int×Int)=>[]) (fun(p:Nat×Int×Int)=>p.1<=t.cavs.length) (fun(p:Nat×Int×Int)=>t.cavs.length-p.1) [] 848 (0,t.rights,t.until) (by simp) ?_;rintro⟨k,r,u⟩ hI R hR
 dsimp only at hI
 refine cB ((k:Int)<(t.cavs.length:Int)) ?_ ?_<;>intro h1
 ·refine cC ((0:Int)<=(k:Int)/\(k:Int)<(t.cavs.length:Int)) ?_
  refine cK [] (Ro r ((t.cavs.getD k default).r)) ?_;rintro out A0 ⟨rfl,⟨mr0,rfl,l7,hn0⟩⟩
  exact cA hX (hR (k+1,mr0,(if (t.cavs.getD k default).u<u then (t.cavs.getD k default).u else u)) (by dsimp only;omega) (by dsimp only;omega)) (hS:=⟨v0,v0,v0,v0,(vS bd),zT⟩)
 exact xW hX (A2 [.i .u8 r,.i .i64 u]) ⟨rfl,rfl,⟨_,_,rfl⟩⟩
theorem Ru{a:Addr}{v:Value}(h:w.cell? a=some v):(load a).run P w=.ok v w:=by simp[load,Sem.run,h]
theorem XB{P:Program}{w:World}{b:Nat}{C:Array Value}{T fr}(hb:w.heap[b]? =some (.cells C T fr)):∀(l:List UInt8) (o:Nat) (L0:ByteArray),(∀i v,(l.map E9)[i]? =some v->C[o+i]? =some v)->
  (Extern.Bytes.loadBytes ⟨b,o,none⟩ l.length L0).run P w=.ok ⟨(L0.data.toList++l).toArray⟩ w
|[],o,L0,_=>by simp[Extern.Bytes.loadBytes]
|c::l,o,L0,h=>by
  have h0:C[o]? =some (E9 c):=by simpa using h 0 (E9 c) (by simp)
  have hc:w.cell? ⟨b,o,none⟩=some (E9 c):=by simp[World.cell?, hb,h0]
  have ih:=XB (P:=P) hb l (o+1) (L0.push c) (fun i v hv=>by
   have:=h (i+1) v (by simpa using hv)
   rw[show o+1+i=o+(i+1) by omega];exact this)
  rw[G8,Extern.Bytes.loadBytes]
  simp only[D0,Ru hc,F6,E9]
  have e1:((c.toNat:Int)).toNat.toUInt8=c:=by simp
  rw[e1]
  have e2:(⟨b,o,none⟩:Addr).add 1=⟨b,o+1,none⟩:=rfl
  rw[e2,ih]
  simp[ByteArray.push]
theorem XC{a:Option Addr}{l:By}(hs:RdS w a (l.map E9)):(Extern.Bytes.bytesOf (.slice a l.length cap)).run P w=.ok ⟨l.toArray⟩ w:=by
 rcases hs with h|⟨b,o,C,T,fr,ha,hb,hc⟩
 ·have h0:l=[]:=by simpa using h
  subst h0
  cases a with
 |none=>simp[Extern.Bytes.bytesOf];rfl
 |some a=>simp[Extern.Bytes.bytesOf,Extern.Bytes.loadBytes];rfl
 rw[ha]
 have:=XB (P:=P) hb l o .empty hc
 simpa [Extern.Bytes.bytesOf] using this
theorem XD:∀a b:By,Lib.compareBytes a b= -1\/Lib.compareBytes a b=0\/Lib.compareBytes a b=1
|[],[]=>.inr (.inl rfl)
|[],_::_=>.inl rfl
|_::_,[]=>.inr (.inr rfl)
|x::a,y::b=>by
  rw[Lib.compareBytes]
  split
  ·exact .inl rfl
  split
  ·exact .inr (.inr rfl)
  exact XD a b
theorem Rv(he:O5 P e=true){xs:Array Value}{off:Nat}{v:Value}(hx:xs[off]? =some v):(part e xs off).run P w=.ok v w:=by simp[part,oU he,hx]
open Go.Proofs in
set_option maxHeartbeats 1000000 in
theorem XE(t t':Nat)(a b:By):Sat Tryz.prog 71 [.bl t a,.bl t' b] [] (fun out A0=>A0=[]/\out=.i .i64 (Lib.compareBytes a b)):=uB fun X w vs h1 h2 H=>by
 obtain⟨x,y,rfl⟩:∃x y,vs=[x,y]:=by
  match vs,h1 with
 |[x,y],_=>exact⟨x,y,rfl⟩
 obtain⟨c,cap,rfl,c1,c2,c3⟩:=yG H (h2 0 _ _ rfl rfl)
 obtain⟨d,dap,rfl,d1,d2,d3⟩:=yG H (h2 1 _ _ rfl rfl)
 have hc:(Extern.BytealgCompare.compare #[.slice c a.length cap,.slice d b.length dap]).run Tryz.prog w=.ok (.int .i64 (Lib.compareBytes a b)) w:=by
  change Sem.run Tryz.prog (do pure (goInt (Extern.BytealgCompare.cmp (<-Extern.Bytes.bytesOf (.slice c a.length cap)) (<-Extern.Bytes.bytesOf (.slice d b.length dap))))) w=_
  simp only[D0,XC c3,XC d3,F6,iE,Lib.cmp_eq]
  rfl
 have hh:Calls Tryz.prog 71 #[.slice c a.length cap,.slice d b.length dap] w fun e w'=>e=.returned (VI (Lib.compareBytes a b))/\w'=w:=by
  go_enter Tryz.func71,Tryz.ntmps71
  go_wp2
  rw[run_callFunc_extern Tryz.func110 zK zK zK (e:=Extern.BytealgCompare.compare) zK,hc]
  simp only[Result.andThen]
  rw[CX]
  go_wp2
  go_ret
  exact⟨rfl,rfl⟩
 refine x9 hh fun e w' ⟨he,hw⟩=>⟨_,he,⟨_,⟨rfl,rfl⟩,rfl,?_⟩,?_⟩
 ·rcases XD a b with h|h|h<;>rw[h]<;>decide
 subst hw;exact Hp.refl _ _
theorem gY:KeyT Tryz.prog 36 where
 chk e k hk w:=by
  obtain⟨i,hi⟩:∃i,Tryz.prog.info? 5=some i:=info_of_underlying (by kernel_rfl:Tryz.prog.underlying 5=some (.int .u8))
  have hs:Tryz.prog.cellsOf 5=1:=by kernel_rfl
  show(Instr.checkKey e (9998+1+1) 36 (.agg (k.map E9).toArray)).run Tryz.prog w=.ok () w
  rw[Instr.checkKey]
  simp only[D0,run_underlying (by kernel_rfl:Tryz.prog.underlying 36=some (.array 32 5)),F6]
  simp only[Std.Legacy.Range.forIn_eq_forIn_range',Std.Legacy.Range.size,qT,Nat.add_one_sub_one,Nat.div_one]
  have wH:∀j∈List.range' 0 32,j<32:=by intro j hj;simpa using hj
  generalize List.range' 0 32=is at wH
  induction is with
 |nil=>simp
 |cons j is ih=>
   have hj:=wH j (by simp)
   have p1:(part 5 (k.map E9).toArray (j*Tryz.prog.cellsOf 5)).run Tryz.prog w=.ok (E9 (k.getD j 0)) w:=by
    rw[hs,l5]
    exact Rv zK (by rw[fQ,Y6,B6 zO,List.getD,B6 zO];rfl)
   have p2:(Instr.checkKey e (9998+1) 5 (E9 (k.getD j 0))).run Tryz.prog w=.ok () w:=MapKept.run_checkKey (d:=.int .u8) zK (by simp[MapKept.IsKey]) e 9998
   simp only[List.forIn_cons,D0,run_sizeOf w hi,F6,p1,p2,iE]
   exact ih (fun y hy=>wH y (by simp[hy]))
 eq p q hp hq w:=LW (X:=⟨fun _ _=>.no,fun _ _=>none,fun _ _ _=>True,0,0,false⟩) (lv:=[]) (c:=2) (x:=.bs 32 p) (y:=.bs 32 q) (m:=9) w (by decide) zK ⟨_,rfl,hp,by simp⟩ ⟨_,rfl,hq,by simp⟩
 wide:=by kernel_rfl
theorem XF{p:Bool}(h:(!p)=true):p=false:=by simpa using h
theorem jP{p:Bool}(h:(!p)=false):p=true:=by simpa using h
theorem Rw{t:Nat}{l:By}(h:l.length<=1000000):X4 1 (aH (V.nb (.bl t l)))=true:=by simp[X4,aH,V.nb,h]
abbrev HF(b:By)(p:Bool):V:=A1 [.bl 0 b,.b p]
theorem qG(b:By)(p:Bool)(n:Int)(hb:b.length<1000000)(hn:0<=n/\n<1000):SatHM Tryz.prog false 102 [.pr 2 0 [],.i .i64 n] [] [(2,A1 [.bl 0 b,.b p])] (fun out ho A0=>∃v b2 p2,out=.i .u64 v/\ho=[(2,HF b2 p2)]/\A0=[]/\(0<=v/\v<18446744073709551616)/\b2.length<=b.length):=by
 refine fH false Tryz.func102 fun X0 w0 hX hm=>?_
 refine cK [] (VV b 0 n bd bd bd) ?_;rintro out A0 ⟨rfl,⟨oI,wJ,rfl,ha0,hA0,he0,y8⟩⟩
 refine cB (wJ≠0) ?_ ?_<;>intro h1
 ·exact xW hX (.i .u64 0) (ho:=[(2,A1 [.bl 0 b,.b true])]) ⟨_,_,_,rfl,rfl,rfl,zO,bd⟩
 refine cC ((0:Int)<=n/\n<=(b.length:Int)) ?_
 exact xW hX (.i .u64 oI) (ho:=[(2,A1 [.bl 0 ((b.drop ((n).toNat)).take (b.length-(n).toNat)),.b p])]) ⟨_,_,_,rfl,rfl,rfl,zO,bd⟩
theorem Rx(b:By)(p:Bool)(hb:b.length<1000000):SatHM Tryz.prog false 103 [.pr 2 0 []] [] [(2,A1 [.bl 0 b,.b p])] (fun out ho A0=>∃v b2 p2,out=.s v/\ho=[(2,HF b2 p2)]/\A0=[]/\v.length<=b.length/\b2.length<=b.length):=by
 refine fH false Tryz.func103 fun X0 w0 hX hm=>?_
 refine cK [] (NA b bd) ?_;rintro out A0 ⟨fY,C5,xe0,rfl,rfl,hxa0,hxs0⟩
 refine cB (xe0≠0) ?_ ?_<;>intro h1
 ·exact xW hX (.s []) (ho:=[(2,A1 [.bl 0 b,.b true])]) ⟨_,_,_,rfl,rfl,rfl,bd,bd⟩
 refine cC ((0:Int)<=C5/\C5<=(b.length:Int)) ?_
 exact xW hX (.s fY) (ho:=[(2,A1 [.bl 0 ((b.drop ((C5).toNat)).take (b.length-(C5).toNat)),.b p])]) ⟨_,_,_,rfl,rfl,rfl,bd,bd⟩
theorem Ry{t:Tok}(h:(G1 t).rng):(0<=t.serial/\t.serial<18446744073709551616)/\(0<=t.rights/\t.rights<256)/\(-9223372036854775808<=t.from/\t.from<9223372036854775808)/\(-9223372036854775808<=t.until/\t.until<9223372036854775808)/\t.tag.length=32:=
 ⟨wU (h 0 (show 0<7 by decide)),wB (h 2 (show 2<7 by decide)),wI (h 3 (show 3<7 by decide)),wI (h 4 (show 4<7 by decide)),h 6 (show 6<7 by decide)⟩
theorem uJ(k:By)(t t' n:Nat)(g:Nat->V)(hg:∀i,i<n->∃q l,g i=.bl q l/\l.length<=100000)(hn:n<=8):Sat Tryz.prog 51 [.bl t k,.sl t' 1 n g] [] (fun out A0=>A0=[]/\∃m,out=.bs 32 m):=by
 have h1:∀i,∃l:By,i<n->∃q,g i=.bl q l/\l.length<=100000:=fun i=>by
  by_cases h:i<n
  ·obtain⟨q,l,e⟩:=hg i h;exact⟨l,fun _=>⟨q,e⟩⟩
  exact⟨[],fun h'=>absurd h' h⟩
 have h2:=fun i=>(h1 i).choose_spec
 have h3:∀i,i<n->((h1 i).choose).length<=100000:=fun i hi=>(h2 i hi).choose_spec.2
 refine(WT k t t' n g (fun i=>(h1 i).choose) (fun i hi=>⟨_,(h2 i hi).choose_spec.1⟩) bd ?_).mono fun out A0 h=>⟨h.1,_,h.2⟩
 have:∀L:List By,(∀x∈L,x.length<=100000)->(s9 L).length<=L.length*100008:=by
  intro L hL
  induction L with
 |nil=>simp[s9]
 |cons x L ih=>
   have h1:=hL x (by simp)
   have h2:=ih fun y hy=>hL y (by simp[hy])
   simp only[s9,iG,C6,G8]at h2 ⊢
   simp[NG]at h2 ⊢
   omega
 have h4:=this ((List.range n).map fun i=>(h1 i).choose) (fun x hx=>by
  obtain⟨i,hi,rfl⟩:=J6.1 hx
  exact h3 i (qQ.1 hi))
 simp only[J7,DL]at h4
 omega
theorem XG(t:Tok)(ht:t.tenant.length<100000)(hc:t.cavs.length<=1000):Sat Tryz.prog 128 [G1 t] [] (fun out A0=>∃l e,out=A2 [.bl 2 l,.i .i64 e]/\A0=[2]/\l.length<=t.tenant.length+10000):=by
 refine cF Tryz.func128 fun X0 w0 hX=>?_
 refine rS 0 fun hr=>?_
 have hg:=(Ry hr).2.2.2.2
 refine cK [] (HE t bd bd) ?_;rintro out A0 ⟨rfl,⟨w7,rfl⟩⟩
 refine cn (w7) ?_ ?_<;>intro h1
 ·exact xW hX (A2 [.bl 2 [],.i .i64 1]) ⟨rfl,_,_,rfl,rfl,bd⟩
 refine cK [] (NO t bd) ?_
 rintro out A0 ⟨dO,rfl,rfl,hh1⟩
 refine cC (([1].length+dO.length)*1<=140737488355328) ?_ bd;refine cC ((([1]++dO).length+[UInt8.ofNat ((u8.wrap (t.cavs.length:Int))).toNat].length)*1<=140737488355328) ?_ bw;refine cM hX (fun(p:Nat×By)=>[(1,.pr 16 0 []),(4,.bl 2 p.2),(22,B3 0 2 bG t.cavs),(23,.i .i64 (t.cavs.length:Int)),(24,.i .i64 (p.1:Int))]) (fun(p:Nat×By)=>[(16,G1 t)]) (fun(p:Nat×By)=>p.1<=t.cavs.length/\p.2.length<=t.tenant.length+42+9*p.1) (fun(p:Nat×By)=>t.cavs.length-p.1) [2] 1488 (0,(([1]++dO)++[UInt8.ofNat ((u8.wrap (t.cavs.length:Int))).toNat])) ⟨by simp,by simp;omega⟩ ?_;rintro⟨k,l⟩ hI R hR
 dsimp only at hI
 refine cB ((k:Int)<(t.cavs.length:Int)) ?_ ?_<;>intro h2
 ·refine cC ((0:Int)<=(k:Int)/\(k:Int)<(t.cavs.length:Int)) ?_
  refine cK [] (XA ((t.cavs.getD k default).r) ((t.cavs.getD k default).u)) ?_;rintro out A0 ⟨vl2,rfl,rfl,aP⟩
  refine cC ((l.length+vl2.length)*1<=140737488355328) ?_;exact cA hX (hR (k+1,(l++vl2)) ⟨by dsimp only;omega,by simp;omega⟩ (by dsimp only;omega)) (hS:=⟨v0,v0,v0,v0,(vS bd),zT⟩)
 refine cC ((l.length+t.tag.length)*1<=140737488355328) ?_
 exact xW hX (A2 [.bl 2 (l++t.tag),.i .i64 0]) ⟨rfl,_,_,rfl,rfl,bd⟩
theorem Rz(h:By)(n:Nat)(g:Nat->Cav)(hn:n<9223372036854775807):Sat Tryz.prog 105 [.bs 32 h,.sl 0 2 n fun i=>bG (g i)] [] (fun out A0=>A0=[]/\(∃m,out=.bs 32 m)):=by
 refine cF Tryz.func105 fun X0 w0 hX=>?_
 refine mM fV true ?_;refine cM hX (fun(p:Nat×By)=>[(2,.pr 16 0 []),(4,.pr 80 0 []),(7,.sl 0 2 n fun i=>bG (g i)),(8,.i .i64 (n:Int)),(9,.i .i64 (p.1:Int)),(1000004,A2 [])]) (fun(p:Nat×By)=>[(16,.bs 32 p.2),(80,.bs 32 (replicate 32 0))]) (fun(p:Nat×By)=>p.1<=n/\n<9223372036854775807) (fun(p:Nat×By)=>n-p.1) [] 336 (0,h) ⟨by simp,hn⟩ ?_;rintro⟨k,m⟩ hI R hR
 dsimp only at hI
 refine cB ((k:Int)<(n:Int)) ?_ ?_<;>intro h1
 ·refine cC ((0:Int)<=(k:Int)/\(k:Int)<(n:Int)) ?_
  refine cK [] (XA ((g k).r) ((g k).u)) ?_;rintro out A0 ⟨vl0,rfl,rfl,z8⟩
  refine S0 (uJ ((m.drop 0).take 32) 0 1 1 (fun _=>.bl 0 vl0) (fun _ _=>⟨_,_,rfl,bd⟩) (by decide)) ?_;rintro out A0 ⟨rfl,⟨hm1,rfl⟩⟩
  refine⟨rfl,?_⟩
  exact cA hX (hR (k+1,hm1) ⟨by dsimp only;omega,hI.2⟩ (by dsimp only;omega)) (hS:=⟨v0,v0,v0,v0,(vS bd),v0,zT⟩)
 exact xW hX (.bs 32 m) ⟨rfl,rfl,⟨_,rfl⟩⟩
theorem XH(key:By)(t:Tok)(ht:t.tenant.length<90000)(hc:t.cavs.length<=1000):Sat Tryz.prog 25 [.bs 32 key,G1 t] [] (fun out A0=>A0=[]/\(∃t2 e,out=A2 [G1 t2,.i .i64 e]/\t2.tenant.length<=t.tenant.length/\t2.cavs=[])):=by
 refine cF Tryz.func25 fun X0 w0 hX=>?_
 refine mM fV true ?_;refine cK [] (HE t bd bd) ?_;rintro out A0 ⟨rfl,⟨w7,rfl⟩⟩
 refine cn (w7) ?_ ?_<;>intro h1
 ·exact xW hX (A2 [G1 ⟨0,[],0,0,0,[],(replicate 32 0)⟩,.i .i64 1]) ⟨rfl,rfl,⟨_,_,rfl,L8 _,rfl⟩⟩ (hv:=vT (u:=A2 [A1 [.i .u64 0,.s [],.i .u8 0,.i .i64 0,.i .i64 0,.sl 0 2 0 fun _=>.un,.bs 32 (replicate 32 0)],.i .i64 1]) (F5 ⟨C4 ⟨.rfl _,.rfl _,.rfl _,.rfl _,.rfl _,vN,.rfl _,zT⟩,.rfl _,zT⟩))
 refine cB (0<(t.cavs.length:Int)) ?_ ?_<;>intro h2
 ·exact xW hX (A2 [G1 ⟨0,[],0,0,0,[],(replicate 32 0)⟩,.i .i64 1]) ⟨rfl,rfl,⟨_,_,rfl,L8 _,rfl⟩⟩ (hv:=vT (u:=A2 [A1 [.i .u64 0,.s [],.i .u8 0,.i .i64 0,.i .i64 0,.sl 0 2 0 fun _=>.un,.bs 32 (replicate 32 0)],.i .i64 1]) (F5 ⟨C4 ⟨.rfl _,.rfl _,.rfl _,.rfl _,.rfl _,vN,.rfl _,zT⟩,.rfl _,zT⟩))
 refine cK [] (NO t bd) ?_
 rintro out A0 ⟨dO,rfl,rfl,hh1⟩
 refine S0 (uJ ((key.drop 0).take 32) 0 1 1 (fun _=>.bl 0 dO) (fun _ _=>⟨_,_,rfl,bd⟩) (by decide)) ?_;rintro out A0 ⟨rfl,⟨dL,rfl⟩⟩
 refine⟨rfl,?_⟩
 exact xW hX (A2 [G1 ⟨t.serial,t.tenant,t.rights,t.from,t.until,[],dL⟩,.i .i64 0]) ⟨rfl,rfl,⟨_,_,rfl,B2 _,rfl⟩⟩ (hv:=vT (u:=A2 [A1 [.i .u64 t.serial,.s t.tenant,.i .u8 t.rights,.i .i64 t.from,.i .i64 t.until,.sl 0 2 0 fun _=>.un,.bs 32 dL],.i .i64 0]) (F5 ⟨C4 ⟨.rfl _,.rfl _,.rfl _,.rfl _,.rfl _,vN,.rfl _,zT⟩,.rfl _,zT⟩))
theorem XI(key:By)(t:Tok)(now:Int)(ht:t.tenant.length<90000)(hc:t.cavs.length<=1000):Sat Tryz.prog 63 [.bs 32 key,G1 t,.i .i64 now] [] (fun out A0=>A0=[]/\(∃e,out=.i .i64 e)):=by
 refine cF Tryz.func63 fun X0 w0 hX=>?_
 refine mM fV true ?_;refine cK [] (HE t bd bd) ?_;rintro out A0 ⟨rfl,⟨w7,rfl⟩⟩
 refine cn (w7) ?_ ?_<;>intro h1
 ·exact xW hX (.i .i64 1) ⟨rfl,rfl,⟨_,rfl⟩⟩
 refine jA 2 4096 (fun(m:By)=>[(2,.i .i64 now),(4,.pr 80 0 []),(7,.pr 3000 0 []),(1000004,A2 [])]) (fun(m:By)=>[(80,G1 t),(3000,.bs 32 m)]) (fun(m:By)=>True) [] (fun R hR i hi=>?_) ?_
 ·revert i hi;refine f2 ?_ ?_<;>repeat' (first|refine al 2 (f2 ?_ ?_)|(refine cK (e:=eE) [] (NO t bd) ?_;rintro out A0 ⟨dO,rfl,rfl,hh1⟩)|(refine S0 (e:=eE) (uJ ((key.drop 0).take 32) 0 1 1 (fun _=>.bl 0 dO) (fun _ _=>⟨_,_,rfl,bd⟩) (by decide)) ?_;rintro out A0 ⟨rfl,⟨dL,rfl⟩⟩;refine⟨rfl,?_⟩)|(refine cK (e:=eE) [] (Rz dL t.cavs.length (fun i=>t.cavs.getD i default) bd) ?_;rintro out A0 ⟨rfl,⟨ho3,rfl⟩⟩)|exact cA hX (hR ho3 trivial))
 rintro m hJ
 refine kW (WU 0 0 ((m.drop 0).take 32) ((t.tag.drop 0).take 32)) ?_;refine cN (((m.drop 0).take 32)=((t.tag.drop 0).take 32)) ?_ ?_<;>intro h2
 ·exact xW hX (.i .i64 13) ⟨rfl,rfl,⟨_,rfl⟩⟩
 refine cK [] (NP t bd) ?_
 rintro out A0 ⟨rfl,⟨er12,eu12,rfl⟩⟩
 refine cB (now<t.from) ?_ ?_<;>intro h3
 ·exact xW hX (.i .i64 14) ⟨rfl,rfl,⟨_,rfl⟩⟩
 refine cB (eu12<=now) ?_ ?_<;>intro h4
 ·exact xW hX (.i .i64 14) ⟨rfl,rfl,⟨_,rfl⟩⟩
 exact xW hX (.i .i64 0) ⟨rfl,rfl,⟨_,rfl⟩⟩
theorem XJ(b:By)(hb:b.length<90000):Sat Tryz.prog 62 [.bl 0 b] [] (fun out A0=>A0=[]/\(∃t e,out=A2 [G1 t,.i .i64 e]/\t.tenant.length<=b.length/\t.cavs.length<=8)):=by
 refine cF Tryz.func62 fun X0 w0 hX=>?_
 refine kH [(272,2)] [272] (qG b false 1 bd bd) ?_;rintro out ho A0 ⟨rv0,rb0,rp0,rfl,rfl,rfl,hrv0,hrb0⟩
 refine kH [(272,2)] [272] (qG rb0 rp0 8 bd bd) ?_;rintro out ho A0 ⟨rv1,rb1,rp1,rfl,rfl,rfl,hrv1,hrb1⟩
 refine kH [(272,2)] [272] (Rx rb1 rp1 bd) ?_;rintro out ho A0 ⟨rs2,rb2,rp2,rfl,rfl,rfl,hrs2,hrb2⟩
 refine kH [(272,2)] [272] (qG rb2 rp2 1 bd bd) ?_;rintro out ho A0 ⟨rv3,rb3,rp3,rfl,rfl,rfl,hrv3,hrb3⟩
 refine kH [(272,2)] [272] (qG rb3 rp3 8 bd bd) ?_;rintro out ho A0 ⟨rv4,rb4,rp4,rfl,rfl,rfl,hrv4,hrb4⟩
 refine cK [] (NI rv4) ?_;rintro out A0 ⟨rfl,⟨zz5,rfl,hz5⟩⟩
 refine kH [(272,2)] [272] (qG rb4 rp4 8 bd bd) ?_;rintro out ho A0 ⟨rv6,rb6,rp6,rfl,rfl,rfl,hrv6,hrb6⟩
 refine cK [] (NI rv6) ?_;rintro out A0 ⟨rfl,⟨zz7,rfl,hz7⟩⟩
 refine kH [(272,2)] [272] (qG rb6 rp6 1 bd bd) ?_;rintro out ho A0 ⟨rv8,rb8,rp8,rfl,rfl,rfl,hrv8,hrb8⟩
 refine cb (rp8) ?_ ?_<;>intro h1
 ·exact xW hX (A2 [G1 ⟨0,[],0,0,0,[],(replicate 32 0)⟩,.i .i64 4]) ⟨rfl,rfl,⟨_,_,rfl,bd,bd⟩⟩ (hv:=vT (u:=A2 [A1 [.i .u64 0,.s [],.i .u8 0,.i .i64 0,.i .i64 0,.sl 0 2 0 fun _=>.un,.bs 32 (replicate 32 0)],.i .i64 4]) (F5 ⟨C4 ⟨.rfl _,.rfl _,.rfl _,.rfl _,.rfl _,vN,.rfl _,zT⟩,.rfl _,zT⟩))
 refine cB (rv0≠1) ?_ ?_<;>intro h2
 ·exact xW hX (A2 [G1 ⟨0,[],0,0,0,[],(replicate 32 0)⟩,.i .i64 4]) ⟨rfl,rfl,⟨_,_,rfl,bd,bd⟩⟩ (hv:=vT (u:=A2 [A1 [.i .u64 0,.s [],.i .u8 0,.i .i64 0,.i .i64 0,.sl 0 2 0 fun _=>.un,.bs 32 (replicate 32 0)],.i .i64 4]) (F5 ⟨C4 ⟨.rfl _,.rfl _,.rfl _,.rfl _,.rfl _,vN,.rfl _,zT⟩,.rfl _,zT⟩))
 refine cB (8<rv8) ?_ ?_<;>intro h3
 ·exact xW hX (A2 [G1 ⟨0,[],0,0,0,[],(replicate 32 0)⟩,.i .i64 4]) ⟨rfl,rfl,⟨_,_,rfl,bd,bd⟩⟩ (hv:=vT (u:=A2 [A1 [.i .u64 0,.s [],.i .u8 0,.i .i64 0,.i .i64 0,.sl 0 2 0 fun _=>.un,.bs 32 (replicate 32 0)],.i .i64 4]) (F5 ⟨C4 ⟨.rfl _,.rfl _,.rfl _,.rfl _,.rfl _,vN,.rfl _,zT⟩,.rfl _,zT⟩))
 refine cM hX (fun(p:Nat×By×Bool×(List Cav))=>[(2,.pr 16 0 []),(4,.pr 272 0 []),(6,.pr 1104 0 []),(45,.i .u64 rv8),(46,.i .u64 (p.1:Int))]) (fun(p:Nat×By×Bool×(List Cav))=>[(16,A1 [.i .u64 0,.s [],.i .u8 0,.i .i64 0,.i .i64 0,.sl 1 2 0 fun _=>.un,.bs 32 (replicate 32 0)]),(272,A1 [.bl 0 p.2.1,.b p.2.2.1]),(1104,A1 [.i .u64 rv1,.s rs2,.i .u8 (u8.wrap rv3),.i .i64 zz5,.i .i64 zz7,B3 2 2 bG p.2.2.2,.bs 32 (replicate 32 0)])]) (fun(p:Nat×By×Bool×(List Cav))=>(p.1:Int)<=rv8/\p.2.1.length<90000/\p.2.2.2.length=p.1) (fun(p:Nat×By×Bool×(List Cav))=>8-p.1) [2] 2960 (0,rb8,rp8,[]) ⟨by simp;omega,bd,rfl⟩ ?_ (hH:=⟨v0,v0,(vT (u:=A1 [.i .u64 rv1,.s rs2,.i .u8 (u8.wrap rv3),.i .i64 zz5,.i .i64 zz7,.sl 2 2 0 fun _=>.un,.bs 32 (replicate 32 0)]) (C4 ⟨.rfl _,.rfl _,.rfl _,.rfl _,.rfl _,vN,.rfl _,zT⟩)),zT⟩)
 rintro⟨k,rb,rp,l⟩ hI R hR
 dsimp only at hI
 refine cB ((k:Int)<rv8) ?_ ?_<;>intro h4
 ·refine kH [(272,2)] [272] (qG rb rp 1 bd bd) ?_
  rintro out ho A0 ⟨rv9,rb9,rp9,rfl,rfl,rfl,hrv9,hrb9⟩
  refine kH [(272,2)] [272] (qG rb9 rp9 8 bd bd) ?_;rintro out ho A0 ⟨rv10,rb10,rp10,rfl,rfl,rfl,hrv10,hrb10⟩
  refine cK [] (NI rv10) ?_;rintro out A0 ⟨rfl,⟨zz11,rfl,hz11⟩⟩
  refine cC ((l.length+1)*16<=140737488355328) ?_;exact cA hX (hR (k+1,rb10,rp10,l++[⟨(u8.wrap rv9),zz11⟩]) ⟨bd,bd,by simp;omega⟩ (by dsimp only;omega)) (hS:=⟨v0,v0,v0,v0,vU,zT⟩) (hH:=⟨v0,v0,(vT (u:=A1 [.i .u64 rv1,.s rs2,.i .u8 (u8.wrap rv3),.i .i64 zz5,.i .i64 zz7,.sl 2 2 (l.length+1) fun i=>bif blt i l.length then bG (l.getD i default) else A1 [.i .u8 (u8.wrap rv9),.i .i64 zz11],.bs 32 (replicate 32 0)]) (C4 ⟨.rfl _,.rfl _,.rfl _,.rfl _,.rfl _,pY l ⟨_,_⟩,.rfl _,zT⟩)),zT⟩)
 refine cb (rp) ?_ ?_<;>intro h5
 ·exact xW hX (A2 [G1 ⟨0,[],0,0,0,[],(replicate 32 0)⟩,.i .i64 4]) ⟨rfl,rfl,⟨_,_,rfl,bd,bd⟩⟩ (hv:=vT (u:=A2 [A1 [.i .u64 0,.s [],.i .u8 0,.i .i64 0,.i .i64 0,.sl 0 2 0 fun _=>.un,.bs 32 (replicate 32 0)],.i .i64 4]) (F5 ⟨C4 ⟨.rfl _,.rfl _,.rfl _,.rfl _,.rfl _,vN,.rfl _,zT⟩,.rfl _,zT⟩))
 refine cB ((rb.length:Int)≠32) ?_ ?_<;>intro h6
 ·exact xW hX (A2 [G1 ⟨0,[],0,0,0,[],(replicate 32 0)⟩,.i .i64 4]) ⟨rfl,rfl,⟨_,_,rfl,bd,bd⟩⟩ (hv:=vT (u:=A2 [A1 [.i .u64 0,.s [],.i .u8 0,.i .i64 0,.i .i64 0,.sl 0 2 0 fun _=>.un,.bs 32 (replicate 32 0)],.i .i64 4]) (F5 ⟨C4 ⟨.rfl _,.rfl _,.rfl _,.rfl _,.rfl _,vN,.rfl _,zT⟩,.rfl _,zT⟩))
 refine cK [] (HE ⟨rv1,rs2,(u8.wrap rv3),zz5,zz7,l,(replicate 32 0)⟩ bd bd) ?_
 rintro out A0 ⟨rfl,⟨pm12,rfl⟩⟩
 refine cn (pm12) ?_ ?_<;>intro h7
 ·exact xW hX (A2 [G1 ⟨0,[],0,0,0,[],(replicate 32 0)⟩,.i .i64 4]) ⟨rfl,rfl,⟨_,_,rfl,bd,bd⟩⟩ (hv:=vT (u:=A2 [A1 [.i .u64 0,.s [],.i .u8 0,.i .i64 0,.i .i64 0,.sl 0 2 0 fun _=>.un,.bs 32 (replicate 32 0)],.i .i64 4]) (F5 ⟨C4 ⟨.rfl _,.rfl _,.rfl _,.rfl _,.rfl _,vN,.rfl _,zT⟩,.rfl _,zT⟩))
 refine cC (32<=rb.length) ?_
 exact xW hX (A2 [G1 ⟨rv1,rs2,(u8.wrap rv3),zz5,zz7,l,(rb.take 32)⟩,.i .i64 0]) ⟨rfl,rfl,⟨_,_,rfl,bd,bd⟩⟩ (hv:=vT (u:=A2 [A1 [.i .u64 rv1,.s rs2,.i .u8 (u8.wrap rv3),.i .i64 zz5,.i .i64 zz7,B3 0 2 bG l,.bs 32 (rb.take 32)],.i .i64 0]) (F5 ⟨C4 ⟨.rfl _,.rfl _,.rfl _,.rfl _,.rfl _,.rfl _,.rfl _,zT⟩,.rfl _,zT⟩))
section
open Go Go.Shelf
def Tryz.fiM_ren:Go.Shelf.Ren:=⟨fun|173=>166|246=>190|283=>209|284=>210|285=>211|286=>212|129=>230|317=>231|318=>232|319=>233|320=>234|337=>241|338=>242|n=>n,fun|2=>2|3=>3|9=>9|4=>4|171=>281|0=>0|53=>37|37=>45|5=>5|173=>284|212=>300|51=>247|20=>20|213=>301|46=>172|232=>35|233=>249|n=>n,fun|17=>1|18=>2|19=>3|n=>n⟩
theorem Tryz.fiM:Go.Proofs.LaysM.n173 Tryz.prog Tryz.fiM_ren:={
 mixed:=by kernel_rfl
 f129:=Tryz.func230.trans (congrArg some zK)
 f173:=Tryz.func166.trans (congrArg some zK)
 f246:=Tryz.func190.trans (congrArg some zK)
 f283:=Tryz.func209.trans (congrArg some zK)
 f284:=Tryz.func210.trans (congrArg some zK)
 f285:=Tryz.func211.trans (congrArg some zK)
 f286:=Tryz.func212.trans (congrArg some zK)
 f317:=Tryz.func231.trans (congrArg some zK)
 f318:=Tryz.func232.trans (congrArg some zK)
 f319:=Tryz.func233.trans (congrArg some zK)
 f320:=Tryz.func234.trans (congrArg some zK)
 f337:=Tryz.func241.trans (congrArg some zK)
 f338:=Tryz.func242.trans (congrArg some zK)
 t0:=Tryz.underlying0
 a0:=Tryz.isAgg0
 z0:=Tryz.sizeOf0
 v0:=Tryz.zeroValue0
 t2:=Tryz.underlying2
 a2:=Tryz.isAgg2
 z2:=Tryz.sizeOf2
 v2:=Tryz.zeroValue2
 t3:=Tryz.underlying3
 a3:=Tryz.isAgg3
 z3:=Tryz.sizeOf3
 v3:=Tryz.zeroValue3
 t4:=Tryz.underlying4
 a4:=Tryz.isAgg4
 z4:=Tryz.sizeOf4
 v4:=Tryz.zeroValue4
 t5:=Tryz.underlying5
 a5:=Tryz.isAgg5
 z5:=Tryz.sizeOf5
 v5:=Tryz.zeroValue5
 t9:=Tryz.underlying9
 a9:=Tryz.isAgg9
 z9:=Tryz.sizeOf9
 v9:=Tryz.zeroValue9
 t20:=Tryz.underlying20
 a20:=Tryz.isAgg20
 z20:=Tryz.sizeOf20
 v20:=Tryz.zeroValue20
 t37:=Tryz.underlying45
 a37:=Tryz.isAgg45
 z37:=Tryz.sizeOf45
 v37:=Tryz.zeroValue45
 t46:=Tryz.underlying172
 a46:=Tryz.isAgg172
 z46:=Tryz.sizeOf172
 v46:=Tryz.zeroValue172
 t51:=Tryz.underlying247
 a51:=Tryz.isAgg247
 z51:=Tryz.sizeOf247
 v51:=Tryz.zeroValue247
 t53:=Tryz.underlying37
 a53:=Tryz.isAgg37
 z53:=Tryz.sizeOf37
 v53:=Tryz.zeroValue37
 t171:=Tryz.underlying281
 a171:=Tryz.isAgg281
 z171:=Tryz.sizeOf281
 v171:=Tryz.zeroValue281
 t173:=Tryz.underlying284
 a173:=Tryz.isAgg284
 z173:=Tryz.sizeOf284
 v173:=Tryz.zeroValue284
 t212:=Tryz.underlying300
 a212:=Tryz.isAgg300
 z212:=Tryz.sizeOf300
 v212:=Tryz.zeroValue300
 t213:=Tryz.underlying301
 a213:=Tryz.isAgg301
 z213:=Tryz.sizeOf301
 t232:=Tryz.underlying35
 a232:=Tryz.isAgg35
 z232:=Tryz.sizeOf35
 v232:=Tryz.zeroValue35
 t233:=Tryz.underlying249
 a233:=Tryz.isAgg249
 z233:=Tryz.sizeOf249
 v233:=Tryz.zeroValue249
 g17:=by kernel_rfl
 g18:=by kernel_rfl
 g19:=by kernel_rfl
 i0:=by kernel_rfl
 i2:=by kernel_rfl
 i3:=by kernel_rfl
 i4:=by kernel_rfl
 i5:=by kernel_rfl
 i9:=by kernel_rfl
 i20:=by kernel_rfl
 i37:=by kernel_rfl
 i46:=by kernel_rfl
 i51:=by kernel_rfl
 i53:=by kernel_rfl
 i171:=by kernel_rfl
 i173:=by kernel_rfl
 i212:=by kernel_rfl
 i232:=by kernel_rfl
 i233:=by kernel_rfl
 m17:=by kernel_rfl
 m18:=by kernel_rfl
 m19:=by kernel_rfl}
end
theorem Sa(w:World)(k:Nat)(os:Array Go.Obj):Hp w (Go.Sort.grow (w.drewN k) os) [] []:=
 ⟨rfl,rfl,rfl,by show w.heap.size<=(w.heap++os).size;rw[zQ];omega,fun b hb _=>by
  show(w.heap++os)[b]? =w.heap[b]?
  rw[PI hb],(by simp),(by simp),.nil⟩
theorem Sb(H:Wd X X h lv c w w):Lib.TabIs Tryz.prog w "internal/strconv.uint64pow10" .u64 Lib.pow10Tab:=by
 unfold Lib.TabIs World.var?
 obtain⟨g,hg⟩:∃g,Tryz.prog.globalNamed "internal/strconv.uint64pow10" =some g:=iF.1 zK
 obtain⟨h1,C,T,fr,h2,h3⟩:=H.gz g hg
 rw[hg]
 simp only[DA,h2,F2]
 have hl:fD.length=20:=by simp[fD,Lib.pow10Tab_length]
 refine JJ fun i=>?_
 have e:(Lib.pow10Tab.map fun z=>Value.int .u64 z).toArray[i]? =fD[i]? :=by rw[fQ];rfl
 rw[e]
 cases hx:fD[i]? with
|none=>
  rw[List.getElem?_eq_none_iff]at hx
  exact DG zO
|some x=>
  have h4:=H.fz g (0+i) x (h1 i x hx)
  have h5:x.oneCell'=true:=by
   unfold fD at hx
   rw[Y6]at hx
   obtain⟨z,_,rfl⟩:=eL.1 hx
   rfl
  have h6:=h4.c h5
  simp only[World.cell?, h2,J5]at h6
  exact h6
theorem Sc(n:Int):Sat Tryz.prog 166 [.i .i64 n,.i .i64 10] [] (fun out A0=>A0=[]/\∃l,out=.s l/\l.length<=21):=uB fun X w vs h1 h2 H=>by
 obtain⟨x,y,rfl⟩:∃x y,vs=[x,y]:=by
  match vs,h1 with
 |[x,y],_=>exact⟨x,y,rfl⟩
 have hx:=h2 0 _ _ rfl rfl
 have hy:=h2 1 _ _ rfl rfl
 have hn:=wI (VL hx)
 obtain⟨e1,_⟩:=hx
 obtain⟨e2,_⟩:=hy
 simp only[qP,and_true]at e1 e2
 subst e1 e2
 refine x9 (Any.strconv_FormatInt_10 Tryz.fiM n zO zO w (Sb H)) fun e w' ⟨he,k,os,hw⟩=>?_
 subst hw
 refine⟨_,he,⟨_,⟨rfl,_,rfl,Lib.itoa_length_le n zO zO⟩,rfl,?_⟩,Sa _ _ _⟩
 have:=Lib.itoa_length_le n zO zO
 have mx:maxLen=9223372036854775807:=rfl
 omega
theorem HG(n:Int):Sat Tryz.prog 120 [.i .i64 n] [] (fun out A0=>A0=[]/\(∃l,out=.s l/\l.length<=21)):=by
 refine cF Tryz.func120 fun X0 w0 hX=>?_
 refine cK [] (Sc n) ?_;rintro out A0 ⟨rfl,⟨fZ,rfl,hf0⟩⟩
 exact xW hX (.s fZ) ⟨rfl,rfl,⟨_,rfl,bd⟩⟩
theorem E6(n:Int):Sat Tryz.prog 27 [.i .i64 n] [] (fun out A0=>A0=[]/\(out=A1 [.i .i64 n,.bl 0 []])):=by
 refine cF Tryz.func27 fun X0 w0 hX=>?_
 exact xW hX (A1 [.i .i64 n,.bl 0 []]) ⟨rfl,rfl,rfl⟩
theorem kZ(b:By):Sat Tryz.prog 77 [.bl 0 b] [] (fun out A0=>A0=[]/\(out=A1 [.i .i64 200,.bl 0 b])):=by
 refine cF Tryz.func77 fun X0 w0 hX=>?_
 exact xW hX (A1 [.i .i64 200,.bl 0 b]) ⟨rfl,rfl,rfl⟩
theorem yQ(c n:Int):Sat Tryz.prog 119 [.i .i64 c,.i .i64 n] [] (fun out A0=>∃l,out=A1 [.i .i64 c,.bl 2 l]/\A0=[2]/\l.length<=21):=by
 refine cF Tryz.func119 fun X0 w0 hX=>?_
 refine cK [] (HG n) ?_;rintro out A0 ⟨rfl,⟨fZ,rfl,hf0⟩⟩
 exact xW hX (A1 [.i .i64 c,.bl 2 fZ]) ⟨rfl,_,rfl,rfl,bd⟩
theorem Sd(t:TenR)(b:By)(hb:b.length<=100000):Sat Tryz.prog 112 [B4 t,.bl 0 b] [] (fun out A0=>A0=[]/\(∃m,out=.bs 32 m)):=by
 refine cF Tryz.func112 fun X0 w0 hX=>?_
 refine mM fV true ?_;refine S0 (uJ ((t.key.drop 0).take 32) 0 1 1 (fun _=>.bl 0 b) (fun _ _=>⟨_,_,rfl,bd⟩) (by decide)) ?_;rintro out A0 ⟨rfl,⟨l7,rfl⟩⟩
 refine⟨rfl,?_⟩
 exact xW hX (.bs 32 l7) ⟨rfl,rfl,⟨_,rfl⟩⟩
def S7(m:Mani):Bool:=decide (0<=m.time/\m.label.length<=64)&&(List.range m.label.length).all fun j=>decide (32<=(m.label.getD j 0).toNat/\(m.label.getD j 0).toNat<=126)
theorem lA{m:Mani}(h0:0<=m.time)(h:∀j,j<m.label.length->32<=(m.label.getD j 0).toNat/\(m.label.getD j 0).toNat<=126):S7 m=decide (m.label.length<=64):=by
 unfold S7
 rw[show((List.range m.label.length).all fun j=>decide (32<=(m.label.getD j 0).toNat/\(m.label.getD j 0).toNat<=126))=true from P5.2 fun j hj=>decide_eq_true (h j (qQ.1 hj)),Bool.and_true]
 simp only[h0,true_and]
theorem nD{m:Mani}(h0:0<=m.time)(h1:m.label.length<=64)(h:∀j,j<m.label.length->32<=(m.label.getD j 0).toNat/\(m.label.getD j 0).toNat<=126):S7 m=true:=by rw[lA h0 h,decide_eq_true h1]
theorem nE{m:Mani}(h:¬ (0<=m.time/\m.label.length<=64)):S7 m=false:=by unfold S7;rw[decide_eq_false h];rfl
theorem nF{m:Mani}(hk:k<m.label.length)(h:¬ (32<=(m.label.getD k 0).toNat/\(m.label.getD k 0).toNat<=126)):S7 m=false:=by
 rw[<-Bool.not_eq_true]
 intro e
 unfold S7 at e
 rw[A9]at e
 exact h (of_decide_eq_true (P5.1 e.2 k (qQ.2 hk)))
theorem jQ{m:Mani}(h:S7 m=true):m.label.length<=64:=by
 unfold S7 at h
 rw[A9]at h
 exact(of_decide_eq_true h.1).2
theorem XK(m:Mani)(hl:m.label.length<100000):Sat Tryz.prog 160 [f8 m] [] (fun out A0=>A0=[]/\(out=.b (S7 m))):=by
 refine cF Tryz.func160 fun X0 w0 hX=>?_
 refine cB (m.time<0) ?_ ?_<;>intro h1
 ·exact xW hX (.b false) ⟨rfl,rfl,by first|rw[nD zO zO fun j hj=>hI.2 j zO]|rw[nE zO]|rw[nF (k:=k) zO zO]|exact congrArg V.b ((decide_eq_decide.2 zO).trans (lA zO fun j hj=>hI.2 j zO).symm)⟩
 refine cB (64<(m.label.length:Int)) ?_ ?_<;>intro h2
 ·exact xW hX (.b false) ⟨rfl,rfl,by first|rw[nD zO zO fun j hj=>hI.2 j zO]|rw[nE zO]|rw[nF (k:=k) zO zO]|exact congrArg V.b ((decide_eq_decide.2 zO).trans (lA zO fun j hj=>hI.2 j zO).symm)⟩
 refine cM hX (fun(k:Nat)=>[(1,.pr 16 0 []),(15,.i .i64 (m.label.length:Int)),(16,.i .i64 (k:Int))]) (fun(k:Nat)=>[(16,f8 m)]) (fun(k:Nat)=>k<=m.label.length/\∀j,j<k->32<=(m.label.getD j 0).toNat/\(m.label.getD j 0).toNat<=126) (fun(k:Nat)=>m.label.length-k) [] 976 0 ⟨by simp,fun j hj=>absurd hj (S4 j)⟩ ?_
 rintro k hI R hR
 refine cB ((k:Int)<(m.label.length:Int)) ?_ ?_<;>intro h3
 ·refine cC ((0:Int)<=(k:Int)/\(k:Int)<(m.label.length:Int)) ?_
  refine cB (((m.label.getD k 0).toNat:Int)<32) ?_ ?_<;>intro h4
  ·exact xW hX (.b false) ⟨rfl,rfl,by first|rw[nD zO zO fun j hj=>hI.2 j zO]|rw[nE zO]|rw[nF (k:=k) zO zO]|exact congrArg V.b ((decide_eq_decide.2 zO).trans (lA zO fun j hj=>hI.2 j zO).symm)⟩
  refine cC ((0:Int)<=(k:Int)/\(k:Int)<(m.label.length:Int)) ?_
  refine cB (126<((m.label.getD k 0).toNat:Int)) ?_ ?_<;>intro h5
  ·exact xW hX (.b false) ⟨rfl,rfl,by first|rw[nD zO zO fun j hj=>hI.2 j zO]|rw[nE zO]|rw[nF (k:=k) zO zO]|exact congrArg V.b ((decide_eq_decide.2 zO).trans (lA zO fun j hj=>hI.2 j zO).symm)⟩
  exact cA hX (hR (k+1) ⟨bd,fun j hj=>(qW.1 hj).elim (hI.2 j) fun e=>by rw[e];omega⟩ zO) (hS:=⟨v0,v0,(vS bd),zT⟩)
 exact xW hX (.b true) ⟨rfl,rfl,by first|rw[nD zO zO fun j hj=>hI.2 j zO]|rw[nE zO]|rw[nF (k:=k) zO zO]|exact congrArg V.b ((decide_eq_decide.2 zO).trans (lA zO fun j hj=>hI.2 j zO).symm)⟩
theorem XL(m:Mani)(hl:m.label.length<50000):Sat Tryz.prog 123 [f8 m] [] (fun out A0=>∃l e,out=A2 [.bl 2 l,.i .i64 e]/\A0=[2]/\l.length<=m.label.length+100/\(S7 m=true->l.length=43+m.label.length)):=by
 refine cF Tryz.func123 fun X0 w0 hX=>?_
 refine rS 0 fun hr=>?_
 have hg:m.root.length=32:=hr 0 (show 0<3 by decide)
 refine cQ [] (XK m bd) ?_;refine cn ((S7 m)) ?_ ?_<;>intro h1
 ·exact xW hX (A2 [.bl 2 [],.i .i64 1]) ⟨rfl,_,_,rfl,rfl,bd,by first|exact fun h=>absurd h (by rw[h1];decide)|exact fun h=>(by have q:=jQ h;have q1:=hq1.2 rfl;have q2:=hy2.2 zO;simp only[C6,G8,M3]at q1;omega)⟩
 refine cC (([83,49].length+m.root.length)*1<=140737488355328) ?_ bd
 refine cK [] (nB ([83,49]++m.root) (u64.wrap m.time) 8 bd bd) ?_;rintro out A0 ⟨mA,pe1,rfl,rfl,hp1,hq1⟩
 refine cK [] (uE mA m.label bd bd) ?_;rintro out A0 ⟨xl2,xe2,rfl,rfl,hx2,hy2⟩
 exact xW hX (A2 [.bl 2 xl2,.i .i64 xe2]) ⟨rfl,_,_,rfl,rfl,bd,by first|exact fun h=>absurd h (by rw[h1];decide)|exact fun h=>(by have q:=jQ h;have q1:=hq1.2 rfl;have q2:=hy2.2 zO;simp only[C6,G8,M3]at q1;omega)⟩
theorem Se(b:By)(hb:b.length<50000):Sat Tryz.prog 116 [.bl 0 b] [] (fun out A0=>A0=[]/\(∃m e,out=A2 [f8 m,.i .i64 e]/\m.label.length<=b.length/\(e=0->S7 m=true/\b.length=43+m.label.length))):=by
 refine cF Tryz.func116 fun X0 w0 hX=>?_
 refine cB ((b.length:Int)<34) ?_ ?_<;>intro h1
 ·exact xW hX (A2 [f8 ⟨(replicate 32 0),0,[]⟩,.i .i64 4]) ⟨rfl,rfl,⟨_,_,rfl,bd,by first|exact fun h=>absurd h (by decide)|exact fun _=>⟨h7,(by have q:=jQ h7;dsimp only at q ⊢;have q1:=oJ.2 (i7.1 h5) zO;have q2:=i7.1 h6;rw[I8 ⟨zO,zO⟩]at q2;omega)⟩⟩⟩ (hv:=vT (u:=A2 [A1 [.bs 32 (replicate 32 0),.i .i64 0,.s []],.i .i64 4]) (F5 ⟨C4 ⟨.rfl _,.rfl _,.rfl _,zT⟩,.rfl _,zT⟩))
 refine cC ((0:Int)<=0/\(0:Int)<=2/\2<=(b.length:Int)) ?_
 refine cN (((b.drop 0).take (2-0))=[83,49]) ?_ ?_<;>intro h2
 ·exact xW hX (A2 [f8 ⟨(replicate 32 0),0,[]⟩,.i .i64 4]) ⟨rfl,rfl,⟨_,_,rfl,bd,by first|exact fun h=>absurd h (by decide)|exact fun _=>⟨h7,(by have q:=jQ h7;dsimp only at q ⊢;have q1:=oJ.2 (i7.1 h5) zO;have q2:=i7.1 h6;rw[I8 ⟨zO,zO⟩]at q2;omega)⟩⟩⟩ (hv:=vT (u:=A2 [A1 [.bs 32 (replicate 32 0),.i .i64 0,.s []],.i .i64 4]) (F5 ⟨C4 ⟨.rfl _,.rfl _,.rfl _,zT⟩,.rfl _,zT⟩))
 refine cK [] (VV b 34 8 bd bd bd) ?_
 rintro out A0 ⟨rfl,⟨oI,wJ,rfl,ha0,hA0,he0,y8⟩⟩
 refine cB (wJ≠0) ?_ ?_<;>intro h3
 ·exact xW hX (A2 [f8 ⟨(replicate 32 0),0,[]⟩,.i .i64 4]) ⟨rfl,rfl,⟨_,_,rfl,bd,by first|exact fun h=>absurd h (by decide)|exact fun _=>⟨h7,(by have q:=jQ h7;dsimp only at q ⊢;have q1:=oJ.2 (i7.1 h5) zO;have q2:=i7.1 h6;rw[I8 ⟨zO,zO⟩]at q2;omega)⟩⟩⟩ (hv:=vT (u:=A2 [A1 [.bs 32 (replicate 32 0),.i .i64 0,.s []],.i .i64 4]) (F5 ⟨C4 ⟨.rfl _,.rfl _,.rfl _,zT⟩,.rfl _,zT⟩))
 refine cB (9223372036854775807<oI) ?_ ?_<;>intro h4
 ·exact xW hX (A2 [f8 ⟨(replicate 32 0),0,[]⟩,.i .i64 4]) ⟨rfl,rfl,⟨_,_,rfl,bd,by first|exact fun h=>absurd h (by decide)|exact fun _=>⟨h7,(by have q:=jQ h7;dsimp only at q ⊢;have q1:=oJ.2 (i7.1 h5) zO;have q2:=i7.1 h6;rw[I8 ⟨zO,zO⟩]at q2;omega)⟩⟩⟩ (hv:=vT (u:=A2 [A1 [.bs 32 (replicate 32 0),.i .i64 0,.s []],.i .i64 4]) (F5 ⟨C4 ⟨.rfl _,.rfl _,.rfl _,zT⟩,.rfl _,zT⟩))
 refine cC ((0:Int)<=42/\42<=(b.length:Int)) ?_
 refine cK [] (NA ((b.drop 42).take (b.length-42)) bd) ?_;rintro out A0 ⟨xs1,xa1,xe1,rfl,rfl,hxa1,oJ⟩
 simp only[F7,K4]at hxa1 oJ
 refine cB (xe1≠0) ?_ ?_<;>intro h5
 ·exact xW hX (A2 [f8 ⟨(replicate 32 0),0,[]⟩,.i .i64 4]) ⟨rfl,rfl,⟨_,_,rfl,bd,by first|exact fun h=>absurd h (by decide)|exact fun _=>⟨h7,(by have q:=jQ h7;dsimp only at q ⊢;have q1:=oJ.2 (i7.1 h5) zO;have q2:=i7.1 h6;rw[I8 ⟨zO,zO⟩]at q2;omega)⟩⟩⟩ (hv:=vT (u:=A2 [A1 [.bs 32 (replicate 32 0),.i .i64 0,.s []],.i .i64 4]) (F5 ⟨C4 ⟨.rfl _,.rfl _,.rfl _,zT⟩,.rfl _,zT⟩))
 refine cB ((i64.wrap (42+xa1))≠(b.length:Int)) ?_ ?_<;>intro h6
 ·exact xW hX (A2 [f8 ⟨(replicate 32 0),0,[]⟩,.i .i64 4]) ⟨rfl,rfl,⟨_,_,rfl,bd,by first|exact fun h=>absurd h (by decide)|exact fun _=>⟨h7,(by have q:=jQ h7;dsimp only at q ⊢;have q1:=oJ.2 (i7.1 h5) zO;have q2:=i7.1 h6;rw[I8 ⟨zO,zO⟩]at q2;omega)⟩⟩⟩ (hv:=vT (u:=A2 [A1 [.bs 32 (replicate 32 0),.i .i64 0,.s []],.i .i64 4]) (F5 ⟨C4 ⟨.rfl _,.rfl _,.rfl _,zT⟩,.rfl _,zT⟩))
 refine cC ((0:Int)<=2/\(2:Int)<=34/\34<=(b.length:Int)) ?_
 refine cC (32<=((b.drop 2).take (34-2)).length) ?_ bd;refine cQ [] (XK ⟨(((b.drop 2).take (34-2)).take 32),(i64.wrap oI),xs1⟩ bd) ?_;refine cn ((S7 ⟨(((b.drop 2).take (34-2)).take 32),(i64.wrap oI),xs1⟩)) ?_ ?_<;>intro h7
 ·exact xW hX (A2 [f8 ⟨(replicate 32 0),0,[]⟩,.i .i64 4]) ⟨rfl,rfl,⟨_,_,rfl,bd,by first|exact fun h=>absurd h (by decide)|exact fun _=>⟨h7,(by have q:=jQ h7;dsimp only at q ⊢;have q1:=oJ.2 (i7.1 h5) zO;have q2:=i7.1 h6;rw[I8 ⟨zO,zO⟩]at q2;omega)⟩⟩⟩ (hv:=vT (u:=A2 [A1 [.bs 32 (replicate 32 0),.i .i64 0,.s []],.i .i64 4]) (F5 ⟨C4 ⟨.rfl _,.rfl _,.rfl _,zT⟩,.rfl _,zT⟩))
 exact xW hX (A2 [f8 ⟨(((b.drop 2).take (34-2)).take 32),(i64.wrap oI),xs1⟩,.i .i64 0]) ⟨rfl,rfl,⟨_,_,rfl,bd,by first|exact fun h=>absurd h (by decide)|exact fun _=>⟨h7,(by have q:=jQ h7;dsimp only at q ⊢;have q1:=oJ.2 (i7.1 h5) zO;have q2:=i7.1 h6;rw[I8 ⟨zO,zO⟩]at q2;omega)⟩⟩⟩ (hv:=vT (u:=A2 [A1 [.bs 32 (((b.drop 2).take (34-2)).take 32),.i .i64 (i64.wrap oI),.s xs1],.i .i64 0]) (F5 ⟨C4 ⟨.rfl _,.rfl _,.rfl _,zT⟩,.rfl _,zT⟩))
theorem Sf(t n:Nat)(g:Nat->V)(hg:∀i,i<n->∃q l,g i=.bl q l)(hn:n<=8):Sat Tryz.prog 87 [.sl t 1 n g] [] (fun out A0=>A0=[]/\∃m,out=.bs 32 m):=by
 have h1:∀i,∃l:By,i<n->∃q,g i=.bl q l:=fun i=>by
  by_cases h:i<n
  ·obtain⟨q,l,e⟩:=hg i h;exact⟨l,fun _=>⟨q,e⟩⟩
  exact⟨[],fun h'=>absurd h' h⟩
 exact(Rl t n g (fun i=>(h1 i).choose) (fun i hi=>(h1 i).choose_spec hi) zO).mono fun out A0 h=>⟨h.1,_,h.2⟩
theorem Sg{e:Ent}(h:(H8 e).rng):e.of.length=32:=h 6 (show 6<7 by decide)
theorem XM(e:Ent):Sat Tryz.prog 137 [H8 e] [] (fun out A0=>A0=[]/\(∃p,out=.b p)):=by
 refine cF Tryz.func137 fun X0 w0 hX=>?_
 refine cB (0<=e.seq) ?_ ?_<;>intro h1
 ·refine cB (0<=e.tick) ?_ ?_<;>intro h2
  ·refine cB (0<=e.do) ?_ ?_<;>intro h3
   ·refine cB (e.do<=255) ?_ ?_<;>intro h4
    ·refine cB (0<=e.status) ?_ ?_<;>intro h5
     ·refine cB (e.status<=999) ?_ ?_<;>intro h6
      ·exact xW hX (.b (decide ((e.tenant.length:Int)<=16))) ⟨rfl,rfl,⟨_,rfl⟩⟩
      exact xW hX (.b false) ⟨rfl,rfl,⟨_,rfl⟩⟩
     exact xW hX (.b false) ⟨rfl,rfl,⟨_,rfl⟩⟩
    exact xW hX (.b false) ⟨rfl,rfl,⟨_,rfl⟩⟩
   exact xW hX (.b false) ⟨rfl,rfl,⟨_,rfl⟩⟩
  exact xW hX (.b false) ⟨rfl,rfl,⟨_,rfl⟩⟩
 exact xW hX (.b false) ⟨rfl,rfl,⟨_,rfl⟩⟩
theorem XN(e:Ent)(he:e.tenant.length<=1000):Sat Tryz.prog 86 [H8 e] [] (fun out A0=>∃l c,out=A2 [.bl 2 l,.i .i64 c]/\A0=[2]/\l.length<=e.tenant.length+100):=by
 refine cF Tryz.func86 fun X0 w0 hX=>?_
 refine rS 0 fun hr=>?_
 have hg:=Sg hr
 refine cK [] (XM e) ?_;rintro out A0 ⟨rfl,⟨w7,rfl⟩⟩
 refine cn (w7) ?_ ?_<;>intro h1
 ·exact xW hX (A2 [.bl 2 [],.i .i64 1]) ⟨rfl,_,_,rfl,rfl,bd⟩
 refine cK [] ((nB [] (u64.wrap e.seq) 8 bd bd).full (ins':=[.bl 1 [],.i .u64 (u64.wrap e.seq),.i .i64 8])) ?_
 rintro out A0 ⟨mA,pe1,rfl,rfl,hp1,hq1⟩
 have hp1:mA.length<=8:=by simpa using hp1
 refine cK [] (nB mA (u64.wrap e.tick) 8 bd bd) ?_;rintro out A0 ⟨pl2,pe2,rfl,rfl,hp2,hq2⟩
 refine cK [] (nB pl2 e.serial 8 bd bd) ?_;rintro out A0 ⟨oK,pe3,rfl,rfl,hp3,hq3⟩
 refine cK [] (uE oK e.tenant bd bd) ?_;rintro out A0 ⟨xl4,xe4,rfl,rfl,hx4,hy4⟩
 refine cK [] (nB xl4 (u64.wrap e.do) 1 bd bd) ?_;rintro out A0 ⟨pl5,pe5,rfl,rfl,hp5,hq5⟩
 refine cK [] (nB pl5 (u64.wrap e.status) 2 bd bd) ?_;rintro out A0 ⟨pl6,pe6,rfl,rfl,hp6,hq6⟩
 refine cC ((pl6.length+e.of.length)*1<=140737488355328) ?_;exact xW hX (A2 [.bl 2 (pl6++e.of),.i .i64 0]) ⟨rfl,_,_,rfl,rfl,bd⟩
theorem qH(h:By)(e:Ent)(he:e.tenant.length<=1000):Sat Tryz.prog 31 [.bs 32 h,H8 e] [] (fun out A0=>A0=[]/\(∃m c,out=A2 [.bs 32 m,.i .i64 c])):=by
 refine cF Tryz.func31 fun X0 w0 hX=>?_
 refine cK [] (XN e bd) ?_;rintro out A0 ⟨al0,wJ,rfl,rfl,ha0⟩
 refine cB (wJ≠0) ?_ ?_<;>intro h1
 ·exact xW hX (A2 [.bs 32 (replicate 32 0),.i .i64 wJ]) ⟨rfl,rfl,⟨_,_,rfl⟩⟩
 refine cK [] (Sf 1 2 (fun i=>bif beq i 1 then .bl 0 al0 else bif beq i 0 then .bl 1 h else .bl 1 []) (fun i hi=>match i,hi with|0,_=>⟨_,_,rfl⟩|1,_=>⟨_,_,rfl⟩) (by decide)) ?_
 rintro out A0 ⟨rfl,⟨lW,rfl⟩⟩
 exact xW hX (A2 [.bs 32 lW,.i .i64 0]) ⟨rfl,rfl,⟨_,_,rfl⟩⟩
theorem Sh(n:Nat)(g:Nat->Ent)(hn:n<=4096)(hg:∀i,i<n->(g i).tenant.length<=100):Sat Tryz.prog 136 [.sl 0 38 n fun i=>H8 (g i)] [] (fun out A0=>A0=[]/\(∃m c,out=A2 [.bs 32 m,.i .i64 c])):=by
 refine cF Tryz.func136 fun X0 w0 hX=>?_
 refine cM hX (fun(k:Nat)=>[(0,.sl 0 38 n fun i=>H8 (g i)),(2,.pr 16 0 []),(9,.sl 0 38 n fun i=>H8 (g i)),(10,.i .i64 (n:Int)),(11,.i .i64 (k:Int))]) (fun(k:Nat)=>[(16,.bs 32 (replicate 32 0))]) (fun(k:Nat)=>k<=n) (fun(k:Nat)=>n-k) [] 336 0 (by simp) ?_;rintro k hI R hR
 refine cB ((k:Int)<(n:Int)) ?_ ?_<;>intro h1
 ·refine cC ((0:Int)<=(k:Int)/\(k:Int)<(n:Int)) ?_
  refine cK [] (XM (g k)) ?_;rintro out A0 ⟨rfl,⟨w7,rfl⟩⟩
  refine cn (w7) ?_ ?_<;>intro h2
  ·exact xW hX (A2 [.bs 32 (replicate 32 0),.i .i64 1]) ⟨rfl,rfl,⟨_,_,rfl⟩⟩
  exact cA hX (hR (k+1) zO zO) (hS:=⟨v0,v0,v0,v0,(vS bd),zT⟩)
 refine cM hX (fun(p:Nat×By)=>[(2,.pr 16 0 []),(6,.pr 400 0 []),(20,.sl 0 38 n fun i=>H8 (g i)),(21,.i .i64 (n:Int)),(22,.i .i64 (p.1:Int))]) (fun(p:Nat×By)=>[(16,.bs 32 (replicate 32 0)),(400,.bs 32 p.2)]) (fun(p:Nat×By)=>p.1<=n) (fun(p:Nat×By)=>n-p.1) [] 656 (0,replicate 32 0) (by simp) ?_
 rintro⟨k,m⟩ hI R hR
 dsimp only at hI
 refine cB ((k:Int)<(n:Int)) ?_ ?_<;>intro h3
 ·have hk:=hg k zO
  refine cC ((0:Int)<=(k:Int)/\(k:Int)<(n:Int)) ?_;refine cB ((g k).seq≠(k:Int)) ?_ ?_<;>intro h4
  ·exact xW hX (A2 [.bs 32 (replicate 32 0),.i .i64 10]) ⟨rfl,rfl,⟨_,_,rfl⟩⟩
  refine cK [] (qH m (g k) bd) ?_
  rintro out A0 ⟨rfl,⟨lm1,le1,rfl⟩⟩
  exact cA hX (hR (k+1,lm1) bd (by dsimp only;omega)) (hS:=⟨v0,v0,v0,v0,(vS bd),zT⟩)
 exact xW hX (A2 [.bs 32 m,.i .i64 0]) ⟨rfl,rfl,⟨_,_,rfl⟩⟩
section
variable {n:Nat} {σ:Nat->Value} {K:Act->World->Prop}
 {ty:TypeId} {pos:String} {aft:Array Edge} {g:Option (Nat×Bool)} {d:Nat} {t yt:TypeId} {x y z:Operand} {S:List Nat} {L:List Ch}
theorem HH{b:Nat}{C':List Value}{T:TypeId}(H:Hp w0 w S L)(hi:L[i]? =some (.blk b C T))(hx:ev n σ x=.pointer (some ⟨b,0,none⟩))(hy:ev n σ y=.agg C'.toArray)
  (hs:K2 P t=some k)(h1:C'.all (·.oneCell')=true)(hk:C.length=k)(i8:C'.length=k)
  (h:∀w',Hp w0 w' S (L.set i (.blk b C' T))->K (mk n σ) w'):Oper.wp P ⟨none,.store t x y,ty,pos,aft,g⟩ (mk n σ) w K Q:=
 iY H hi hx hy (by rw[hs,bO,i8]) (by rw[nL];exact h1) (by rw[bO,hk,i8]) fun w' H'=>h w' H'
structure Gl (α:Type) where
 a:Option Addr
 len:Nat
 cap:Nat
 l:List α
def Gl.v{α:Type}(s:Gl α):Value:=.slice s.a s.len s.cap
structure Gl.ok {α:Type} (enc:α->List Value) (sz:Nat) (s:Gl α) (w:World):Prop where
 rd:RdS w s.a (s.l.flatMap enc)
 ln:s.l.length=s.len
 le:s.len<=s.cap
 mx:s.cap<=maxLen
 sz:∀c∈s.l,(enc c).length=sz
theorem Gl.ok.up{enc:α->List Value}{sz:Nat}{s:Gl α}(hs:s.ok enc sz w0)(H:Hp w0 w [] L):s.ok enc sz w:=⟨H.rd hs.rd (U9 _),hs.ln,hs.le,hs.mx,hs.sz⟩
theorem yR{α:Type}{enc:α->List Value}{sz:Nat}:∀{l:List α},(∀c∈l,(enc c).length=sz)->(l.flatMap enc).length=l.length*sz
|[],_=>by simp
|c::l,h=>by
  rw[iG,C6,h c (by simp),yR (l:=l) (fun c hc=>h c (by simp[hc])),G8,G7,Nat.add_comm]
theorem XO{α:Type}{enc:α->List Value}{sz:Nat}{c:α}:∀{l:List α} {k:Nat},(∀c∈l,(enc c).length=sz)->l[k]? =some c->((l.flatMap enc).drop (k*sz)).take sz=enc c
|[],k,_,h=>by simp at h
|b::l,0,hs,h=>by
  simp at h;subst h
  have:=hs b (by simp)
  rw[Nat.zero_mul,qM,iG, <-this,List.take_left]
|b::l,k+1,hs,h=>by
  have hb:=hs b (by simp)
  rw[G7,Nat.add_comm,iG, <-List.drop_drop, <-hb,List.drop_left,hb]
  exact XO (fun c hc=>hs c (by simp[hc])) (by simpa using h)
theorem Gl.ok.addr{enc:α->List Value}{sz:Nat}{s:Gl α}(h:s.ok enc sz w)(hz:0<sz)(hp:0<s.len):∃b o,s.a=some ⟨b,o,none⟩:=
 h.rd.addr (by rw[yR h.sz,h.ln];exact Nat.mul_pos hp hz)
theorem NQ{enc:α->List Value}{sz:Nat}{s:Gl α}{b:Nat}{c:α}(hs:s.ok enc sz w)(ha:s.a=some ⟨b,o,none⟩)(hx:ev n σ x=.pointer (some ⟨b,o+k*sz,none⟩))(ht:T5 P t=some sz)(hz:0<sz)(hk:s.l[k]? =some c):
  (execOp (ev n σ) ⟨some d,.load t x,ty,pos,aft,g⟩).run P w=.ok (.value (.agg (enc c).toArray)) w:=by
 have hlt:k<s.l.length:=(N1.1 hk).1
 have:=Dw (P:=P) (w:=w) (t:=t) (d:=d) (ty:=ty) (pos:=pos) (aft:=aft) (g:=g) hs.rd ha hx ht hz (by
  rw[yR hs.sz]
  have:(k+1)*sz<=s.l.length*sz:=G2 _ hlt
  rw[G7]at this;exact this)
 rwa [XO hs.sz hk]at this
theorem Hp.glOwn{enc:α->List Value}(H:Hp w0 w S L){a:Option Nat}{sz:Nat}{l:List α}{T:TypeId}(hi:L[i]? =some (.own a len cap (l.flatMap enc) T sz))(hz:0<sz)(hs:∀c∈l,(enc c).length=sz):(⟨hd a,len,cap,l⟩:Gl α).ok enc sz w:=by
 have h:=H.ownLen hi
 refine⟨H.own hi,?_,h.2.1,h.2.2,hs⟩
 have h1:=h.1
 rw[yR hs]at h1
 exact PJ hz h1
theorem HI{enc:α->List Value}{a:Option Nat}{len' sz bytes:Nat}{l l':List α}{e':TypeId}{tx:TypeId}{s:Gl α}(el:l++s.l=l')(en:len+s.len=len')(H:Hp w0 w S L)(hi:L[i]? =some (.own a len cap (l.flatMap enc) e sz))(hT:SlTy P t e sz bytes)(hu:P.underlying tx=some (.slice e'))
  (hx:ev n σ x=.slice (hd a) len cap)(hy:ev n σ y=s.v)(hs:s.ok enc sz w)(hz:0<sz)(h1:∀c∈s.l,(enc c).all (·.oneCell')=true)(hm:len'<=68719476736)(hb:bytes<=2048)
  (h:∀a' M5 w',Hp w0 w' S (L.set i (.own a' len' M5 (l'.flatMap enc) e sz))->K (mk n (up σ d (.slice (hd a') len' M5))) w'):
  Oper.wp P ⟨some d,.call ⟨.builtin .append, #[x,y], #[t,tx]⟩,ty,pos,aft,g⟩ (mk n σ) w K Q:=by
 subst el en
 have dI:∀u∈s.l.flatMap enc,u.oneCell'=true:=by
  intro u hu
  obtain⟨c,hc,huc⟩:=List.mem_flatMap.1 hu
  exact P5.1 (h1 c hc) u huc
 refine PX (m:=s.len) (news:=s.l.flatMap enc) H hi hT hx hy (RdS.src hu hs.rd (by rw[yR hs.sz,hs.ln]) hz dI) hz zO (J2 (Nat.mul_le_mul hm hb) (by decide)) fun a' M5 w' H'=>h a' M5 w' ?_
 rw[List.flatMap_append];exact H'
theorem Si(sz:Nat)(zs vs:List Value)(h1:zs.length=sz)(h2:vs.length=sz):Instr.fill (fun i=>some (i*sz,sz)) zs.toArray [(0,.agg vs.toArray)]=some vs.toArray:=by
 have h:∀(vs done zs:List Value),zs.length=vs.length->(vs.zipIdx done.length).foldl (fun(L0:Array Value) (p:Value×Nat)=>L0.setIfInBounds p.2 p.1) (done++zs).toArray=(done++vs).toArray:=by
  intro vs
  induction vs with
 |nil=>intro done zs hz;have:zs=[]:=l4.1 (by simpa using hz);subst this;simp
 |cons v vs ih=>
   intro done zs hz
   cases zs with
  |nil=>simp at hz
  |cons z zs=>
    have:=ih (done++[v]) zs (by simpa using hz)
    simp only[C6,u7,H9,List.singleton_append]at this
    rw[<-this,List.zipIdx_cons,List.foldl_cons]
    congr 1
    simp[List.set_append]
 have:=h vs [] zs zO
 simp only[Instr.fill,Value.cells,Nat.zero_mul]
 rw[if_neg (by simp[h1,h2])]
 simpa [J5] using this
theorem NR{enc:α->List Value}{sz bytes:Nat}{F3:Array (Nat×Operand)}(c:α)(H:Hp w0 w S L)(hT:SlTy P t e sz bytes)(hz:zeroCells P e=some zs)(eM:zs.length=sz)(h0:0<sz)(hsm:sz<=16777216)
  (hp:W6 n σ F3.toList=[(0,.agg (enc c).toArray)])(hc:(enc c).length=sz)
  (h:∀b w',Hp w0 w' S (L++[.own (some b) 1 1 ([c].flatMap enc) e sz])->w0.heap.size<=b->K (mk n (up σ d (.slice (hd (some b)) 1 1))) w'):
  Oper.wp P ⟨some d,.buildSlice t 1 F3,ty,pos,aft,g⟩ (mk n σ) w K Q:=by
 refine sU (cells:=(enc c).toArray) H hT hz h0 hp zO ?_ fun b w' H' hb=>h b w' ?_ hb
 ·have rU:((Array.range (1*sz)).map (zs.toArray[· % zs.toArray.size]!)).toList.length=sz:=by simp
  have:=Si sz ((Array.range (1*sz)).map (zs.toArray[· % zs.toArray.size]!)).toList (enc c) rU hc
  rwa [Array.toArray_toList]at this
 have:=H'.toOwn (i:=L.length) (len:=1) (cap:=1) (sz:=sz) (b:=b) (C:=enc c) (T:=e) (by simp) (B2 _) (by decide) zO
 rw[dA _ _ (B2 _),bP,V9 zO]at this
 simpa using this
theorem Sj{enc:α->List Value}{sz bytes:Nat}(H:Hp w0 w S L)(hT:SlTy P t e sz bytes)(hz:zeroCells P e=some zs)(h0:0<sz)
  (h:∀b w',Hp w0 w' S (L++[.own (some b) 0 0 (([]:List α).flatMap enc) e sz])->w0.heap.size<=b->K (mk n (up σ d (.slice (hd (some b)) 0 0))) w'):
  Oper.wp P ⟨some d,.buildSlice t 0 #[],ty,pos,aft,g⟩ (mk n σ) w K Q:=by
 refine sU (pv:=[]) (cells:= #[]) H hT hz h0 rfl zO ?_ fun b w' H' hb=>h b w' ?_ hb
 ·simp[Instr.fill]
 have:=H'.toOwn (i:=L.length) (len:=0) (cap:=0) (sz:=sz) (b:=b) (C:=[]) (T:=e) (by simp) (B2 _) (by decide) (by simp)
 rw[dA _ _ (B2 _),bP]at this
 simpa using this
end
section
variable {n:Nat} {σ:Nat->Value} {K:Act->World->Prop}
 {ty:TypeId} {pos:String} {aft:Array Edge} {g:Option (Nat×Bool)} {d:Nat} {t yt:TypeId} {x y:Operand} {S:List Nat} {L:List Ch}
theorem Sk(he:O5 P e=true){xs:Array Value}{off:Nat}{v:Value}(hx:xs[off]? =some v):(part e xs off).run P w=.ok v w:=by simp[part,oU he,hx]
theorem Sm{t:TypeId}(hu:P.underlying t=some (.array m e))(he:P.underlying e=some (.int .u8))(hc:K2 P e=some 1)(dd:Nat)(a b:List UInt8)(ha:a.length=m)(hb:b.length=m):
  (Op.equalIn (dd+2) t (.agg (a.map V8).toArray) (.agg (b.map V8).toArray)).run P w=.ok (decide (a=b)) w:=by
 cases hi:P.info? e with
|none=>simp[K2,hi]at hc
|some i=>
  have hco:P.cellsOf e=1:=by simpa [K2,hi,Program.cellsOf] using hc
  rw[run_equalIn_array w (dd+1) _ _ hu hi,hco,QC he dd a b zO w _ (by simp[ha])]
  congr 1
  rw[vA]
  simp only[P5,qQ,beq_iff_eq,decide_eq_true_eq]
  constructor
  ·intro h
   apply V7
   intro j
   by_cases hj:j<m
   ·exact h j hj
   rw[V6 zO,V6 zO]
  rintro rfl j _;rfl
theorem Sn{α1 α2 α3 α4 α5 α6:Type}{c:Code}(G4:α1->α2->α3->α4->α5->α6->List (Nat×Value))(A:α1->α2->α3->α4->α5->α6->World->Prop)(μ:α1->α2->α3->α4->α5->α6->Nat)(i:α1)(k:α2)(x:α3)(o:α4)(p:α5)(q:α6)(hp:fits σ (G4 i k x o p q))(hA:A i k x o p q w)
  (h:∀i k x o p q τ w,A i k x o p q w->c.wp P (Exit.then (oS n (fun y:α1×α2×α3×α4×α5×α6=>G4 y.1 y.2.1 y.2.2.1 y.2.2.2.1 y.2.2.2.2.1 y.2.2.2.2.2) (fun y=>A y.1 y.2.1 y.2.2.1 y.2.2.2.1 y.2.2.2.2.1 y.2.2.2.2.2) (fun y=>μ y.1 y.2.1 y.2.2.1 y.2.2.2.1 y.2.2.2.2.1 y.2.2.2.2.2) (μ i k x o p q)) Q) (mk n (o7 τ (G4 i k x o p q))) w):(Code.loop c).wp P Q (mk n σ) w:=
 aA (fun y:α1×α2×α3×α4×α5×α6=>G4 y.1 y.2.1 y.2.2.1 y.2.2.2.1 y.2.2.2.2.1 y.2.2.2.2.2) (fun y=>A y.1 y.2.1 y.2.2.1 y.2.2.2.1 y.2.2.2.2.1 y.2.2.2.2.2) (fun y=>μ y.1 y.2.1 y.2.2.1 y.2.2.2.1 y.2.2.2.2.1 y.2.2.2.2.2) (i,k,x,o,p,q) hp hA fun y τ w hA=>h y.1 y.2.1 y.2.2.1 y.2.2.2.1 y.2.2.2.2.1 y.2.2.2.2.2 τ w hA
end
section
variable {n:Nat} {σ:Nat->Value}
 {ty:TypeId} {pos:String} {aft:Array Edge} {g:Option (Nat×Bool)} {d:Nat} {t:TypeId} {x:Operand}
def Gl.cut{α:Type}(s:Gl α)(sz l h m:Nat):Gl α:=⟨sa s.a l m sz,h-l,m-l,(s.l.drop l).take (h-l)⟩
end
section
open Go Go.MapKept
section
variable {κ:Type} [DecidableEq κ]
def S9(kv:κ->Value)(x:κ×Value×Nat):MapEntry:={ key:=kv x.1,val:=x.2.1,born:=x.2.2}
def eB(k:κ):List (κ×Value×Nat)->Nat->Option (Nat×Value)
|[],_=>none
|x::L,i=>if k=x.1 then some (i,x.2.1) else eB k L (i+1)
def O2(L:List (κ×Value×Nat))(k:κ):Option Value:=
 match L with
|[]=>none
|x::L=>if k=x.1 then some x.2.1 else O2 L k
def K7(k:κ)(v:Value)(c:Nat):List (κ×Value×Nat)->List (κ×Value×Nat)
|[]=>[(k,v,c)]
|x::L=>if k=x.1 then (k,v,x.2.2)::L else x::K7 k v c L
def f9(L:List (κ×Value×Nat))(k:κ)(c:Nat):Nat:=if (O2 L k).isSome then c else c+1
structure MOk (L:List (κ×Value×Nat)) (c:Nat):Prop where
 keys:(L.map (·.1)).Nodup
 born:(L.map (·.2.2)).Nodup
 old:∀x∈L,x.2.2<c
omit [DecidableEq κ] in
theorem MOk.nil:MOk ([]:List (κ×Value×Nat)) 0:=⟨List.nodup_nil,List.nodup_nil,fun _ h=>by cases h⟩
theorem XP(k j:κ)(v:Value)(c:Nat):∀L:List (κ×Value×Nat),O2 (K7 k v c L) j=if j=k then some v else O2 L j
|[]=>by simp[K7,O2]
|x::L=>by
  rw[K7]
  by_cases h:k=x.1
  ·rw[if_pos h,O2,O2, <-h];simp only
   by_cases hj:j=k<;>simp[hj]
  rw[if_neg h,O2,O2,XP k j v c L]
  by_cases hj:j=x.1
  ·rw[if_pos hj,if_pos hj,if_neg (fun e:j=k=>h (e.symm.trans hj))]
  rw[if_neg hj,if_neg hj]
theorem XQ(k:κ)(v:Value)(c:Nat):∀(L:List (κ×Value×Nat)) (j:κ),j∈(K7 k v c L).map (·.1)↔j=k\/j∈L.map (·.1)
|[],j=>by simp[K7]
|x::L,j=>by
  rw[K7]
  by_cases h:k=x.1
  ·rw[if_pos h];simp[h]
  rw[if_neg h,U1,K8,XQ k v c L j,U1,K8]
  constructor
  ·rintro(h1|h1|h1)<;>simp[h1]
  rintro(h1|h1|h1)<;>simp[h1]
theorem NS(k:κ)(v:Value)(c:Nat):∀(L:List (κ×Value×Nat)) (x:κ×Value×Nat),x∈K7 k v c L->x.2.2=c/\O2 L k=none\/∃y∈L,x.2.2=y.2.2
|[],x,h=>by
  simp only[K7,O8]at h
  subst h;exact .inl ⟨rfl,rfl⟩
|y::L,x,h=>by
  rw[K7]at h
  by_cases hk:k=y.1
  ·rw[if_pos hk]at h
   rcases K8.1 h with rfl|h
   ·exact .inr ⟨y,X9 ..,rfl⟩
   exact .inr ⟨x,R5 _ h,rfl⟩
  rw[if_neg hk]at h
  rcases K8.1 h with rfl|h
  ·exact .inr ⟨x,X9 ..,rfl⟩
  rcases NS k v c L x h with⟨h1,h2⟩|⟨z,hz,h2⟩
  ·exact .inl ⟨h1,by rw[O2,if_neg hk];exact h2⟩
  exact .inr ⟨z,R5 _ hz,h2⟩
theorem MOk.put{L:List (κ×Value×Nat)}(h:MOk L c)(k:κ)(v:Value):MOk (K7 k v c L) (f9 L k c):=by
 refine⟨?_,?_,fun x hx=>?_⟩
 ·have hk:=h.keys
  clear h
  induction L with
 |nil=>simp[K7]
 |cons x L ih=>
   rw[K7]
   rw[U1,qX]at hk
   by_cases e:k=x.1
   ·rw[if_pos e,U1,qX];exact⟨by simp only;rw[e];exact hk.1,hk.2⟩
   rw[if_neg e,U1,qX]
   refine⟨fun hm=>?_,ih hk.2⟩
   rcases(XQ k v c L x.1).1 hm with h1|h1
   ·exact e h1.symm
   exact hk.1 h1
 ·have hb:=h.born
  have ho:=h.old
  clear h
  induction L with
 |nil=>simp[K7]
 |cons x L ih=>
   rw[K7]
   rw[U1,qX]at hb
   by_cases e:k=x.1
   ·rw[if_pos e,U1,qX];exact hb
   rw[if_neg e,U1,qX]
   refine⟨fun hm=>?_,ih hb.2 (fun y hy=>ho y (R5 _ hy))⟩
   obtain⟨y,hy,he⟩:=J6.1 hm
   rcases NS k v c L y hy with⟨h1,_⟩|⟨z,hz,h2⟩
   ·have:=ho x (X9 ..);omega
   exact hb.1 (J6.2 ⟨z,hz,by rw[<-h2,he]⟩)
 unfold f9
 rcases NS k v c L x hx with⟨h1,h2⟩|⟨z,hz,h2⟩
 ·rw[h2];simp only[Option.isSome_none];rw[if_neg (by decide)];omega
 have:=h.old z hz
 split<;>omega
structure KeyOf (P:Program) (kt:TypeId) (kv:κ->Value):Prop where
 chk:∀(e:Bool) (k:κ) (w:World),(Instr.checkKey e 10000 kt (kv k)).run P w=.ok () w
 fnd:∀(k:κ) (L:List (κ×Value×Nat)) (w:World),(Instr.findKey kt (kv k) (L.map (S9 kv))).run P w=.ok (eB k L 0) w
 same:∀k,Instr.sameBits 10000 (kv k) (kv k)=true
theorem XR{P:Program}{kt:TypeId}{kv:κ->Value}{w:World}(he:∀k j:κ,(Op.equal kt (kv k) (kv j)).run P w=.ok (decide (k=j)) w)(k:κ):∀(L:List (κ×Value×Nat)) (i:Nat),(Instr.findAsking kt (kv k) (L.map (S9 kv)) i).run P w=.ok (eB k L i) w
|[],i=>rfl
|x::L,i=>by
  rw[U1,Instr.findAsking,D0]
  show((Op.equal kt (kv k) (kv x.1)).run P w).andThen _=_
  rw[he,eB]
  by_cases h:k=x.1
  ·rw[decide_eq_true h,if_pos h];rfl
  rw[decide_eq_false h,if_neg h];exact XR he k L (i+1)
theorem KeyOf.ask{kt:TypeId}{kv:κ->Value}(hwide:(match P.underlying kt with|some (.array _ _)|some (.struct _)=>true|_=>false)=true)(hc:∀(e:Bool) (k:κ) (w:World),(Instr.checkKey e 10000 kt (kv k)).run P w=.ok () w)
  (he:∀(k j:κ) (w:World),(Op.equal kt (kv k) (kv j)).run P w=.ok (decide (k=j)) w)(hs:∀k,Instr.sameBits 10000 (kv k) (kv k)=true):KeyOf P kt kv:=
 ⟨hc,fun k L w=>by rw[run_findKey_eq w hwide];exact XR (fun a b=>he a b w) k L 0,hs⟩
def B7(kv:κ->Value)(L:List (κ×Value×Nat))(c:Nat):Go.Obj:=.map (L.map (S9 kv)).toArray c
theorem XS(k:κ):∀(L:List (κ×Value×Nat)) (i:Nat),(eB k L i).map (·.2)=O2 L k
|[],_=>rfl
|x::L,i=>by
  rw[eB,O2]
  by_cases h:k=x.1
  ·rw[if_pos h,if_pos h];rfl
  rw[if_neg h,if_neg h];exact XS k L (i+1)
end
section
variable {κ:Type} [DecidableEq κ] {n:Nat} {σ:Nat->Value} {K:Act->World->Prop}
 {ty:TypeId} {pos:String} {aft:Array Edge} {g:Option (Nat×Bool)} {d:Nat} {t kt et:TypeId} {x y:Operand} {S:List Nat} {L:List Ch}
theorem So(kv:κ->Value)(H:Hp w0 w S L)(h:∀b w',Hp w0 w' S (L++[.obj b (B7 kv [] 0)])->w0.heap.size<=b->K (mk n (up σ d (.map (some b)))) w'):Oper.wp P ⟨some d,.makeMap t none,ty,pos,aft,g⟩ (mk n σ) w K Q:=by
 refine G5 (v:=.map (some w.heap.size)) (w':=w.alloc (.map #[] 0)) ?_ (h w.heap.size _ (H.new _ (.obj w.heap.size (B7 kv [] 0)) rfl (j7 w _)) H.size)
 rfl
theorem XT{kv:κ->Value}{M:List (κ×Value×Nat)}{b:Nat}{k:κ}{z:Value}(H:Hp w0 w S L)(hi:L[i]? =some (.obj b (B7 kv M c)))(hu:P.underlying t=some (.map kt et))(hK:KeyOf P kt kv)(hz:∀w,(zeroValue et).run P w=.ok z w)
  (hx:ev n σ x=.map (some b))(hy:ev n σ y=kv k)(ok:Bool):
  (execOp (ev n σ) ⟨some d,.lookup t x y ok,ty,pos,aft,g⟩).run P w=.ok (.value (if ok then .tuple #[(O2 M k).getD z,.bool (O2 M k).isSome] else (O2 M k).getD z)) w:=by
 have hb:w.heap[b]? =some (.map (M.map (S9 kv)).toArray c):=H.has _ (E3 hi)
 have hg:(Instr.lookup t (.map (some b)) (kv k) ok).run P w=.ok (if ok then .tuple #[(O2 M k).getD z,.bool (O2 M k).isSome] else (O2 M k).getD z) w:=by
  unfold Instr.lookup
  simp only[D0,run_underlying hu,F6,qU hb,hK.chk,hK.fnd]
  have hf:=hK.fnd k M w
  rw[<-XS k M 0]
  cases hm:eB k M 0 with
 |none=>rw[hm]at hf;cases ok<;>simp[hf,hz]
 |some r=>rw[hm]at hf;cases ok<;>simp[hf]
 simp only[execOp,hx,hy,D0,hg,F6]
 rfl
theorem Sp(k:κ){kv:κ->Value}(hK:KeyOf P kt kv):(Instr.keyThatStays (kv k) (kv k)).run P w=.ok (kv k) w:=by
 unfold Instr.keyThatStays
 rw[if_pos (hK.same k)];rfl
theorem XU{k:κ}:∀{M:List (κ×Value×Nat)} {i j:Nat} {v:Value},eB k M i=some (j,v)->∃x m,j=i+m/\M[m]? =some x/\x.1=k/\x.2.1=v
|[],_,_,_,h=>by cases h
|x::M,i,j,v,h=>by
  rw[eB]at h
  by_cases hk:k=x.1
  ·rw[if_pos hk]at h;cases h;exact⟨x,0,rfl,rfl,hk.symm,rfl⟩
  rw[if_neg hk]at h
  obtain⟨y,m,h1,h2,h3⟩:=XU h
  exact⟨y,m+1,zO,h2,h3⟩
theorem XV{k:κ}{v:Value}{c:Nat}:∀{M:List (κ×Value×Nat)} {i:Nat},eB k M i=none->K7 k v c M=M++[(k,v,c)]/\O2 M k=none
|[],_,_=>⟨rfl,rfl⟩
|x::M,i,h=>by
  rw[eB]at h
  by_cases hk:k=x.1
  ·rw[if_pos hk]at h;cases h
  rw[if_neg hk]at h
  obtain⟨h1,h2⟩:=XV (v:=v) (c:=c) h
  rw[K7,if_neg hk,h1,O2,if_neg hk];exact⟨rfl,h2⟩
theorem XW{kv:κ->Value}{k:κ}{v u:Value}{c:Nat}:∀{M:List (κ×Value×Nat)} {i j:Nat},eB k M i=some (j,u)->((M.map (S9 kv)).modify (j-i) fun e=>{ e with key:=kv k,val:=v })=(K7 k v c M).map (S9 kv)/\O2 M k=some u/\i<=j
|[],_,_,h=>by cases h
|x::M,i,j,h=>by
  rw[eB]at h
  by_cases hk:k=x.1
  ·rw[if_pos hk]at h;cases h
   rw[K7,if_pos hk,O2,if_pos hk,bP]
   exact⟨by simp[S9],rfl,B2 _⟩
  rw[if_neg hk]at h
  obtain⟨h1,h2,h3⟩:=XW (kv:=kv) (v:=v) (c:=c) h
  rw[K7,if_neg hk,O2,if_neg hk]
  refine⟨?_,h2,zO⟩
  rw[show j-i=(j-(i+1))+1 by omega,U1,List.modify_succ_cons,h1,U1]
theorem XX{kv:κ->Value}{M:List (κ×Value×Nat)}{b:Nat}{k:κ}{v:Value}{z:Operand}(H:Hp w0 w S L)(hi:L[i]? =some (.obj b (B7 kv M c)))(hu:P.underlying t=some (.map kt et))(hK:KeyOf P kt kv)
  (hx:ev n σ x=.map (some b))(hy:ev n σ y=kv k)(hv:ev n σ z=v)(h:∀w',Hp w0 w' S (L.set i (.obj b (B7 kv (K7 k v c M) (f9 M k c))))->K (mk n σ) w'):
  Oper.wp P ⟨none,.mapUpdate t x y z,ty,pos,aft,g⟩ (mk n σ) w K Q:=by
 have hb:w.heap[b]? =some (.map (M.map (S9 kv)).toArray c):=H.has _ (E3 hi)
 have vL:=heap_set (o':=B7 kv (K7 k v c M) (f9 M k c)) hb
 have hg:(Instr.mapUpdate t (.map (some b)) (kv k) v).run P w=.ok () { w with heap:=w.heap.setIfInBounds b (B7 kv (K7 k v c M) (f9 M k c))}:=by
  unfold Instr.mapUpdate
  simp only[D0,run_underlying hu,F6,qU hb,hK.chk]
  have hf:=hK.fnd k M w
  cases hm:eB k M 0 with
 |none=>
   rw[hm]at hf
   obtain⟨h1,h2⟩:=XV (v:=v) (c:=c) hm
   have e:B7 kv (K7 k v c M) (f9 M k c)=.map ((M.map (S9 kv)).toArray.push { key:=kv k,val:=v,born:=c }) (c+1):=by
    rw[B7,h1,f9,h2];simp[S9]
   rw[e]
   simp[hf,zV _ hb]
 |some r=>
   obtain⟨j,u⟩:=r
   rw[hm]at hf
   obtain⟨h1,h2,_⟩:=XW (kv:=kv) (v:=v) (c:=c) hm
   obtain⟨xx,m,hj,hM,nS,_⟩:=XU hm
   rw[qT]at h1
   have hjm:j=m:=by omega
   subst hjm
   have e:B7 kv (K7 k v c M) (f9 M k c)=.map ((M.map (S9 kv)).toArray.modify j fun e=>{ e with key:=kv k,val:=v }) c:=by
    rw[B7, <-h1,f9,h2];simp
   have bU:(((M.map (S9 kv)).toArray[j]?).map (·.key)).getD (kv k)=kv k:=by
    simp[hM,S9,nS]
   have I0:=Sp (w:=w) k hK
   rw[e]
   simp only[hf,F6,DF]
   rw[D0,bU,I0,F6,zV _ hb]
 refine DP (w':={ w with heap:=w.heap.setIfInBounds b (B7 kv (K7 k v c M) (f9 M k c)) }) ?_ (h _ ?_)
 ·simp only[execOp,hx,hy,hv,D0,hg,F6];rfl
 refine H.turn hi (c':=.obj b (B7 kv (K7 k v c M) (f9 M k c))) vL.1 (fun b' I2=>.inl I2) rfl rfl rfl (by simp) (fun b' _ D5=>?_)
 exact vL.2 b' (fun e=>D5 (by rw[e];rfl))
end
end
section
open Go Go.MapKept
section
variable {κ:Type} [DecidableEq κ] {n:Nat} {σ:Nat->Value} {K:Act->World->Prop}
 {ty:TypeId} {pos:String} {aft:Array Edge} {g:Option (Nat×Bool)} {d:Nat} {t kt et:TypeId} {x y:Operand} {S:List Nat} {L:List Ch}
def cV(M:List (κ×Value×Nat))(k:κ):Nat:=
 match M with
|[]=>0
|x::M=>if k=x.1 then x.2.2 else cV M k
end
end
abbrev A6:={ l:List UInt8 // l.length=32}
section
variable {n:Nat} {σ:Nat->Value} {K:Act->World->Prop}
 {ty:TypeId} {pos:String} {aft:Array Edge} {g:Option (Nat×Bool)} {d:Nat} {t e k' yt:TypeId} {x y:Operand} {S:List Nat} {L:List Ch}
end
def keys(L:List Ch):List Nat:=L.filterMap Ch.key
def Own(w:World)(L:List Ch):Prop:=(∀c∈L,c.ok w)/\L.Pairwise fun c e=>∀b,c.key=some b->e.key≠some b
theorem Hp.owns(h:Hp w0 w S L):Own w L:=⟨h.has,h.nd⟩
theorem Own.sub{L':List Ch}(h:Own w L)(hs:L'.Sublist L):Own w L':=⟨fun c hc=>h.1 c (hs.subset hc),h.2.sublist hs⟩
theorem Sq{c e:Ch}(h:∀b,c.key=some b->e.key≠some b):∀b,e.key=some b->c.key≠some b:=fun b h1 h2=>h b h2 h1
theorem Hp.permL{L':List Ch}(h:Hp w0 w S L)(hp:L.Perm L'):Hp w0 w S L':=
 ⟨h.os,h.tape,h.output,h.size,h.frame,fun c hc=>h.has c (hp.mem_iff.2 hc),fun c hc=>h.fresh c (hp.mem_iff.2 hc),h.nd.perm hp (fun h=>Sq h)⟩
theorem yS{α:Type}{c:α}:∀{L:List α} {j:Nat},L[j]? =some c->L.Perm (c::L.eraseIdx j)
|a::L,0,h=>by cases h;exact .refl _
|a::L,j+1,h=>by
  have:=yS (L:=L) (j:=j) h
  exact(List.Perm.cons a this).trans (.swap ..)
theorem HJ{L:List Ch}{b:Nat}:b∈keys L↔∃c∈L,c.key=some b:=List.mem_filterMap
theorem Own.start(h:Own w L):Hp w w (keys L) L:=
 ⟨rfl,rfl,rfl,B2 _,fun _ _ _=>rfl,h.1,fun c hc _ hb=>.inl (HJ.2 ⟨c,hc,hb⟩),h.2⟩
theorem Hp.callG{L1 L1' Lr:List Ch}(h:Hp w0 w S L)(hL:L=L1++Lr)(hc:Hp w w' (keys L1) L1'):Hp w0 w' S (Lr++L1'):=by
 subst hL
 obtain⟨n1,n2,n3⟩:=JB.1 h.nd
 have out:∀e∈Lr,∀b,e.key=some b->b<w.heap.size/\b∉keys L1:=fun e he b hb=>
  ⟨Ch.lt (h.has e (List.mem_append_right _ he)) hb,fun hm=>by
   obtain⟨c,w3,hcb⟩:=HJ.1 hm
   exact n3 c w3 e he b hcb hb⟩
 refine⟨hc.os.trans h.os,hc.tape.trans h.tape,hc.output.trans h.output,J2 h.size hc.size,fun b hlt hn=>?_,fun c w3=>?_,fun c w3 b hb=>?_,?_⟩
 ·have hk:b∉keys L1:=fun hm=>by
   obtain⟨c,w3,hcb⟩:=HJ.1 hm
   rcases h.fresh c (List.mem_append_left _ w3) b hcb with h1|h1
   ·exact hn h1
   omega
  exact(hc.frame b (X7 hlt h.size) hk).trans (h.frame b hlt hn)
 ·rcases S3.1 w3 with h1|h1
  ·exact Ch.ok_of (h.has c (List.mem_append_right _ h1)) fun b hb=>hc.frame b (out c h1 b hb).1 (out c h1 b hb).2
  exact hc.has c h1
 ·rcases S3.1 w3 with h1|h1
  ·exact h.fresh c (List.mem_append_right _ h1) b hb
  rcases hc.fresh c h1 b hb with h2|h2
  ·obtain⟨e,hem,heb⟩:=HJ.1 h2
   exact h.fresh e (List.mem_append_left _ hem) b heb
  exact .inr (J2 h.size h2)
 refine JB.2 ⟨n2,hc.nd,fun e he c w3 b hb U5=>?_⟩
 have ho:=out e he b hb
 rcases hc.fresh c w3 b U5 with h2|h2
 ·exact ho.2 h2
 omega
theorem Hp.own1{L1 Lr:List Ch}(h:Hp w0 w S L)(hL:L=L1++Lr):Own w L1:=by
 subst hL;exact h.owns.sub (DD ..)
theorem Hp.ownP{LL L1 Lr:List Ch}(h:Hp w0 w S L)(hp:L.Perm LL)(hL:LL=L1++Lr):Own w L1:=(h.permL hp).own1 hL
theorem Hp.callP{LL L1 L1' Lr L':List Ch}(h:Hp w0 w S L)(hp:L.Perm LL)(hL:LL=L1++Lr)(hc:Hp w w' (keys L1) L1')(hq:(Lr++L1').Perm L'):Hp w0 w' S L':=
 ((h.permL hp).callG hL hc).permL hq
section
open Go Go.MapKept
section
variable {κ:Type} [DecidableEq κ] {enc:α->Value} {M:List (κ×Value×Nat)} {F:κ->Option α}
def MIs(enc:α->Value)(M:List (κ×Value×Nat))(F:κ->Option α):Prop:=∀k,O2 M k=(F k).map enc
def bH(F:κ->Option α)(k:κ)(v:α):κ->Option α:=fun j=>if j=k then some v else F j
theorem MIs.nil:MIs enc ([]:List (κ×Value×Nat)) (fun _=>none):=fun _=>rfl
theorem MIs.put(h:MIs enc M F)(k:κ)(v:α)(c:Nat):MIs enc (K7 k (enc v) c M) (bH F k v):=fun j=>by
 rw[XP,bH,h j];split<;>rfl
theorem MIs.getD(h:MIs enc M F)(k:κ)(z:α):(O2 M k).getD (enc z)=enc ((F k).getD z):=by
 rw[h k];cases F k<;>rfl
theorem MIs.isSome(h:MIs enc M F)(k:κ):(O2 M k).isSome=(F k).isSome:=by
 rw[h k];cases F k<;>rfl
end
section
variable {κ:Type} [DecidableEq κ] {n:Nat} {σ:Nat->Value}
 {ty:TypeId} {pos:String} {aft:Array Edge} {g:Option (Nat×Bool)} {d:Nat} {t kt et:TypeId} {x y:Operand} {S:List Nat} {L:List Ch}
theorem Sr{kv:κ->Value}{enc:α->Value}{M:List (κ×Value×Nat)}{F:κ->Option α}{b:Nat}{k:κ}(z:α)(hF:MIs enc M F)(H:Hp w0 w S L)(hi:L[i]? =some (.obj b (B7 kv M c)))(hu:P.underlying t=some (.map kt et))(hK:KeyOf P kt kv)(hz:∀w,(zeroValue et).run P w=.ok (enc z) w)
  (hx:ev n σ x=.map (some b))(hy:ev n σ y=kv k):
  (execOp (ev n σ) ⟨some d,.lookup t x y false,ty,pos,aft,g⟩).run P w=.ok (.value (enc ((F k).getD z))) w:=by
 have:=XT (P:=P) (ty:=ty) (pos:=pos) (aft:=aft) (g:=g) (d:=d) H hi hu hK hz hx hy false
 rw[hF.getD]at this
 exact this
theorem XY{kv:κ->Value}{enc:α->Value}{M:List (κ×Value×Nat)}{F:κ->Option α}{b:Nat}{k:κ}(z:α)(hF:MIs enc M F)(H:Hp w0 w S L)(hi:L[i]? =some (.obj b (B7 kv M c)))(hu:P.underlying t=some (.map kt et))(hK:KeyOf P kt kv)(hz:∀w,(zeroValue et).run P w=.ok (enc z) w)
  (hx:ev n σ x=.map (some b))(hy:ev n σ y=kv k):
  (execOp (ev n σ) ⟨some d,.lookup t x y true,ty,pos,aft,g⟩).run P w=.ok (.value (.tuple #[enc ((F k).getD z),.bool (F k).isSome])) w:=by
 have:=XT (P:=P) (ty:=ty) (pos:=pos) (aft:=aft) (g:=g) (d:=d) H hi hu hK hz hx hy true
 rw[hF.getD,hF.isSome]at this
 exact this
end
end
end Go.Proofs.YtgohjiegkhfpmaaGreatDoor
