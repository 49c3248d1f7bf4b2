/- Lemmas for the statement ModelCharges, part 5: rules of operations, walks through functions, plain laws. -/
import Derived.Test.YtgohjiegkhfpmaaGreatDoorModelChargesG4
import Derived.DeepKeys3
import Derived.Ground.SlsfProg
import Derived.Laws.IdiomRangeMap
import Derived.Lib.Slices
import Derived.Lib.Strings
import Derived.Lib.Walk
import Derived.Maps.RangeRun
import Derived.OrdersIn
import Derived.RangeFuncCalls
import Derived.RangeFuncIn
import Derived.RangeFuncLeaves
import Derived.RangeFuncRecord
import Derived.RangeFuncSeq
import Derived.Shelf.SlSortCmp.NoneTotal
import Derived.Shelf.Slices.Delete
import Derived.Shelf.Spec.SlicesInsertGrow
import Derived.TacticsIn
set_option maxRecDepth 100000
set_option linter.all false
namespace Go.Proofs.YtgohjiegkhfpmaaGreatDoor
open Go
open Go.IntKind (i64 u64 u8 u32)
open List (replicate)
open Nat (beq blt)
open BitVec (ofInt)
variable {ops:Array Oper} {W0:Array TypeId} {X X0:Cx} {Q:Exit->Act->World->Prop} {fn:Func} {pv:List (Nat × Value)} {L:List Ch} {S lv lv':List Nat} {C cs es vs xs:List Value} {M N c cap i j k m o q r:Nat} {h h':Nat->Nat->V} {P:Program} {α:Type} {e yt:TypeId} {x:Value} {w w' w0:World}
section
open Go Go.MapKept
section
variable {κ:Type} [DecidableEq κ] {n:Nat} {σ:Nat->Value} {K:Act->World->Prop}
 {ty:TypeId} {pos:String} {aft:Array Edge} {g:Option (Nat×Bool)} {d:Nat} {t kt et:TypeId} {x:Operand} {S:List Nat} {L:List Ch}
def T9(b:Nat)(M:List (κ×Value×Nat))(c:Nat)(A4:List κ):Go.Obj:=.mapIter (some b) c (A4.map (cV M)).toArray c
theorem XZ{kv:κ->Value}{M:List (κ×Value×Nat)}{b:Nat}(H:Hp w0 w S L)(hi:L[i]? =some (.obj b (B7 kv M c)))(hu:P.underlying t=some (.map kt et))(hx:ev n σ x=.map (some b))
  (h:∀r w',Hp w0 w' S (L++[.obj r (T9 b M c [])])->w0.heap.size<=r->K (mk n (up σ d (.pointer (some ⟨r,0,none⟩)))) w'):Oper.wp P ⟨some d,.range t x,ty,pos,aft,g⟩ (mk n σ) w K Q:=by
 have hb:w.heap[b]? =some (.map (M.map (S9 kv)).toArray c):=H.has _ (E3 hi)
 have hg:=run_range_map w t kt et b _ c hu hb
 refine G5 (v:=.pointer (some ⟨w.heap.size,0,none⟩)) (w':=w.alloc (.mapIter (some b) c #[] c)) ?_ (h w.heap.size _ (H.new _ (.obj w.heap.size (T9 b M c [])) rfl (j7 w _)) H.size)
 simp only[execOp,hx,D0,hg,F6]
 rfl
theorem BX{M:List (κ×Value×Nat)}{k:κ}{v:Value}(h:O2 M k=some v):∃x∈M,x.1=k/\x.2.1=v/\x.2.2=cV M k:=by
 induction M with
|nil=>cases h
|cons y M ih=>
  rw[O2]at h
  by_cases e:k=y.1
  ·rw[if_pos e]at h;cases h
   exact⟨y,X9 ..,e.symm,rfl,by rw[cV,if_pos e]⟩
  rw[if_neg e]at h
  obtain⟨x,hx,h1,h2,h3⟩:=ih h
  exact⟨x,R5 _ hx,h1,h2,by rw[cV,if_neg e];exact h3⟩
theorem Ss{M:List (κ×Value×Nat)}(hn:(M.map (·.1)).Nodup){x:κ×Value×Nat}(h:x∈M):O2 M x.1=some x.2.1/\cV M x.1=x.2.2:=by
 induction M with
|nil=>cases h
|cons y M ih=>
  rw[U1,qX]at hn
  rw[O2,cV]
  rcases K8.1 h with rfl|h
  ·rw[if_pos rfl,if_pos rfl];exact⟨rfl,rfl⟩
  have D5:x.1≠y.1:=fun e=>hn.1 (by rw[<-e];exact J6.2 ⟨x,h,rfl⟩)
  rw[if_neg D5,if_neg D5];exact ih hn.2 h
theorem born_inj{M:List (κ×Value×Nat)}(hb:(M.map (·.2.2)).Nodup){x y:κ×Value×Nat}(hx:x∈M)(hy:y∈M)(e:x.2.2=y.2.2):x=y:=by
 induction M with
|nil=>cases hx
|cons z M ih=>
  rw[U1,qX]at hb
  rcases K8.1 hx with h1|hx
  ·rcases K8.1 hy with h2|hy
   ·rw[h1,h2]
   exact absurd (J6.2 ⟨y,hy,by rw[<-e,h1]⟩) hb.1
  rcases K8.1 hy with h2|hy
  ·exact absurd (J6.2 ⟨x,hx,by rw[e,h2]⟩) hb.1
  exact ih hb.2 hx hy
theorem YA{kv:κ->Value}{enc:α->Value}{M:List (κ×Value×Nat)}{F:κ->Option α}{b:Nat}{A4:List κ}(H:Hp w0 w S L)(hi:L[i]? =some (.obj b (B7 kv M c)))(hj:L[j]? =some (.obj r (T9 b M c A4)))
  (hM:MOk M c)(hF:MIs enc M F)(hv:∀k∈A4,(F k).isSome=true)(hx:ev n σ x=.pointer (some ⟨r,0,none⟩))
  (h1:(∀k,(F k).isSome=true->k∈A4)->∀w',Hp w0 w' S L->K (mk n (up σ d (.tuple #[.bool false]))) w')
  (h2:∀k a,F k=some a->k∉A4->∀w',Hp w0 w' S (L.set j (.obj r (T9 b M c (A4++[k]))))->K (mk n (up σ d (.tuple #[.bool true,kv k,enc a]))) w'):
  Oper.wp P ⟨some d,.next x false,ty,pos,aft,g⟩ (mk n σ) w K Q:=by
 have hb:w.heap[b]? =some (.map (M.map (S9 kv)).toArray c):=H.has _ (E3 hi)
 have hr:w.heap[r]? =some (.mapIter (some b) c (A4.map (cV M)).toArray c):=H.has _ (E3 hj)
 have W3:∀k∈A4,∃y∈M,y.1=k/\y.2.2=cV M k:=fun k hk=>by
  have h3:=hv k hk
  rw[<-hF.isSome]at h3
  obtain⟨v,vR⟩:=iF.1 h3
  obtain⟨y,hy,e1,_,e3⟩:=BX vR
  exact⟨y,hy,e1,e3⟩
 rcases run_next_at (P:=P) w ty r b c c _ _ c hr hb (fun y hy=>by
   simp only[DF,J6]at hy
   obtain⟨z,hz,rfl⟩:=hy
   exact hM.old z hz) (B2 c) with⟨h0,I1⟩|⟨e,he,w1,rP,I1⟩
 ·refine G5 (v:=.tuple #[.bool false]) (w':=w) ?_ (h1 (fun k hk=>?_) w H)
  ·simp only[execOp,hx,D0,I1,F6];rfl
  rw[<-hF.isSome]at hk
  obtain⟨v,vR⟩:=iF.1 hk
  obtain⟨y,hy,e1,_,e3⟩:=BX vR
  have hemp:=Array.eq_empty_of_size_eq_zero h0
  rw[leftOf,Array.filter_eq_empty_iff]at hemp
  have:=hemp (S9 kv y) (by simp only[List.mem_toArray];exact J6.2 ⟨y,hy,rfl⟩)
  simp only[S9,Bool.not_eq_true,Bool.not_eq_false',List.contains_toArray,List.contains_iff_mem,J6]at this
  obtain⟨k',i8,e4⟩:=this
  obtain⟨z,hz,f1,f3⟩:=W3 k' i8
  have:=born_inj hM.born hz hy (by rw[f3,e4])
  rw[<-e1, <-this,f1];exact i8
 have gA:∃y∈M,e=S9 kv y/\∀k∈A4,cV M k≠y.2.2:=by
  rw[leftOf]at he
  simp only[Array.mem_toList_iff,Array.mem_filter,List.mem_toArray,J6]at he
  obtain⟨⟨y,hy,rfl⟩,hc⟩:=he
  refine⟨y,hy,rfl,fun k hk e=>?_⟩
  have:((A4.map (cV M)).toArray.contains (S9 kv y).born)=true:=by
   simp only[List.contains_toArray,List.contains_iff_mem,J6]
   exact⟨k,hk,e⟩
  rw[this]at hc;cases hc
 obtain⟨y,hy,rfl,hny⟩:=gA
 obtain⟨g1,g2⟩:=Ss hM.keys hy
 have hFa:∃a,F y.1=some a/\enc a=y.2.1:=by
  have:=hF y.1
  rw[g1]at this
  cases hf:F y.1 with
 |none=>rw[hf]at this;cases this
 |some a=>rw[hf]at this;exact⟨a,rfl,(qR this).symm⟩
 obtain⟨a,ha,hea⟩:=hFa
 have hH1:Hp w0 w1 S L:=by
  rcases rP with rfl|rfl
  ·exact H
  exact H.drew
 have hr1:w1.heap[r]? =some (.mapIter (some b) c (A4.map (cV M)).toArray c):=by rcases rP with rfl|rfl<;>exact hr
 have hito:(Go.Obj.mapIter (some b) c ((A4.map (cV M)).toArray.push (S9 kv y).born) c)=T9 b M c (A4++[y.1]):=by
  rw[T9,lI,U1,List.map_nil,g2];simp[S9]
 rw[hito]at I1
 have vL:=heap_set (o':=T9 b M c (A4++[y.1])) hr1
 refine G5 (v:=.tuple #[.bool true,kv y.1,enc a]) (w':=ChangeMaps.setBlock w1 r (T9 b M c (A4++[y.1]))) ?_ (h2 y.1 a ha (fun hk=>hny _ hk g2) _ ?_)
 ·simp only[execOp,hx,D0,I1,F6,hea];rfl
 refine hH1.turn hj (c':=.obj r (T9 b M c (A4++[y.1]))) vL.1 (fun b' I2=>.inl I2) rfl rfl rfl (by simp[ChangeMaps.setBlock]) (fun b' _ D5=>?_)
 exact vL.2 b' (fun e=>D5 (by rw[e];rfl))
theorem YB{kv:κ->Value}{enc:α->Value}{M:List (κ×Value×Nat)}{F:κ->Option α}{b:Nat}{A4:List κ}{k:κ}{a:α}(H:Hp w0 w S L)(hi:L[i]? =some (.obj b (B7 kv M c)))(hj:L[j]? =some (.obj r (T9 b M c (A4++[k]))))
  (hM:MOk M c)(hF:MIs enc M F)(ha:F k=some a)(hx:ev n σ x=.pointer (some ⟨r,0,none⟩)):
  (execOp (ev n σ) ⟨some d,.entry x,ty,pos,aft,g⟩).run P w=.ok (.value (.tuple #[kv k,enc a])) w:=by
 have hb:w.heap[b]? =some (.map (M.map (S9 kv)).toArray c):=H.has _ (E3 hi)
 have hr:w.heap[r]? =some (.mapIter (some b) c ((A4++[k]).map (cV M)).toArray c):=H.has _ (E3 hj)
 have hg:=hF k
 rw[ha]at hg
 obtain⟨y,hy,e1,e2,e3⟩:=BX hg
 have I1:=run_entry_at (P:=P) w r b c ((A4.map (cV M)).toArray) _ c (S9 kv y) (by rw[hr];simp[S9,e3]) hb (by simp only[DF];exact J6.2 ⟨y,hy,rfl⟩) (by
  have:=hM.born
  simpa [List.map_map,Function.comp_def,S9] using this)
 simp only[execOp,hx,D0,I1,F6,S9,e1,e2]
 rfl
end
theorem BY{α:Type} [DecidableEq α]:∀{l m:List α},l.Nodup->(∀x∈l,x∈m)->l.length<=m.length
|[],m,_,_=>L8 _
|a::l,m,hn,hs=>by
  rw[qX]at hn
  have h1:=BY (l:=l) (m:=m.erase a) hn.2 (fun x hx=>(List.mem_erase_of_ne (fun e=>hn.1 (by rw[<-e];exact hx))).2 (hs x (R5 _ hx)))
  have h2:=List.length_erase_of_mem (hs a (X9 ..))
  have h3:=List.length_pos_of_mem (hs a (X9 ..))
  rw[G8];omega
theorem YC{κ:Type} [DecidableEq κ]{enc:α->Value}{M:List (κ×Value×Nat)}{F:κ->Option α}(hF:MIs enc M F){A4:List κ}(hn:A4.Nodup)(hv:∀k∈A4,(F k).isSome=true):A4.length<=M.length:=by
 have:=BY (m:=M.map (·.1)) hn (fun x hx=>by
  have h1:=hv x hx
  rw[<-hF.isSome]at h1
  obtain⟨v,h2⟩:=iF.1 h1
  obtain⟨y,hy,e,_⟩:=BX h2
  exact J6.2 ⟨y,hy,e⟩)
 rwa [J7]at this
theorem HK{κ:Type} [DecidableEq κ]{F:κ->Option α}{A4:List κ}{k:κ}{a:α}(hn:A4.Nodup)(hv:∀k∈A4,(F k).isSome=true)(hf:F k=some a)(hk:k∉A4):(A4++[k]).Nodup/\∀j∈A4++[k],(F j).isSome=true:=by
 refine⟨?_,fun j hj=>?_⟩
 ·rw[List.nodup_append]
  refine⟨hn,by simp,fun x hx y hy e=>?_⟩
  rw[O8]at hy
  exact hk (by rw[<-hy, <-e];exact hx)
 rcases S3.1 hj with h|h
 ·exact hv j h
 rw[O8.1 h,hf];rfl
end
structure Cut3 (C A B D:List Value) (a b:Nat):Prop where
 e:C=A++(B++D)
 ha:A.length=a
 hb:B.length=b
section
variable {A B D V:List Value} {a b:Nat}
theorem Cut3.get{v:Value}(h:Cut3 C A [v] D a 1):C[a]? =some v:=by
 rw[h.e, <-h.ha,L7 (B2 _),bP];rfl
theorem Cut3.seg(h:Cut3 C A B D a b):(C.drop a).take b=B:=by
 rw[h.e, <-h.ha, <-h.hb,List.drop_left,List.take_left]
theorem Cut3.le(h:Cut3 C A B D a b):a+b<=C.length:=by
 rw[h.e,C6,C6,h.ha,h.hb];omega
theorem Cut3.set1{v u:Value}(h:Cut3 C A [v] D a 1):C.set a u=A++([u]++D):=by
 rw[h.e, <-h.ha,dA _ _ (B2 _),bP];rfl
theorem Su{places:Nat->Option (Nat×Nat)}{v:Value}{rest:List (Nat×Value)}(hp:places k=some (a,b))(h:Cut3 C A B D a b)(hv:v.cells.toList=V)(hl:V.length=b):
  Instr.fill places C.toArray ((k,v)::rest)=Instr.fill places (A++(V++D)).toArray rest:=by
 have hs:v.cells.size=b:=by rw[<-hl, <-hv,u6]
 have hn:¬ ((v.cells.size≠b||a+v.cells.size > C.toArray.size)=true):=by
  have:=h.le
  simp[hs];omega
 have h2:∀(vs done zs:List Value),zs.length=vs.length->(vs.zipIdx done.length).foldl (fun(L0:Array Value) (p:Value×Nat)=>L0.setIfInBounds (A.length+p.2) p.1) (A++done++zs++D).toArray=(A++done++vs++D).toArray:=by
  intro vs
  induction vs with
 |nil=>intro done zs hz;have:zs=[]:=l4.1 (by simpa using hz);subst this;simp
 |cons v vs ih=>
   intro done zs hz
   cases zs with
  |nil=>simp at hz
  |cons z zs=>
    have:=ih (done++[v]) zs (by simpa using hz)
    simp only[C6,u7,H9,List.singleton_append,v6,Y5]at this
    rw[List.zipIdx_cons,List.foldl_cons]
    simp only[H9,v6]
    rw[<-this]
    congr 1
    simp[List.set_append]
 have h3:=h2 V [] B (by rw[hl,h.hb])
 simp only[Instr.fill,hp]
 rw[if_neg hn]
 simp only[Z5,M3]at h3
 rw[h.ha]at h3
 have e1:v.cells.zipIdx.foldl (fun(L0:Array Value) (p:Value×Nat)=>L0.setIfInBounds (a+p.2) p.1) C.toArray=(A++(V++D)).toArray:=by
  rw[h.e, <-H9, <-H9, <-h3]
  have:v.cells.zipIdx=(V.zipIdx 0).toArray:=by rw[<-hv];simp[<-Array.toList_inj]
  rw[this];simp
 first|exact congrArg (fun z=>Instr.fill places z rest) e1|(rw[<-e1])
inductive Fills (places:Nat->Option (Nat×Nat)):List Value->List (Nat×Value)->List Value->Prop
|nil (C:List Value):Fills places C [] C
|cons {C A B D V E:List Value} {a b k:Nat} {v:Value} {rest:List (Nat×Value)}:places k=some (a,b)->Cut3 C A B D a b->v.cells.toList=V->V.length=b->Fills places (A++(V++D)) rest E->Fills places C ((k,v)::rest) E
theorem Fills.run{places:Nat->Option (Nat×Nat)}{C E:List Value}(h:Fills places C pv E):Instr.fill places C.toArray pv=some E.toArray:=by
 induction h with
|nil C=>rfl
|cons hp hc hv hl _ ih=>rw[Su hp hc hv hl,ih]
end
section
variable {n:Nat} {σ:Nat->Value} {K:Act->World->Prop}
 {ty:TypeId} {pos:String} {aft:Array Edge} {g:Option (Nat×Bool)} {d:Nat} {t:TypeId} {x y:Operand} {S:List Nat} {L:List Ch} {C A B D:List Value} {a k:Nat}
theorem Sv{F3:Array (Nat×Operand)}{zs:Array Value}{places:Nat->Option (Nat×Nat)}{Z E:List Value}(hB:Bld P t zs places)(hz:zs=Z.toArray)(dF:W6 n σ F3.toList=pv)(hf:Fills places Z pv E):
  (execOp (ev n σ) ⟨some d,.build t F3,ty,pos,aft,g⟩).run P w=.ok (.value (.agg E.toArray)) w:=
 Qn hB dF (by rw[hz];exact hf.run)
theorem Sw{v:Value}{fs:Array Field}{f:Field}(hu:P.underlying t=some (.struct fs))(hf:fs[i]? =some f)(hc:O5 P f.type=true)(hx:ev n σ x=.agg C.toArray)(h:Cut3 C A [v] D f.offset 1):
  (execOp (ev n σ) ⟨some d,.field t x i,ty,pos,aft,g⟩).run P w=.ok (.value v) w:=
 Ed hu hf hc hx (by rw[fQ];exact h.get)
theorem NT{b:Nat}{v:Value}{T:TypeId}(H:Hp w0 w S L)(hi:L[i]? =some (.blk b C T))(hx:ev n σ x=.pointer (some ⟨b,a,none⟩))(ht:O5 P t=true)(h:Cut3 C A [v] D a 1):
  (execOp (ev n σ) ⟨some d,.load t x,ty,pos,aft,g⟩).run P w=.ok (.value v) w:=Q9 H hi hx ht h.get
theorem NU{b:Nat}{T:TypeId}(H:Hp w0 w S L)(hi:L[i]? =some (.blk b C T))(hx:ev n σ x=.pointer (some ⟨b,a,none⟩))(ht:T5 P t=some k)(h:Cut3 C A B D a k):
  (execOp (ev n σ) ⟨some d,.load t x,ty,pos,aft,g⟩).run P w=.ok (.value (.agg B.toArray)) w:=by
 rw[<-h.seg];exact KG H hi hx ht h.le
theorem Sx{b:Nat}{v u:Value}{T:TypeId}(H:Hp w0 w S L)(hi:L[i]? =some (.blk b C T))(hx:ev n σ x=.pointer (some ⟨b,a,none⟩))(hy:ev n σ y=u)(hs:K2 P t=some 1)(h1:u.oneCell'=true)(hc:Cut3 C A [v] D a 1)
  (h:∀w',Hp w0 w' S (L.set i (.blk b (A++([u]++D)) T))->K (mk n σ) w'):Oper.wp P ⟨none,.store t x y,ty,pos,aft,g⟩ (mk n σ) w K Q:=by
 refine oW H hi hx hy hs h1 (by have:=hc.le;omega) fun w' H'=>h w' ?_
 rwa [hc.set1]at H'
end
section
open Go Go.MapKept
section
variable {n:Nat} {σ:Nat->Value} {K:Act->World->Prop}
 {ty:TypeId} {pos:String} {aft:Array Edge} {g:Option (Nat×Bool)} {d:Nat} {t kt et:TypeId} {x y:Operand} {S:List Nat} {L:List Ch}
theorem Sz{a:Option Addr}{l:Nat}(hu:P.underlying t=some (.slice e))(hg:P.eqGuardType P.depth t=false)(hx:ev n σ x=.slice a l c)(hy:ev n σ y=.slice none 0 0):
  (execOp (ev n σ) ⟨some d,.binOp .eql t x y yt,ty,pos,aft,g⟩).run P w=.ok (.value (.bool a.isNone)) w:=by
 have e3:(eqGuard .eql t x y (.slice a l c) (.slice none 0 0)).run P w=.ok () w:=by simp[eqGuard,hg]
 have e4:(binOp .eql t (.slice a l c) (.slice none 0 0)).run P w=.ok (.bool a.isNone) w:=by
  simp[binOp,run_equal_slice_nil w t e a l c hu]
 simp[execOp,hx,hy,e3,e4]
end
end
open Go.Proofs in
set_option maxHeartbeats 1000000 in
theorem Ta(s:ByteArray)(c:Int)(w:World):
  Calls Tryz.prog 246 #[.string s,.int .u8 c] w fun e w'=>e=.returned (.int .i64 (Lib.indexByte s.data.toList c.toNat.toUInt8))/\w'=w:=by
 go_enter Tryz.func246,Tryz.ntmps246
 go_wp2
 rw[run_callFunc_extern Tryz.func250 zK zK zK (e:=Extern.BytealgIndexByte.indexByte) zK,Lib.run_indexByteString]
 simp only[Result.andThen]
 rw[CX]
 go_wp2
 go_ret
 exact⟨rfl,rfl⟩
open Go.Proofs in
set_option maxHeartbeats 2000000 in
theorem Tb(s:ByteArray)(c:UInt8)(w:World):
  Calls Tryz.prog 245 #[.string s,.string ⟨#[c]⟩] w fun e w'=>e=.returned (.int .i64 (Lib.indexByte s.data.toList c))/\w'=w:=by
 go_enter Tryz.func245,Tryz.ntmps245
 go_wp2_with (go_at_call 246;refine(Ta _ _ _).mono ?_;rintro e w' ⟨rfl,rfl⟩)
 ·have h:([c]==s.toList)=true:=by assumption
  go_ret
  refine⟨?_,rfl⟩
  have e:s.data.toList=[c]:=by rw[<-Lib.toList_data];exact(beq_iff_eq.1 h).symm
  rw[e]
  simp[Lib.indexByte]
 go_ret
 exact⟨rfl,rfl⟩
open Go.Proofs in
set_option maxHeartbeats 1000000 in
theorem Tc(s:ByteArray)(c:UInt8)(w:World):
  Calls Tryz.prog 243 #[.string s,.string ⟨#[c]⟩] w fun e w'=>e=.returned (.int .i64 (Lib.indexByte s.data.toList c))/\w'=w:=by
 go_enter Tryz.func243,Tryz.ntmps243
 go_wp2_with (go_at_call 245;refine(Tb _ _ _).mono ?_;rintro e w' ⟨rfl,rfl⟩)
 go_ret
 exact⟨rfl,rfl⟩
open Go.Proofs in
set_option maxHeartbeats 1000000 in
theorem Td(s:ByteArray)(c:UInt8)(w:World):
  Calls Tryz.prog 235 #[.string s,.string ⟨#[c]⟩] w fun e w'=>e=.returned (.bool (decide (0<=Lib.indexByte s.data.toList c)))/\w'=w:=by
 go_enter Tryz.func235,Tryz.ntmps235
 go_wp2_with (go_at_call 243;refine(Tc _ _ _).mono ?_;rintro e w' ⟨rfl,rfl⟩)
 go_ret
 exact⟨rfl,rfl⟩
open Go.Proofs in
theorem Te(l:List UInt8)(c:UInt8):decide (0<=Lib.indexByte l c)=decide (c∈l):=by
 rw[vA]
 simp only[decide_eq_true_eq]
 induction l with
|nil=>simp[Lib.indexByte]
|cons b l ih=>
  simp only[Lib.indexByte,K8]
  by_cases h:b=c
  ·subst h;simp
  have h1:(b==c)=false:=by simpa using h
  have h2:=Lib.indexByte_ge l c
  simp only[h1,zM,if_false,beq_iff_eq]
  constructor
  ·intro B1
   by_cases h3:Lib.indexByte l c= -1
   ·rw[if_pos h3]at B1;omega
   right;exact ih.1 zO
  rintro(h3|h3)
  ·exact absurd h3.symm h
  have:=ih.2 h3
  rw[if_neg zO];omega
theorem Tf(w:World)(s:List UInt8)(c:UInt8):Ret Tryz.prog 235 [.string ⟨s.toArray⟩,.string ⟨([c]:List UInt8).toArray⟩] w fun v w'=>v=.bool (decide (c∈s))/\w'=w:=by
 refine x9 (Td ⟨s.toArray⟩ c w) fun e w' ⟨he,hw⟩=>⟨_,he,?_,hw⟩
 rw[<-Te]
open Go.Proofs in
set_option maxHeartbeats 1000000 in
theorem Tg(s p:ByteArray)(w:World):
  Calls Tryz.prog 203 #[.string s,.string p] w fun e w'=>e=.returned (.bool (Lib.hasPrefix s.data.toList p.data.toList))/\w'=w:=by
 rw[<-Lib.hasPrefix_of_take, <-Lib.size_eq, <-Lib.size_eq]
 go_enter Tryz.func203,Tryz.ntmps203
 go_wp2
 ·rename_i h
  go_ret
  refine⟨?_,rfl⟩
  show Ending.returned (Value.bool ((s.extract 0 p.size).toList==p.toList))=_
  rw[Lib.extract_toList,Lib.toList_data]
  simp[h]
 rename_i h
 go_ret
 refine⟨?_,rfl⟩
 show Ending.returned (Value.bool false)=_
 simp[h]
theorem Th(w:World)(s p:List UInt8):Ret Tryz.prog 203 [.string ⟨s.toArray⟩,.string ⟨p.toArray⟩] w fun v w'=>v=.bool (p.isPrefixOf s)/\w'=w:=
 x9 (Tg ⟨s.toArray⟩ ⟨p.toArray⟩ w) fun e w' ⟨he,hw⟩=>⟨_,he,rfl,hw⟩
theorem NV:∀(a b:List UInt8),Op.bytesLess a b=true↔a<b
|a,[]=>by cases a<;>simp[Op.bytesLess]
|[],b::bs=>by simp[Op.bytesLess]
|x::xs,y::ys=>by
  rw[Op.bytesLess,List.cons_lt_cons_iff, <-NV xs ys]
  simp
section
variable {n:Nat} {σ:Nat->Value} {ty:TypeId} {pos:String} {aft:Array Edge} {g:Option (Nat×Bool)} {d:Nat} {t:TypeId} {x y:Operand}
end
theorem HL:∀a b:By,(Lib.compareBytes a b<0/\a<b)\/(Lib.compareBytes a b=0/\a=b)\/(0<Lib.compareBytes a b/\b<a)
|[],[]=>.inr (.inl ⟨rfl,rfl⟩)
|[],_::_=>.inl ⟨(by decide:(-1:Int)<0),by simp⟩
|_::_,[]=>.inr (.inr ⟨(by decide:(0:Int)<1),by simp⟩)
|x::a,y::b=>by
  rw[Lib.compareBytes]
  simp only[List.cons_lt_cons_iff,qP]
  split
  ·exact .inl ⟨by decide,.inl (by assumption)⟩
  split
  ·exact .inr (.inr ⟨by decide,.inl (by assumption)⟩)
  rename_i h1 h2
  obtain rfl:x=y:=UInt8.le_antisymm (UInt8.not_lt.1 h2) (UInt8.not_lt.1 h1)
  rcases HL a b with h|h|h
  ·exact .inl ⟨h.1,.inr ⟨rfl,h.2⟩⟩
  ·exact .inr (.inl ⟨h.1,rfl,h.2⟩)
  exact .inr (.inr ⟨h.1,.inr ⟨rfl,h.2⟩⟩)
theorem Ti{a b:By}(h:Lib.compareBytes a b<0):a<b:=by rcases HL a b with q|q|q<;>first|exact q.2|omega
theorem cmp_eq{a b:By}(h:Lib.compareBytes a b=0):a=b:=by rcases HL a b with q|q|q<;>first|exact q.2|omega
structure BsP (n:Nat) (c:Nat->Int) (j:Nat) (p:Bool):Prop where
 le:j<=n
 lo:j=0\/c (j-1)<0
 hi:j=n\/0<=c j
 ok:p=true->j<n/\c j=0
 no:p=false->j<n->c j≠0
theorem BsP.none{n:Nat}{c:Nat->Int}(h:¬ i<j)(h1:i<=j)(h2:j<=n)(lo:i=0\/c (i-1)<0)(hi:j=n\/0<=c j)(h0:¬ i<n):BsP n c i false:=by
 obtain rfl:i=j:=by omega
 exact⟨h2,lo,hi,fun h=>(by cases h),fun _ h=>absurd h h0⟩
theorem BsP.some{n:Nat}{c:Nat->Int}(h:¬ i<j)(h1:i<=j)(h2:j<=n)(lo:i=0\/c (i-1)<0)(hi:j=n\/0<=c j)(h0:i<n):BsP n c i (decide (c i=0)):=by
 obtain rfl:i=j:=by omega
 exact⟨h2,lo,hi,fun h=>⟨h0,of_decide_eq_true h⟩,fun h _=>of_decide_eq_false h⟩
section
variable {key:α->By} {n:Nat} {g:Nat->α} {x:α}
def AscK(key:α->By)(n:Nat)(g:Nat->α):Prop:=∀i j,i<j->j<n->key (g i)<key (g j)
theorem AscK.inj(h:AscK key n g)(hi:i<n)(hj:j<n)(e:key (g i)=key (g j)):i=j:=by
 rcases Nat.lt_trichotomy i j with q|q|q
 ·have:=h i j q hj;rw[e]at this;exact absurd this (List.lt_irrefl _)
 ·exact q
 have:=h j i q hi;rw[e]at this;exact absurd this (List.lt_irrefl _)
theorem AscK.at{y:By}(h:AscK key n g)(b:BsP n (fun k=>Lib.compareBytes (key (g k)) y) j false):(∀k,k<j->key (g k)<y)/\∀k,j<=k->k<n->y<key (g k):=by
 refine⟨fun k hk=>?_,fun k h1 h2=>?_⟩
 ·have hl:key (g (j-1))<y:=b.lo.elim (fun e=>absurd hk zO) Ti
  by_cases e:k=j-1
  ·rw[e];exact hl
  exact List.lt_trans (h k (j-1) zO (by have:=b.le;omega)) hl
 have hg:y<key (g j):=by
  have h3:0<=Lib.compareBytes (key (g j)) y:=b.hi.elim (fun e=>absurd h2 zO) id
  have h4:Lib.compareBytes (key (g j)) y≠0:=b.no rfl zO
  rcases HL (key (g j)) y with q|q|q
  ·omega
  ·omega
  exact q.2
 by_cases e:k=j
 ·rw[e];exact hg
 exact List.lt_trans hg (h j k zO h2)
def Q2(g:Nat->α)(i:Nat)(x:α):Nat->α:=fun k=>bif blt k i then g k else bif beq k i then x else g (k-1)
def bJ(g:Nat->α)(i:Nat):Nat->α:=fun k=>bif blt k i then g k else g (k+1)
def F0(g:Nat->α)(i:Nat)(x:α):Nat->α:=fun k=>bif beq k i then x else g k
def J1(n:Nat)(g:Nat->α)(x:α):Nat->α:=fun k=>bif blt k n then g k else x
theorem jR{a b:Nat}(h:¬ a<b):blt a b=false:=by rw[<-Bool.not_eq_true,A8];exact h
theorem HM{a b:Nat}(h:a<b):blt a b=true:=by rw[A8];exact h
theorem YD{a b:Nat}(h:a≠b):beq a b=false:=by cases e:beq a b;rfl;exact absurd (A5 e) h
theorem uK(h:j<i):Q2 g i x j=g j:=by unfold Q2;rw[HM h];rfl
theorem BZ:Q2 g i x i=x:=by unfold Q2;rw[jR (Nat.lt_irrefl _),P6];rfl
theorem CA(h:i<=j):Q2 g i x (j+1)=g j:=by unfold Q2;rw[jR zO,YD zO];rfl
theorem HO(h:j<i):bJ g i j=g j:=by unfold bJ;rw[HM h];rfl
theorem NW(h:i<=j):bJ g i j=g (j+1):=by unfold bJ;rw[jR zO];rfl
theorem Tj(h:j<n):J1 n g x j=g j:=by unfold J1;rw[HM h];rfl
theorem Tk:J1 n g x n=x:=by unfold J1;rw[jR (Nat.lt_irrefl _)];rfl
theorem CB:F0 g i x i=x:=by unfold F0;rw[P6];rfl
theorem CC(h:j≠i):F0 g i x j=g j:=by unfold F0;rw[YD h];rfl
theorem AscK.ins(h:AscK key n g)(hj:j<=n)(hl:∀k,k<j->key (g k)<key x)(hg:∀k,j<=k->k<n->key x<key (g k)):AscK key (n+1) (Q2 g j x):=by
 intro a b U4 hb
 rcases Nat.lt_trichotomy b j with q|q|q
 ·rw[uK q,uK zO];exact h a b U4 zO
 ·subst q;rw[BZ,uK U4];exact hl a U4
 obtain⟨b,rfl⟩:∃b',b=b'+1:=⟨b-1,zO⟩
 rw[CA zO]
 rcases Nat.lt_trichotomy a j with r|r|r
 ·rw[uK r];exact h a b zO zO
 ·subst r;rw[BZ];exact hg b zO zO
 obtain⟨a,rfl⟩:∃a',a=a'+1:=⟨a-1,zO⟩
 rw[CA zO];exact h a b zO zO
theorem AscK.del(h:AscK key n g):AscK key (n-1) (bJ g i):=by
 intro a b U4 hb
 by_cases q:b<i
 ·rw[HO q,HO zO];exact h a b U4 zO
 rw[NW (j:=b) zO]
 by_cases r:a<i
 ·rw[HO r];exact h a (b+1) zO zO
 rw[NW zO];exact h (a+1) (b+1) zO zO
theorem AscK.mk0:AscK key 0 g:=fun _ _ _ h=>absurd h (S4 _)
theorem YE(hi:i<=n)(hj:j<n):∃k,k<n+1/\Q2 g i x k=g j:=by
 by_cases h:j<i
 ·exact⟨j,zO,uK h⟩
 exact⟨j+1,zO,CA zO⟩
end
theorem yT(h:i<j)(hj:j<4611686018427387904):i64.wrap ((u64.wrap (i64.wrap ((i:Int)+(j:Int)))).fdiv (2 ^ (min (1:Int).toNat 64)))=(((i+j) / 2:Nat):Int):=by
 have e1:i64.wrap ((i:Int)+(j:Int))=(i:Int)+(j:Int):=I8 ⟨zO,zO⟩
 have e2:u64.wrap ((i:Int)+(j:Int))=(i:Int)+(j:Int):=gT ⟨zO,zO⟩
 rw[e1,e2,show(2:Int) ^ (min (1:Int).toNat 64)=2 by decide,JA _ zO]
 rw[I8 ⟨zO,zO⟩]
 omega
def hP(c:Nat->Int):Nat->Nat->Nat->Nat
|0,i,_=>i
|f+1,i,j=>if i<j then (if c ((i+j) / 2)<0 then hP c f ((i+j) / 2+1) j else hP c f i ((i+j) / 2)) else i
theorem Tl{c:Nat->Int}(h:i<j)(hc:c ((i+j) / 2)<0)(hI:∃f,j-i<=f/\hP c f i j=r):∃f,j-((i+j) / 2+1)<=f/\hP c f ((i+j) / 2+1) j=r:=by
 obtain⟨f,hf,he⟩:=hI
 obtain⟨f,rfl⟩:∃f',f=f'+1:=⟨f-1,zO⟩
 rw[hP,if_pos h,if_pos hc]at he
 exact⟨f,zO,he⟩
theorem Tm{c:Nat->Int}(h:i<j)(hc:¬ c ((i+j) / 2)<0)(hI:∃f,j-i<=f/\hP c f i j=r):∃f,(i+j) / 2-i<=f/\hP c f i ((i+j) / 2)=r:=by
 obtain⟨f,hf,he⟩:=hI
 obtain⟨f,rfl⟩:∃f',f=f'+1:=⟨f-1,zO⟩
 rw[hP,if_pos h,if_neg hc]at he
 exact⟨f,zO,he⟩
theorem HP{c:Nat->Int}(h:¬ i<j)(hI:∃f,j-i<=f/\hP c f i j=r):r=i:=by
 obtain⟨f,hf,he⟩:=hI
 cases f with
|zero=>exact he.symm
|succ f=>rw[hP,if_neg h]at he;exact he.symm
theorem vH{v:V}(h:i<j)(hj:j<4611686018427387904)(e:v=.i .i64 (i64.wrap ((u64.wrap (i64.wrap ((i:Int)+(j:Int)))).fdiv (2 ^ (min (1:Int).toNat 64)))):=by kernel_rfl):VEq v (.i .i64 (((i+j) / 2:Nat):Int)):=.of_eq (by rw[e,yT h hj])
theorem HQ{v:V}(h:i<j)(hj:j<4611686018427387904)(e:v=.i .i64 (i64.wrap (i64.wrap ((u64.wrap (i64.wrap ((i:Int)+(j:Int)))).fdiv (2 ^ (min (1:Int).toNat 64)))+1)):=by kernel_rfl):VEq v (.i .i64 (((i+j) / 2+1:Nat):Int)):=.of_eq (by rw[e,yT h hj,I8 ⟨zO,zO⟩];rfl)
theorem YF(a b:By):Sat Tryz.prog 156 [.bs 32 a,.bs 32 b] [] (fun out A0=>A0=[]/\(out=.i .i64 (Lib.compareBytes a b))):=by
 refine cF Tryz.func156 fun X0 w0 hX=>?_
 refine cQ [] (XE 1 1 a b) ?_;exact xW hX (.i .i64 (Lib.compareBytes a b)) ⟨rfl,rfl,rfl⟩
theorem YG(x:Obj)(b:By):Sat Tryz.prog 155 [C3 x,.bs 32 b] [] (fun out A0=>A0=[]/\(out=.i .i64 (Lib.compareBytes x.of b))):=by
 refine cF Tryz.func155 fun X0 w0 hX=>?_
 refine cQ [] (YF x.of b) ?_;exact xW hX (.i .i64 (Lib.compareBytes x.of b)) ⟨rfl,rfl,rfl⟩
theorem YH(x:Doo)(b:By):Sat Tryz.prog 174 [E0 x,.bs 32 b] [] (fun out A0=>A0=[]/\(out=.i .i64 (Lib.compareBytes x.of b))):=by
 refine cF Tryz.func174 fun X0 w0 hX=>?_
 refine cQ [] (YF x.of b) ?_;exact xW hX (.i .i64 (Lib.compareBytes x.of b)) ⟨rfl,rfl,rfl⟩
theorem YI(t:TenR)(b:By):Sat Tryz.prog 70 [B4 t,.s b] [] (fun out A0=>A0=[]/\(out=.i .i64 (Lib.compareBytes t.name b))):=by
 refine cF Tryz.func70 fun X0 w0 hX=>?_
 refine cQ [] (XE 0 0 t.name b) ?_;exact xW hX (.i .i64 (Lib.compareBytes t.name b)) ⟨rfl,rfl,rfl⟩
theorem YJ(a:Int):Sat Tryz.prog 108 [.i .u64 a] [] (fun out A0=>A0=[]/\(∃c,out=.b c)):=by
 refine cF Tryz.func108 fun X0 w0 hX=>?_
 exact xW hX (.b (decide (a≠a))) ⟨rfl,rfl,⟨_,rfl⟩⟩
theorem YK(a:Int):Sat Tryz.prog 153 [.i .u64 a] [] (fun out A0=>A0=[]/\(∃c,out=.b c)):=by
 refine cF Tryz.func153 fun X0 w0 hX=>?_
 exact xW hX (.b (decide (a≠a))) ⟨rfl,rfl,⟨_,rfl⟩⟩
theorem Tn(a b:Int):Sat Tryz.prog 107 [.i .u64 a,.i .u64 b] [] (fun out A0=>A0=[]/\(∃c,out=.b c)):=by
 refine cF Tryz.func107 fun X0 w0 hX=>?_
 refine cK [] (YK a) ?_;rintro out A0 ⟨rfl,⟨rV,rfl⟩⟩
 refine cb (rV) ?_ ?_<;>intro h1
 ·refine cK [] (YK b) ?_
  rintro out A0 ⟨rfl,⟨pp1,rfl⟩⟩
  refine cn (pp1) ?_ ?_<;>intro h2
  ·exact xW hX (.b true) ⟨rfl,rfl,⟨_,rfl⟩⟩
  exact xW hX (.b (decide (a<b))) ⟨rfl,rfl,⟨_,rfl⟩⟩
 exact xW hX (.b (decide (a<b))) ⟨rfl,rfl,⟨_,rfl⟩⟩
theorem CD(n:Nat)(g:Nat->Int)(x:Int)(hn:n<1000000):Sat Tryz.prog 64 [.sl 0 1 n fun i=>.i .u64 (g i),.i .u64 x] [] (fun out A0=>A0=[]/\(∃(j:Nat) (p:Bool),out=A2 [.i .i64 j,.b p]/\j<=n/\(p=true->j<n))):=by
 refine cF Tryz.func64 fun X0 w0 hX=>?_
 refine cM hX (fun(p:Nat×Nat)=>[(0,.sl 0 1 n fun i=>.i .u64 (g i)),(1,.i .u64 x),(6,.i .i64 (n:Int)),(7,.i .i64 (p.1:Int)),(8,.i .i64 (p.2:Int))]) (fun(p:Nat×Nat)=>[]) (fun(p:Nat×Nat)=>p.1<=p.2/\p.2<=n) (fun(p:Nat×Nat)=>p.2-p.1) [] 528 (0,n) ⟨by simp,by simp⟩ ?_;rintro⟨i,j⟩ hI R hR
 dsimp only at hI
 refine cB ((i:Int)<(j:Int)) ?_ ?_<;>intro h1
 ·have hh:=yT (show i<j by omega) (show j<4611686018427387904 by omega)
  refine cC ((0:Int)<=(i64.wrap ((u64.wrap (i64.wrap ((i:Int)+(j:Int)))).fdiv (2 ^ (min (1:Int).toNat 64))))/\(i64.wrap ((u64.wrap (i64.wrap ((i:Int)+(j:Int)))).fdiv (2 ^ (min (1:Int).toNat 64))))<(n:Int)) ?_ bw;refine cK [] (Tn (g (((i64.wrap ((u64.wrap (i64.wrap ((i:Int)+(j:Int)))).fdiv (2 ^ (min (1:Int).toNat 64))))).toNat)) x) ?_;rintro out A0 ⟨rfl,⟨rV,rfl⟩⟩
  refine cb (rV) ?_ ?_<;>intro h2
  ·exact cA hX (hR ((i+j) / 2+1,j) ⟨bd,bd⟩ (by dsimp only;omega)) (hS:=⟨v0,v0,v0,(HQ zO zO),v0,zT⟩)
  exact cA hX (hR (i,(i+j) / 2) ⟨bd,bd⟩ (by dsimp only;omega)) (hS:=⟨v0,v0,v0,v0,(vH zO zO),zT⟩)
 refine cB ((i:Int)<(n:Int)) ?_ ?_<;>intro h3
 ·refine cC ((0:Int)<=(i:Int)/\(i:Int)<(n:Int)) ?_
  refine cB ((g i)=x) ?_ ?_<;>intro h4
  ·exact xW hX (A2 [.i .i64 (i:Int),.b true]) ⟨rfl,rfl,⟨i,_,rfl,zO,by first|(intro h;simp at h;done)|(intro;omega)⟩⟩
  refine cC ((0:Int)<=(i:Int)/\(i:Int)<(n:Int)) ?_
  refine cK [] (YJ (g i)) ?_;rintro out A0 ⟨rfl,⟨pp1,rfl⟩⟩
  refine cb (pp1) ?_ ?_<;>intro h5
  ·refine cK [] (YJ x) ?_
   rintro out A0 ⟨rfl,⟨pp2,rfl⟩⟩
   exact xW hX (A2 [.i .i64 (i:Int),.b pp2]) ⟨rfl,rfl,⟨i,_,rfl,zO,by first|(intro h;simp at h;done)|(intro;omega)⟩⟩
  exact xW hX (A2 [.i .i64 (i:Int),.b false]) ⟨rfl,rfl,⟨i,_,rfl,zO,by first|(intro h;simp at h;done)|(intro;omega)⟩⟩
 exact xW hX (A2 [.i .i64 (i:Int),.b false]) ⟨rfl,rfl,⟨i,_,rfl,zO,by first|(intro h;simp at h;done)|(intro;omega)⟩⟩
theorem To(n:Nat)(g:Nat->Obj)(x:By)(hn:n<1000000):Sat Tryz.prog 154 [.sl 0 33 n fun i=>C3 (g i),.bs 32 x,.fn 155 0 fun _=>.un] [] (fun out A0=>A0=[]/\(∃(j:Nat) (p:Bool),out=A2 [.i .i64 j,.b p]/\j<=n/\BsP n (fun k=>Lib.compareBytes (g k).of x) j p)):=by
 refine cF Tryz.func154 fun X0 w0 hX=>?_
 refine cM hX (fun(p:Nat×Nat)=>[(0,.sl 0 33 n fun i=>C3 (g i)),(2,.fn 155 0 fun _=>.un),(4,.pr 16 0 []),(8,.i .i64 (n:Int)),(9,.i .i64 (p.1:Int)),(10,.i .i64 (p.2:Int))]) (fun(p:Nat×Nat)=>[(16,.bs 32 x)]) (fun(p:Nat×Nat)=>p.1<=p.2/\p.2<=n/\(p.1=0\/Lib.compareBytes (g (p.1-1)).of x<0)/\(p.2=n\/0<=Lib.compareBytes (g p.2).of x)) (fun(p:Nat×Nat)=>p.2-p.1) [] 592 (0,n) ⟨by simp,by simp,.inl rfl,.inl rfl⟩ ?_;rintro⟨i,j⟩ hI R hR
 dsimp only at hI
 refine cB ((i:Int)<(j:Int)) ?_ ?_<;>intro h1
 ·have hh:=yT (show i<j by omega) (show j<4611686018427387904 by omega)
  refine cC ((0:Int)<=(i64.wrap ((u64.wrap (i64.wrap ((i:Int)+(j:Int)))).fdiv (2 ^ (min (1:Int).toNat 64))))/\(i64.wrap ((u64.wrap (i64.wrap ((i:Int)+(j:Int)))).fdiv (2 ^ (min (1:Int).toNat 64))))<(n:Int)) ?_ bw;refine cQ [] (YG (g (((i64.wrap ((u64.wrap (i64.wrap ((i:Int)+(j:Int)))).fdiv (2 ^ (min (1:Int).toNat 64))))).toNat)) x) ?_;refine cB ((Lib.compareBytes ((g (((i64.wrap ((u64.wrap (i64.wrap ((i:Int)+(j:Int)))).fdiv (2 ^ (min (1:Int).toNat 64))))).toNat)).of) x)<0) ?_ ?_<;>intro h2
  ·rw[hh]at h2
   exact cA hX (hR ((i+j) / 2+1,j) ⟨bd,bd,.inr h2,hI.2.2.2⟩ (by dsimp only;omega)) (hS:=⟨v0,v0,v0,v0,(HQ zO zO),v0,zT⟩)
  rw[hh]at h2
  exact cA hX (hR (i,(i+j) / 2) ⟨bd,bd,hI.2.2.1,.inr (Int.not_lt.1 h2)⟩ (by dsimp only;omega)) (hS:=⟨v0,v0,v0,v0,v0,(vH zO zO),zT⟩)
 refine cB ((i:Int)<(n:Int)) ?_ ?_<;>intro h3
 ·refine cC ((0:Int)<=(i:Int)/\(i:Int)<(n:Int)) ?_
  refine cQ [] (YG (g i) x) ?_;exact xW hX (A2 [.i .i64 (i:Int),.b (decide ((Lib.compareBytes ((g i).of) x)=0))]) ⟨rfl,rfl,⟨i,_,rfl,zO,by first|exact .some (c:=fun k=>Lib.compareBytes (g k).of x) zO hI.1 hI.2.1 hI.2.2.1 hI.2.2.2 zO|exact .none zO hI.1 hI.2.1 hI.2.2.1 hI.2.2.2 zO⟩⟩
 exact xW hX (A2 [.i .i64 (i:Int),.b false]) ⟨rfl,rfl,⟨i,_,rfl,zO,by first|exact .some (c:=fun k=>Lib.compareBytes (g k).of x) zO hI.1 hI.2.1 hI.2.2.1 hI.2.2.2 zO|exact .none zO hI.1 hI.2.1 hI.2.2.1 hI.2.2.2 zO⟩⟩
theorem Tp(n:Nat)(g:Nat->Doo)(x:By)(hn:n<1000000):Sat Tryz.prog 173 [.sl 0 33 n fun i=>E0 (g i),.bs 32 x,.fn 174 0 fun _=>.un] [] (fun out A0=>A0=[]/\(∃(j:Nat) (p:Bool),out=A2 [.i .i64 j,.b p]/\j<=n/\BsP n (fun k=>Lib.compareBytes (g k).of x) j p)):=by
 refine cF Tryz.func173 fun X0 w0 hX=>?_
 refine cM hX (fun(p:Nat×Nat)=>[(0,.sl 0 33 n fun i=>E0 (g i)),(2,.fn 174 0 fun _=>.un),(4,.pr 16 0 []),(8,.i .i64 (n:Int)),(9,.i .i64 (p.1:Int)),(10,.i .i64 (p.2:Int))]) (fun(p:Nat×Nat)=>[(16,.bs 32 x)]) (fun(p:Nat×Nat)=>p.1<=p.2/\p.2<=n/\(p.1=0\/Lib.compareBytes (g (p.1-1)).of x<0)/\(p.2=n\/0<=Lib.compareBytes (g p.2).of x)) (fun(p:Nat×Nat)=>p.2-p.1) [] 592 (0,n) ⟨by simp,by simp,.inl rfl,.inl rfl⟩ ?_;rintro⟨i,j⟩ hI R hR
 dsimp only at hI
 refine cB ((i:Int)<(j:Int)) ?_ ?_<;>intro h1
 ·have hh:=yT (show i<j by omega) (show j<4611686018427387904 by omega)
  refine cC ((0:Int)<=(i64.wrap ((u64.wrap (i64.wrap ((i:Int)+(j:Int)))).fdiv (2 ^ (min (1:Int).toNat 64))))/\(i64.wrap ((u64.wrap (i64.wrap ((i:Int)+(j:Int)))).fdiv (2 ^ (min (1:Int).toNat 64))))<(n:Int)) ?_ bw;refine cQ [] (YH (g (((i64.wrap ((u64.wrap (i64.wrap ((i:Int)+(j:Int)))).fdiv (2 ^ (min (1:Int).toNat 64))))).toNat)) x) ?_;refine cB ((Lib.compareBytes ((g (((i64.wrap ((u64.wrap (i64.wrap ((i:Int)+(j:Int)))).fdiv (2 ^ (min (1:Int).toNat 64))))).toNat)).of) x)<0) ?_ ?_<;>intro h2
  ·rw[hh]at h2
   exact cA hX (hR ((i+j) / 2+1,j) ⟨bd,bd,.inr h2,hI.2.2.2⟩ (by dsimp only;omega)) (hS:=⟨v0,v0,v0,v0,(HQ zO zO),v0,zT⟩)
  rw[hh]at h2
  exact cA hX (hR (i,(i+j) / 2) ⟨bd,bd,hI.2.2.1,.inr (Int.not_lt.1 h2)⟩ (by dsimp only;omega)) (hS:=⟨v0,v0,v0,v0,v0,(vH zO zO),zT⟩)
 refine cB ((i:Int)<(n:Int)) ?_ ?_<;>intro h3
 ·refine cC ((0:Int)<=(i:Int)/\(i:Int)<(n:Int)) ?_
  refine cQ [] (YH (g i) x) ?_;exact xW hX (A2 [.i .i64 (i:Int),.b (decide ((Lib.compareBytes ((g i).of) x)=0))]) ⟨rfl,rfl,⟨i,_,rfl,zO,by first|exact .some (c:=fun k=>Lib.compareBytes (g k).of x) zO hI.1 hI.2.1 hI.2.2.1 hI.2.2.2 zO|exact .none zO hI.1 hI.2.1 hI.2.2.1 hI.2.2.2 zO⟩⟩
 exact xW hX (A2 [.i .i64 (i:Int),.b false]) ⟨rfl,rfl,⟨i,_,rfl,zO,by first|exact .some (c:=fun k=>Lib.compareBytes (g k).of x) zO hI.1 hI.2.1 hI.2.2.1 hI.2.2.2 zO|exact .none zO hI.1 hI.2.1 hI.2.2.1 hI.2.2.2 zO⟩⟩
def yU(n:Nat)(g:Nat->TenR)(x:By):Nat:=hP (fun k=>Lib.compareBytes (g k).name x) n 0 n
theorem NX(n:Nat)(g:Nat->TenR)(x:By)(hn:n<1000000):Sat Tryz.prog 69 [.sl 0 38 n fun i=>B4 (g i),.s x,.fn 70 0 fun _=>.un] [] (fun out A0=>A0=[]/\(∃p:Bool,out=A2 [.i .i64 (yU n g x),.b p]/\BsP n (fun k=>Lib.compareBytes (g k).name x) (yU n g x) p)):=by
 refine cF Tryz.func69 fun X0 w0 hX=>?_
 refine cM hX (fun(p:Nat×Nat)=>[(0,.sl 0 38 n fun i=>B4 (g i)),(1,.s x),(2,.fn 70 0 fun _=>.un),(8,.i .i64 (n:Int)),(9,.i .i64 (p.1:Int)),(10,.i .i64 (p.2:Int))]) (fun(p:Nat×Nat)=>[]) (fun(p:Nat×Nat)=>p.1<=p.2/\p.2<=n/\(∃f,p.2-p.1<=f/\hP (fun k=>Lib.compareBytes (g k).name x) f p.1 p.2=yU n g x)/\(p.1=0\/Lib.compareBytes (g (p.1-1)).name x<0)/\(p.2=n\/0<=Lib.compareBytes (g p.2).name x)) (fun(p:Nat×Nat)=>p.2-p.1) [] 528 (0,n) ⟨by simp,by simp,⟨n,by simp,rfl⟩,.inl rfl,.inl rfl⟩ ?_;rintro⟨i,j⟩ hI R hR
 dsimp only at hI
 refine cB ((i:Int)<(j:Int)) ?_ ?_<;>intro h1
 ·have hh:=yT (show i<j by omega) (show j<4611686018427387904 by omega)
  refine cC ((0:Int)<=(i64.wrap ((u64.wrap (i64.wrap ((i:Int)+(j:Int)))).fdiv (2 ^ (min (1:Int).toNat 64))))/\(i64.wrap ((u64.wrap (i64.wrap ((i:Int)+(j:Int)))).fdiv (2 ^ (min (1:Int).toNat 64))))<(n:Int)) ?_ bw;refine cQ [] (YI (g (((i64.wrap ((u64.wrap (i64.wrap ((i:Int)+(j:Int)))).fdiv (2 ^ (min (1:Int).toNat 64))))).toNat)) x) ?_;refine cB ((Lib.compareBytes (g (((i64.wrap ((u64.wrap (i64.wrap ((i:Int)+(j:Int)))).fdiv (2 ^ (min (1:Int).toNat 64))))).toNat)).name x)<0) ?_ ?_<;>intro h2
  ·rw[hh]at h2
   exact cA hX (hR ((i+j) / 2+1,j) ⟨bd,bd,Tl zO h2 hI.2.2.1,.inr h2,hI.2.2.2.2⟩ (by dsimp only;omega)) (hS:=⟨v0,v0,v0,v0,(HQ zO zO),v0,zT⟩)
  rw[hh]at h2
  exact cA hX (hR (i,(i+j) / 2) ⟨bd,bd,Tm zO h2 hI.2.2.1,hI.2.2.2.1,.inr (Int.not_lt.1 h2)⟩ (by dsimp only;omega)) (hS:=⟨v0,v0,v0,v0,v0,(vH zO zO),zT⟩)
 refine cB ((i:Int)<(n:Int)) ?_ ?_<;>intro h3
 ·refine cC ((0:Int)<=(i:Int)/\(i:Int)<(n:Int)) ?_
  refine cQ [] (YI (g i) x) ?_;exact xW hX (A2 [.i .i64 (i:Int),.b (decide ((Lib.compareBytes (g i).name x)=0))]) ⟨rfl,rfl,⟨_,by rw[HP zO hI.2.2.1],by rw[HP zO hI.2.2.1];first|exact .some (c:=fun k=>Lib.compareBytes (g k).name x) zO hI.1 hI.2.1 hI.2.2.2.1 hI.2.2.2.2 zO|exact .none zO hI.1 hI.2.1 hI.2.2.2.1 hI.2.2.2.2 zO⟩⟩
 exact xW hX (A2 [.i .i64 (i:Int),.b false]) ⟨rfl,rfl,⟨_,by rw[HP zO hI.2.2.1],by rw[HP zO hI.2.2.1];first|exact .some (c:=fun k=>Lib.compareBytes (g k).name x) zO hI.1 hI.2.1 hI.2.2.2.1 hI.2.2.2.2 zO|exact .none zO hI.1 hI.2.1 hI.2.2.2.1 hI.2.2.2.2 zO⟩⟩
theorem t1{Q:Prop}(h:Q:=by first|(intro h;cases h;done)|(intro _;omega)):Q:=h
theorem YL(o:OpT)(ho:o.tenant.length<1000000):Sat Tryz.prog 28 [J4 o] [] (fun out A0=>A0=[]/\(∃p,out=.b p/\(p=true->o.body.length<=4096/\o.tenant.length<=16/\1<=o.do/\o.do<=17/\0<=o.number))):=by
 refine cF Tryz.func28 fun X0 w0 hX=>?_
 refine cB (o.do<1) ?_ ?_<;>intro h1
 ·exact xW hX (.b false) ⟨rfl,rfl,⟨_,rfl,t1⟩⟩
 refine cB (17<o.do) ?_ ?_<;>intro h2
 ·exact xW hX (.b false) ⟨rfl,rfl,⟨_,rfl,t1⟩⟩
 refine cB (o.now<0) ?_ ?_<;>intro h3
 ·exact xW hX (.b false) ⟨rfl,rfl,⟨_,rfl,t1⟩⟩
 refine cB (o.number<0) ?_ ?_<;>intro h4
 ·exact xW hX (.b false) ⟨rfl,rfl,⟨_,rfl,t1⟩⟩
 refine cB (o.until<0) ?_ ?_<;>intro h5
 ·exact xW hX (.b false) ⟨rfl,rfl,⟨_,rfl,t1⟩⟩
 refine cB (4096<(o.body.length:Int)) ?_ ?_<;>intro h6
 ·exact xW hX (.b false) ⟨rfl,rfl,⟨_,rfl,t1⟩⟩
 refine cK [] (BV o.rights) ?_
 rintro out A0 ⟨rfl,⟨pk0,rfl⟩⟩
 refine cn (pk0) ?_ ?_<;>intro h7
 ·exact xW hX (.b false) ⟨rfl,rfl,⟨_,rfl,t1⟩⟩
 refine cB (o.do=12) ?_ ?_<;>intro h8
 ·refine cK [] (BU o.tenant bd) ?_
  rintro out A0 ⟨rfl,⟨pn1,rfl,hpn1⟩⟩
  refine cb (pn1) ?_ ?_<;>intro h9
  ·have ht:=hpn1 h9
   exact xW hX (.b true) ⟨rfl,rfl,⟨_,rfl,t1⟩⟩
  refine cB (o.tenant=[]) ?_ ?_<;>intro K0
  ·have ht:o.tenant.length<=16:=by rw[K0];exact L8 _
   exact xW hX (.b true) ⟨rfl,rfl,⟨_,rfl,t1⟩⟩
  exact xW hX (.b false) ⟨rfl,rfl,⟨_,rfl,t1⟩⟩
 refine cB (o.do=13) ?_ ?_<;>intro P9
 ·refine cK [] (BU o.tenant bd) ?_
  rintro out A0 ⟨rfl,⟨pn2,rfl,hpn2⟩⟩
  refine cb (pn2) ?_ ?_<;>intro h12
  ·have ht:=hpn2 h12
   exact xW hX (.b true) ⟨rfl,rfl,⟨_,rfl,t1⟩⟩
  refine cB (o.tenant=[]) ?_ ?_<;>intro w6
  ·have ht:o.tenant.length<=16:=by rw[w6];exact L8 _
   exact xW hX (.b true) ⟨rfl,rfl,⟨_,rfl,t1⟩⟩
  exact xW hX (.b false) ⟨rfl,rfl,⟨_,rfl,t1⟩⟩
 refine cB (o.do=16) ?_ ?_<;>intro dM
 ·refine cK [] (BU o.tenant bd) ?_
  rintro out A0 ⟨rfl,⟨pn3,rfl,hpn3⟩⟩
  refine cb (pn3) ?_ ?_<;>intro dN
  ·have ht:=hpn3 dN
   exact xW hX (.b true) ⟨rfl,rfl,⟨_,rfl,t1⟩⟩
  refine cB (o.tenant=[]) ?_ ?_<;>intro K6
  ·have ht:o.tenant.length<=16:=by rw[K6];exact L8 _
   exact xW hX (.b true) ⟨rfl,rfl,⟨_,rfl,t1⟩⟩
  exact xW hX (.b false) ⟨rfl,rfl,⟨_,rfl,t1⟩⟩
 refine cK [] (BU o.tenant bd) ?_
 rintro out A0 ⟨rfl,⟨pn4,rfl,hpn4⟩⟩
 refine cb (pn4) ?_ ?_<;>intro h17
 ·have ht:=hpn4 h17
  exact xW hX (.b true) ⟨rfl,rfl,⟨_,rfl,t1⟩⟩
 refine cB (o.tenant=[]) ?_ ?_<;>intro h18
 ·have ht:o.tenant.length<=16:=by rw[h18];exact L8 _
  exact xW hX (.b (decide (o.do=17))) ⟨rfl,rfl,⟨_,rfl,t1⟩⟩
 exact xW hX (.b false) ⟨rfl,rfl,⟨_,rfl,t1⟩⟩
theorem Tq(x:Snp)(s:StaR)(o:OpT)(t:TenR)(n:Int):Sat Tryz.prog 122 [C9 x,.pz (.pz (nA s o t n))] [] (fun out A0=>A0=[]/\(∃p,out=.b p)):=by
 refine cF Tryz.func122 fun X0 w0 hX=>?_
 exact xW hX (.b (decide (x.number=o.number))) ⟨rfl,rfl,⟨_,rfl⟩⟩
theorem Tr(m:Nat)(g:Nat->Snp)(hm:m<1000000)(s:StaR)(o:OpT)(t:TenR)(n:Int):Sat Tryz.prog 121 [.sl 0 36 m fun i=>C9 (g i),mY 122 [.pz (.pz (nA s o t n))]] [] (fun out A0=>A0=[]/\(∃j:Int,out=.i .i64 j/\ -1<=j/\j<m)):=by
 refine cF Tryz.func121 fun X0 w0 hX=>?_
 refine cM hX (fun(k:Nat)=>[(0,.sl 0 36 m fun i=>C9 (g i)),(1,mY 122 [.pz (.pz (nA s o t n))]),(7,.i .i64 (m:Int)),(8,.i .i64 (k:Int))]) (fun(k:Nat)=>[]) (fun(k:Nat)=>k<=m) (fun(k:Nat)=>m-k) [] 272 0 (by simp) ?_;rintro k hI R hR
 refine cB ((k:Int)<(m:Int)) ?_ ?_<;>intro h1
 ·refine cC ((0:Int)<=(k:Int)/\(k:Int)<(m:Int)) ?_
  refine cK [] (Tq (g k) s o t n) ?_;rintro out A0 ⟨rfl,⟨rV,rfl⟩⟩
  refine cb (rV) ?_ ?_<;>intro h2
  ·exact xW hX (.i .i64 (k:Int)) ⟨rfl,rfl,⟨_,rfl,zO,zO⟩⟩
  exact cA hX (hR (k+1) zO zO) (hS:=⟨v0,v0,v0,(vS bd),zT⟩)
 exact xW hX (.i .i64 (-1)) ⟨rfl,rfl,⟨_,rfl,zO,zO⟩⟩
def fL(d n:Int):Int:=if i64.wrap (9223372036854775807-d)<n then 9223372036854775807 else if i64.wrap (n+d)<1 then 1 else i64.wrap (n+d)
theorem NY(s:StaR)(o:OpT)(t:TenR)(n:Int):Sat Tryz.prog 124 [.pz (nA s o t n)] [] (fun out A0=>A0=[]/\(out=.i .i64 (fL s.delay o.now))):=by
 refine cF Tryz.func124 fun X0 w0 hX=>?_
 refine cB ((i64.wrap (9223372036854775807-s.delay))<o.now) ?_ ?_<;>intro h1
 ·exact xW hX (.i .i64 9223372036854775807) ⟨rfl,rfl,by rw[fL,if_pos h1]⟩
 exact xW hX (.i .i64 (if (i64.wrap (o.now+s.delay))<1 then 1 else (i64.wrap (o.now+s.delay)))) ⟨rfl,rfl,by rw[fL,if_neg h1]⟩
theorem NZ(s:StaR)(o:OpT)(t:TenR)(n:Int)(x:By)(hn:t.nb<1000000):Sat Tryz.prog 111 [.pz (nA s o t n),.bs 32 x] [] (fun out A0=>A0=[]/\(∃(j:Nat) (p:Bool),out=A2 [.i .i64 j,.b p]/\j<=t.nb/\BsP t.nb (fun k=>Lib.compareBytes (t.gb k).of x) j p)):=by
 refine cF Tryz.func111 fun X0 w0 hX=>?_
 refine cK [] (To t.nb (fun i=>(t.gb i)) x bd) ?_;rintro out A0 ⟨rfl,⟨K1,dP,rfl,oL,iS⟩⟩
 exact xW hX (A2 [.i .i64 (K1:Int),.b dP]) ⟨rfl,rfl,⟨_,_,rfl,oL,iS⟩⟩
theorem YM(s:StaR)(o:OpT)(t:TenR)(n:Int)(x:By)(hn:t.nd<1000000):Sat Tryz.prog 132 [.pz (nA s o t n),.bs 32 x] [] (fun out A0=>A0=[]/\(∃(j:Nat) (p:Bool),out=A2 [.i .i64 j,.b p]/\j<=t.nd/\BsP t.nd (fun k=>Lib.compareBytes (t.gd k).of x) j p)):=by
 refine cF Tryz.func132 fun X0 w0 hX=>?_
 refine cK [] (Tp t.nd (fun i=>(t.gd i)) x bd) ?_;rintro out A0 ⟨rfl,⟨K1,dP,rfl,oL,iS⟩⟩
 exact xW hX (A2 [.i .i64 (K1:Int),.b dP]) ⟨rfl,rfl,⟨_,_,rfl,oL,iS⟩⟩
def g8(f:Nat->Nat):Nat->Nat
|0=>0
|n+1=>g8 f n+f n
theorem OA{f:Nat->Nat}{c:Nat}:∀{n:Nat},(∀j,j<n->f j<=c)->g8 f n<=n*c
|0,_=>by simp[g8]
|n+1,h=>by
  have h1:=OA (f:=f) (c:=c) (n:=n) fun j hj=>h j zO
  have h2:=h n zO
  rw[g8,U3]
  omega
def Q3(g:Nat->Obj)(n:Nat):Nat:=g8 (fun j=>(g j).data.length) n
def X6(g:Nat->Snp)(n:Nat):Nat:=g8 (fun j=>43+(g j).mani.label.length) n
def useN(t:TenR):Nat:=Q3 t.gb t.nb+X6 t.gs t.ns
theorem YN{g:Nat->Obj}{n:Nat}:Q3 g (n+1)=Q3 g n+(g n).data.length:=rfl
theorem CE{g:Nat->Snp}{n:Nat}:X6 g (n+1)=X6 g n+(43+(g n).mani.label.length):=rfl
theorem CF{g:Nat->Obj}{n:Nat}(hn:n<=100000)(h:∀j,j<n->(g j).data.length<=100000)(hk:k<=n):Q3 g k<=10000000000:=J2 (OA (c:=100000) fun j hj=>h j zO) (J2 (G2 _ (show k<=100000 by omega)) (by decide))
theorem OC{g:Nat->Snp}{n:Nat}(hn:n<=100000)(h:∀j,j<n->S7 (g j).mani=true)(hk:k<=n):X6 g k<=10700000:=J2 (OA (c:=107) fun j hj=>by have:=jQ (h j zO);omega) (J2 (G2 _ (show k<=100000 by omega)) (by decide))
theorem YO(t:TenR)(wK:t.nb<=100000)(hB2:t.ns<=100000)(hs:∀i,i<t.ns->(t.gs i).mani.label.length<=5000)(hM:∀i,i<t.ns->S7 (t.gs i).mani=true)(Z6:∀i,i<t.nb->(t.gb i).data.length<=100000):Sat Tryz.prog 80 [B4 t] [] (fun out A0=>A0=[]/\(out=.i .i64 (useN t:Int))):=by
 refine cF Tryz.func80 fun X0 w0 hX=>?_
 refine cM hX (fun(k:Nat)=>[(1,.pr 16 0 []),(3,.i .i64 (Q3 t.gb k:Int)),(11,.sl 0 33 t.nb fun i=>C3 (t.gb i)),(12,.i .i64 (t.nb:Int)),(13,.i .i64 (k:Int))]) (fun(k:Nat)=>[(16,B4 t)]) (fun(k:Nat)=>k<=t.nb) (fun(k:Nat)=>t.nb-k) [] 464 0 (by simp) ?_;rintro k hI R hR
 refine cB ((k:Int)<(t.nb:Int)) ?_ ?_<;>intro h1
 ·have hk:=Z6 k zO
  have hu:=CF wK Z6 (show k<=t.nb by omega)
  refine cC ((0:Int)<=(k:Int)/\(k:Int)<(t.nb:Int)) ?_;exact cA hX (hR (k+1) bd zO) (hS:=⟨v0,(vW (a:=(Q3 t.gb k:Int)+((t.gb k).data.length:Int)) ⟨zO,zO,by rw[YN];omega⟩),v0,v0,(vS bd),zT⟩)
 refine cM hX (fun(k:Nat)=>[(3,.i .i64 ((Q3 t.gb t.nb+X6 t.gs k:Nat):Int)),(24,.sl 0 36 t.ns fun i=>C9 (t.gs i)),(25,.i .i64 (t.ns:Int)),(26,.i .i64 (k:Int))]) (fun(k:Nat)=>[]) (fun(k:Nat)=>k<=t.ns) (fun(k:Nat)=>t.ns-k) [] 784 0 (by simp) ?_ (hS:=⟨(vT (u:=.i .i64 (Q3 t.gb k:Int)) (.of_eq (by rw[show k=t.nb by omega];rfl))),v0,v0,v0,zT⟩)
 rintro k hI R hR
 refine cB ((k:Int)<(t.ns:Int)) ?_ ?_<;>intro h2
 ·have hk:=hs k zO
  have hu:=CF wK Z6 (B2 _)
  have hv:=OC hB2 hM (show k<=t.ns by omega)
  refine cC ((0:Int)<=(k:Int)/\(k:Int)<(t.ns:Int)) ?_;refine cK [] (XL ((t.gs k).mani) bd) ?_;rintro out A0 ⟨sb0,se0,rfl,rfl,hsb0⟩
  exact cA hX (hR (k+1) bd zO) (hS:=⟨(vW (a:=((Q3 t.gb t.nb+X6 t.gs k:Nat):Int)+(sb0.length:Int)) ⟨zO,zO,by rw[CE];have:=hsb0.2 (hM k zO);omega⟩),v0,v0,(vS bd),zT⟩)
 exact xW hX (.i .i64 ((Q3 t.gb t.nb+X6 t.gs k:Nat):Int)) ⟨rfl,rfl,by rw[show k=t.ns by omega];rfl⟩
theorem YP(s:StaR)(o:OpT)(t:TenR)(n:Int)(x:Int)(wK:t.nb<=100000)(hB2:t.ns<=100000)(hs:∀i,i<t.ns->(t.gs i).mani.label.length<=5000)(hM:∀i,i<t.ns->S7 (t.gs i).mani=true)(Z6:∀i,i<t.nb->(t.gb i).data.length<=100000):Sat Tryz.prog 114 [.pz (nA s o t n),.i .i64 x] [] (fun out A0=>A0=[]/\(out=.b (decide (x<=(i64.wrap (t.quota-(useN t:Int))))))):=by
 refine cF Tryz.func114 fun X0 w0 hX=>?_
 refine cQ [] (YO t bd bd hs hM Z6) ?_;exact xW hX (.b (decide (x<=(i64.wrap (t.quota-(useN t:Int)))))) ⟨rfl,rfl,rfl⟩
theorem YQ{a b:List UInt8}(h1:vs.length=2)(h2:∀(i:Nat) v x,([V.s a,.s b]:List V)[i]? =some v->vs[i]? =some x->repv X [] 16 v x):vs=[.string ⟨a.toArray⟩,.string ⟨b.toArray⟩]:=by
 obtain⟨x,y,rfl⟩:∃x y,vs=[x,y]:=by
  match vs,h1 with
 |[x,y],_=>exact⟨x,y,rfl⟩
 obtain⟨e1,_⟩:=h2 0 _ _ rfl rfl
 obtain⟨e2,_⟩:=h2 1 _ _ rfl rfl
 simp only[qP,and_true]at e1 e2
 rw[e1,e2]
theorem YR(s:List UInt8)(c:UInt8):Sat Tryz.prog 235 [.s s,.s [c]] [] (fun out A0=>A0=[]/\out=.b (decide (c∈s))):=uB fun X w vs h1 h2 H=>by
 rw[YQ h1 h2]
 exact(Tf w s c).mono fun v w' ⟨hv,hw⟩=>by
  subst hw
  subst hv
  exact⟨⟨_,⟨rfl,rfl⟩,rfl⟩,Hp.refl _ _⟩
theorem Ts(s p:List UInt8):Sat Tryz.prog 203 [.s s,.s p] [] (fun out A0=>A0=[]/\out=.b (p.isPrefixOf s)):=uB fun X w vs h1 h2 H=>by
 rw[YQ h1 h2]
 exact(Th w s p).mono fun v w' ⟨hv,hw⟩=>by
  subst hw
  subst hv
  exact⟨⟨_,⟨rfl,rfl⟩,rfl⟩,Hp.refl _ _⟩
theorem Tt{p s:List UInt8}(h:p.isPrefixOf s=true):p.length<=s.length:=(List.isPrefixOf_iff_prefix.1 h).length_le
structure Itm where
 name:By
 kind:Int
 of:By
 size:Int
instance:Inhabited Itm:=⟨⟨[],0,[],0⟩⟩
def I4(x:Itm):V:=A1 [.s x.name,.i .i64 x.kind,.bs 32 x.of,.i .i64 x.size]
theorem Tu(l:By):Sat Tryz.prog 220 [.s l] [] (fun out A0=>A0=[]/\(∃p,out=.b p)):=by
 refine cF Tryz.func220 fun X0 w0 hX=>?_
 refine cB (1<=(l.length:Int)) ?_ ?_<;>intro h1
 ·refine cB ((l.length:Int)<=64) ?_ ?_<;>intro h2
  ·refine cN (l=[46]) ?_ ?_<;>intro h3
   ·refine cN (l=[46,46]) ?_ ?_<;>intro h4
    ·refine cQ [] (YR l 47) ?_
     refine cN (47∈l) ?_ ?_<;>intro h5
     ·refine cQ [] (YR l 0) ?_
      exact xW hX (.b (!(decide (0∈l)))) ⟨rfl,rfl,⟨_,rfl⟩⟩
     exact xW hX (.b false) ⟨rfl,rfl,⟨_,rfl⟩⟩
    exact xW hX (.b false) ⟨rfl,rfl,⟨_,rfl⟩⟩
   exact xW hX (.b false) ⟨rfl,rfl,⟨_,rfl⟩⟩
  exact xW hX (.b false) ⟨rfl,rfl,⟨_,rfl⟩⟩
 exact xW hX (.b false) ⟨rfl,rfl,⟨_,rfl⟩⟩
theorem Tv(n:Nat)(g:Nat->Itm)(hn:n<=100000):Sat Tryz.prog 205 [.sl 0 35 n fun i=>I4 (g i)] [] (fun out A0=>A0=[]/\(∃p,out=.b p)):=by
 refine cF Tryz.func205 fun X0 w0 hX=>?_
 refine cB (64<(n:Int)) ?_ ?_<;>intro h1
 ·exact xW hX (.b false) ⟨rfl,rfl,⟨_,rfl⟩⟩
 refine cM hX (fun(k:Nat)=>[(0,.sl 0 35 n fun i=>I4 (g i)),(8,.sl 0 35 n fun i=>I4 (g i)),(9,.i .i64 (n:Int)),(10,.i .i64 (k:Int))]) (fun(k:Nat)=>[]) (fun(k:Nat)=>k<=n) (fun(k:Nat)=>n-k) [] 464 0 (by simp) ?_
 rintro k hI R hR
 refine cB ((k:Int)<(n:Int)) ?_ ?_<;>intro h2
 ·refine cC ((0:Int)<=(k:Int)/\(k:Int)<(n:Int)) ?_
  refine cK [] (Tu ((g k).name)) ?_;rintro out A0 ⟨rfl,⟨rV,rfl⟩⟩
  refine cn (rV) ?_ ?_<;>intro h3
  ·refine Nz (rV) h3 ?_
   exact xW hX (.b false) ⟨rfl,rfl,⟨_,rfl⟩⟩
  refine cB (0<(k:Int)) ?_ ?_<;>intro h4
  ·refine cC ((0:Int)<=(i64.wrap ((k:Int)-1))/\(i64.wrap ((k:Int)-1))<(n:Int)) ?_ bw
   refine cb (((Op.bytesLess ((g k).name) ((g (((i64.wrap ((k:Int)-1))).toNat)).name))||decide ((g k).name=(g (((i64.wrap ((k:Int)-1))).toNat)).name))) ?_ ?_<;>intro h5
   ·refine MF (((Op.bytesLess ((g k).name) ((g (((i64.wrap ((k:Int)-1))).toNat)).name))||decide ((g k).name=(g (((i64.wrap ((k:Int)-1))).toNat)).name))) h5 ?_
    exact xW hX (.b false) ⟨rfl,rfl,⟨_,rfl⟩⟩
   refine cB ((g k).size<0) ?_ ?_<;>intro h6
   ·exact xW hX (.b false) ⟨rfl,rfl,⟨_,rfl⟩⟩
   refine cB ((g k).kind≠1) ?_ ?_<;>intro h7
   ·refine cB ((g k).kind≠2) ?_ ?_<;>intro h8
    ·exact xW hX (.b false) ⟨rfl,rfl,⟨_,rfl⟩⟩
    refine cB ((g k).size≠0) ?_ ?_<;>intro h9
    ·exact xW hX (.b false) ⟨rfl,rfl,⟨_,rfl⟩⟩
    exact cA hX (hR (k+1) zO zO) (hS:=⟨v0,v0,v0,(vS bd),zT⟩)
   exact cA hX (hR (k+1) zO zO) (hS:=⟨v0,v0,v0,(vS bd),zT⟩)
  refine cB ((g k).size<0) ?_ ?_<;>intro K0
  ·exact xW hX (.b false) ⟨rfl,rfl,⟨_,rfl⟩⟩
  refine cB ((g k).kind≠1) ?_ ?_<;>intro P9
  ·refine cB ((g k).kind≠2) ?_ ?_<;>intro h12
   ·exact xW hX (.b false) ⟨rfl,rfl,⟨_,rfl⟩⟩
   refine cB ((g k).size≠0) ?_ ?_<;>intro w6
   ·exact xW hX (.b false) ⟨rfl,rfl,⟨_,rfl⟩⟩
   exact cA hX (hR (k+1) zO zO) (hS:=⟨v0,v0,v0,(vS bd),zT⟩)
  exact cA hX (hR (k+1) zO zO) (hS:=⟨v0,v0,v0,(vS bd),zT⟩)
 exact xW hX (.b true) ⟨rfl,rfl,⟨_,rfl⟩⟩
theorem Tw(b:By)(hb:b.length<=100000):Sat Tryz.prog 204 [.bl 0 b] [] (fun out A0=>A0=[]/\(∃x l p,out=A2 [I4 x,.bl 0 l,.b p]/\l.length<=b.length/\x.name.length<=b.length)):=by
 refine cF Tryz.func204 fun X0 w0 hX=>?_
 refine cB ((b.length:Int)=0) ?_ ?_<;>intro h1
 ·exact xW hX (A2 [I4 ⟨[],0,(replicate 32 0),0⟩,.bl 0 [],.b false]) ⟨rfl,rfl,⟨_,_,_,rfl,bd,bd⟩⟩ (hv:=vT (u:=A2 [A1 [.s [],.i .i64 0,.bs 32 (replicate 32 0),.i .i64 0],.bl 0 [],.b false]) (F5 ⟨C4 ⟨.rfl _,.rfl _,.rfl _,.rfl _,zT⟩,.rfl _,.rfl _,zT⟩))
 refine cC ((0:Int)<=0/\0<(b.length:Int)) ?_
 refine cC ((0:Int)<=1/\1<=(b.length:Int)) ?_;refine cK [] (NA ((b.drop 1).take (b.length-1)) bd) ?_;rintro out A0 ⟨fY,C5,xe0,rfl,rfl,hxa0,hxs0⟩
 simp only[F7,K4]at hxa0 hxs0
 refine cB (xe0≠0) ?_ ?_<;>intro h2
 ·exact xW hX (A2 [I4 ⟨[],(i64.wrap ((b.getD 0 0).toNat:Int)),(replicate 32 0),0⟩,.bl 0 [],.b false]) ⟨rfl,rfl,⟨_,_,_,rfl,bd,bd⟩⟩ (hv:=vT (u:=A2 [A1 [.s [],.i .i64 (i64.wrap ((b.getD 0 0).toNat:Int)),.bs 32 (replicate 32 0),.i .i64 0],.bl 0 [],.b false]) (F5 ⟨C4 ⟨.rfl _,.rfl _,.rfl _,.rfl _,zT⟩,.rfl _,.rfl _,zT⟩))
 refine cC ((0:Int)<=(i64.wrap (1+C5))/\(i64.wrap (1+C5))<=(b.length:Int)) ?_ bw
 refine cB ((((b.drop (((i64.wrap (1+C5))).toNat)).take (b.length-((i64.wrap (1+C5))).toNat)).length:Int)<32) ?_ ?_<;>intro h3
 ·exact xW hX (A2 [I4 ⟨[],(i64.wrap ((b.getD 0 0).toNat:Int)),(replicate 32 0),0⟩,.bl 0 [],.b false]) ⟨rfl,rfl,⟨_,_,_,rfl,bd,bd⟩⟩ (hv:=vT (u:=A2 [A1 [.s [],.i .i64 (i64.wrap ((b.getD 0 0).toNat:Int)),.bs 32 (replicate 32 0),.i .i64 0],.bl 0 [],.b false]) (F5 ⟨C4 ⟨.rfl _,.rfl _,.rfl _,.rfl _,zT⟩,.rfl _,.rfl _,zT⟩))
 refine jA 2 6864 (fun(u:Unit)=>[(0,.bl 0 ((b.drop (((i64.wrap (1+C5))).toNat)).take (b.length-((i64.wrap (1+C5))).toNat))),(2,.pr 16 0 []),(5,.pr 208 0 [])]) (fun(u:Unit)=>[(16,A1 [.s [],.i .i64 0,.bs 32 (replicate 32 0),.i .i64 0]),(208,A1 [.s fY,.i .i64 (i64.wrap ((b.getD 0 0).toNat:Int)),.bs 32 (((((b.drop (((i64.wrap (1+C5))).toNat)).take (b.length-((i64.wrap (1+C5))).toNat)).drop 0).take (32-0)).take 32),.i .i64 0])]) (fun(u:Unit)=>True) [] (fun R hR i hi=>?_) ?_
 ·revert i hi;refine f2 ?_ ?_<;>repeat' (first|refine al 2 (f2 ?_ ?_)|refine cC (e:=eE) ((0:Int)<=0/\(0:Int)<=32/\32<=(((b.drop (((i64.wrap (1+C5))).toNat)).take (b.length-((i64.wrap (1+C5))).toNat)).length:Int)) ?_ bw|refine cC (e:=eE) (32<=((((b.drop (((i64.wrap (1+C5))).toNat)).take (b.length-((i64.wrap (1+C5))).toNat)).drop 0).take (32-0)).length) ?_ bw|exact cA hX (hR () zT))
 rintro u hJ
 refine cC ((0:Int)<=32/\32<=(((b.drop (((i64.wrap (1+C5))).toNat)).take (b.length-((i64.wrap (1+C5))).toNat)).length:Int)) ?_ bw;refine cK [] (MZ ((((b.drop (((i64.wrap (1+C5))).toNat)).take (b.length-((i64.wrap (1+C5))).toNat)).drop 32).take (((b.drop (((i64.wrap (1+C5))).toNat)).take (b.length-((i64.wrap (1+C5))).toNat)).length-32)) bd) ?_;rintro out A0 ⟨rfl,⟨wL,mB,te1,rfl,mC⟩⟩
 refine cB (te1≠0) ?_ ?_<;>intro h4
 ·exact xW hX (A2 [I4 ⟨fY,(i64.wrap ((b.getD 0 0).toNat:Int)),(((((b.drop (((i64.wrap (1+C5))).toNat)).take (b.length-((i64.wrap (1+C5))).toNat)).drop 0).take (32-0)).take 32),0⟩,.bl 0 [],.b false]) ⟨rfl,rfl,⟨_,_,_,rfl,bd,bd⟩⟩ (hv:=vT (u:=A2 [A1 [.s fY,.i .i64 (i64.wrap ((b.getD 0 0).toNat:Int)),.bs 32 (((((b.drop (((i64.wrap (1+C5))).toNat)).take (b.length-((i64.wrap (1+C5))).toNat)).drop 0).take (32-0)).take 32),.i .i64 0],.bl 0 [],.b false]) (F5 ⟨C4 ⟨.rfl _,.rfl _,.rfl _,.rfl _,zT⟩,.rfl _,.rfl _,zT⟩))
 refine cB (9223372036854775807<wL) ?_ ?_<;>intro h5
 ·exact xW hX (A2 [I4 ⟨fY,(i64.wrap ((b.getD 0 0).toNat:Int)),(((((b.drop (((i64.wrap (1+C5))).toNat)).take (b.length-((i64.wrap (1+C5))).toNat)).drop 0).take (32-0)).take 32),0⟩,.bl 0 [],.b false]) ⟨rfl,rfl,⟨_,_,_,rfl,bd,bd⟩⟩ (hv:=vT (u:=A2 [A1 [.s fY,.i .i64 (i64.wrap ((b.getD 0 0).toNat:Int)),.bs 32 (((((b.drop (((i64.wrap (1+C5))).toNat)).take (b.length-((i64.wrap (1+C5))).toNat)).drop 0).take (32-0)).take 32),.i .i64 0],.bl 0 [],.b false]) (F5 ⟨C4 ⟨.rfl _,.rfl _,.rfl _,.rfl _,zT⟩,.rfl _,.rfl _,zT⟩))
 refine jA 2 12816 (fun(u:Unit)=>[(2,.pr 16 0 []),(3,.bl 0 ((((((b.drop (((i64.wrap (1+C5))).toNat)).take (b.length-((i64.wrap (1+C5))).toNat)).drop 32).take (((b.drop (((i64.wrap (1+C5))).toNat)).take (b.length-((i64.wrap (1+C5))).toNat)).length-32)).drop ((mB).toNat)).take (((((b.drop (((i64.wrap (1+C5))).toNat)).take (b.length-((i64.wrap (1+C5))).toNat)).drop 32).take (((b.drop (((i64.wrap (1+C5))).toNat)).take (b.length-((i64.wrap (1+C5))).toNat)).length-32)).length-(mB).toNat))),(4,.bc true)]) (fun(u:Unit)=>[(16,A1 [.s fY,.i .i64 (i64.wrap ((b.getD 0 0).toNat:Int)),.bs 32 (((((b.drop (((i64.wrap (1+C5))).toNat)).take (b.length-((i64.wrap (1+C5))).toNat)).drop 0).take (32-0)).take 32),.i .i64 (i64.wrap wL)])]) (fun(u:Unit)=>True) [] (fun R hR i hi=>?_) ?_
 ·revert i hi;refine f2 ?_ ?_<;>repeat' (first|refine cC (e:=eE) ((0:Int)<=mB/\mB<=(((((b.drop (((i64.wrap (1+C5))).toNat)).take (b.length-((i64.wrap (1+C5))).toNat)).drop 32).take (((b.drop (((i64.wrap (1+C5))).toNat)).take (b.length-((i64.wrap (1+C5))).toNat)).length-32)).length:Int)) ?_ bw|exact cA hX (hR () zT))
 rintro u hJ
 exact xW hX (A2 [I4 ⟨fY,(i64.wrap ((b.getD 0 0).toNat:Int)),(((((b.drop (((i64.wrap (1+C5))).toNat)).take (b.length-((i64.wrap (1+C5))).toNat)).drop 0).take (32-0)).take 32),(i64.wrap wL)⟩,.bl 0 ((((((b.drop (((i64.wrap (1+C5))).toNat)).take (b.length-((i64.wrap (1+C5))).toNat)).drop 32).take (((b.drop (((i64.wrap (1+C5))).toNat)).take (b.length-((i64.wrap (1+C5))).toNat)).length-32)).drop ((mB).toNat)).take (((((b.drop (((i64.wrap (1+C5))).toNat)).take (b.length-((i64.wrap (1+C5))).toNat)).drop 32).take (((b.drop (((i64.wrap (1+C5))).toNat)).take (b.length-((i64.wrap (1+C5))).toNat)).length-32)).length-(mB).toNat)),.b true]) ⟨rfl,rfl,⟨_,_,_,rfl,bd,bd⟩⟩ (hv:=vT (u:=A2 [A1 [.s fY,.i .i64 (i64.wrap ((b.getD 0 0).toNat:Int)),.bs 32 (((((b.drop (((i64.wrap (1+C5))).toNat)).take (b.length-((i64.wrap (1+C5))).toNat)).drop 0).take (32-0)).take 32),.i .i64 (i64.wrap wL)],.bl 0 ((((((b.drop (((i64.wrap (1+C5))).toNat)).take (b.length-((i64.wrap (1+C5))).toNat)).drop 32).take (((b.drop (((i64.wrap (1+C5))).toNat)).take (b.length-((i64.wrap (1+C5))).toNat)).length-32)).drop ((mB).toNat)).take (((((b.drop (((i64.wrap (1+C5))).toNat)).take (b.length-((i64.wrap (1+C5))).toNat)).drop 32).take (((b.drop (((i64.wrap (1+C5))).toNat)).take (b.length-((i64.wrap (1+C5))).toNat)).length-32)).length-(mB).toNat)),.b true]) (F5 ⟨C4 ⟨.rfl _,.rfl _,.rfl _,.rfl _,zT⟩,.rfl _,.rfl _,zT⟩))
theorem YS(b:By):Sat Tryz.prog 185 [.bl 0 b] [] (fun out A0=>∃(l:List Itm) (e:Int),out=A2 [B3 2 35 I4 l,.i .i64 e]/\A0=[2]/\l.length<=64/\∀x∈l,x.name.length<=4000):=by
 refine cF Tryz.func185 fun X0 w0 hX=>?_
 refine cB (4000<(b.length:Int)) ?_ ?_<;>intro h1
 ·exact xW hX (A2 [B3 2 35 I4 [],.i .i64 4]) ⟨rfl,_,_,rfl,rfl,bd,by first|(simp;done)|exact hI.2.2.2⟩ (hv:=vT (u:=A2 [.sl 2 35 0 fun _=>.un,.i .i64 4]) (F5 ⟨vN,.rfl _,zT⟩))
 refine cQ [] (Ts b [68,49]) ?_
 refine cn (([68,49]:By).isPrefixOf b) ?_ ?_<;>intro h2
 ·exact xW hX (A2 [B3 2 35 I4 [],.i .i64 4]) ⟨rfl,_,_,rfl,rfl,bd,by first|(simp;done)|exact hI.2.2.2⟩ (hv:=vT (u:=A2 [.sl 2 35 0 fun _=>.un,.i .i64 4]) (F5 ⟨vN,.rfl _,zT⟩))
 have hp:=Tt h2
 simp only[G8,M3]at hp
 refine cC ((0:Int)<=2/\2<=(b.length:Int)) ?_;refine cK [] (MZ ((b.drop 2).take (b.length-2)) bd) ?_;rintro out A0 ⟨rfl,⟨l9,Q8,bZ,rfl,n9⟩⟩
 refine cB (bZ≠0) ?_ ?_<;>intro h3
 ·exact xW hX (A2 [B3 2 35 I4 [],.i .i64 4]) ⟨rfl,_,_,rfl,rfl,bd,by first|(simp;done)|exact hI.2.2.2⟩ (hv:=vT (u:=A2 [.sl 2 35 0 fun _=>.un,.i .i64 4]) (F5 ⟨vN,.rfl _,zT⟩))
 refine cB (64<l9) ?_ ?_<;>intro h4
 ·exact xW hX (A2 [B3 2 35 I4 [],.i .i64 4]) ⟨rfl,_,_,rfl,rfl,bd,by first|(simp;done)|exact hI.2.2.2⟩ (hv:=vT (u:=A2 [.sl 2 35 0 fun _=>.un,.i .i64 4]) (F5 ⟨vN,.rfl _,zT⟩))
 refine cC ((0:Int)<=Q8/\Q8<=(((b.drop 2).take (b.length-2)).length:Int)) ?_ bd
 refine cM hX (fun(p:Nat×By×(List Itm))=>[(0,.bl 0 p.2.1),(7,B3 2 35 I4 p.2.2),(37,.i .u64 l9),(38,.i .u64 (p.1:Int))]) (fun(p:Nat×By×(List Itm))=>[]) (fun(p:Nat×By×(List Itm))=>(p.1:Int)<=l9/\p.2.1.length<=4000/\p.2.2.length=p.1/\∀x∈p.2.2,x.name.length<=4000) (fun(p:Nat×By×(List Itm))=>64-p.1) [2] 2320 (0,((((b.drop 2).take (b.length-2)).drop ((Q8).toNat)).take (((b.drop 2).take (b.length-2)).length-(Q8).toNat)),[]) ⟨zO,bd,rfl,by simp⟩ ?_ (hS:=⟨v0,(vT (vN (g:=fun _=>.un))),v0,v0,zT⟩);rintro⟨k,r,l⟩ hI R hR
 dsimp only at hI
 refine cB ((k:Int)<l9) ?_ ?_<;>intro h5
 ·refine cK [] (Tw r bd) ?_
  rintro out A0 ⟨rfl,⟨fi1,fr1,fp1,rfl,hfr1,hfn1⟩⟩
  refine cn (fp1) ?_ ?_<;>intro h6
  ·exact xW hX (A2 [B3 2 35 I4 [],.i .i64 4]) ⟨rfl,_,_,rfl,rfl,bd,by first|(simp;done)|exact hI.2.2.2⟩ (hv:=vT (u:=A2 [.sl 2 35 0 fun _=>.un,.i .i64 4]) (F5 ⟨vN,.rfl _,zT⟩))
  refine cC ((l.length+1)*64<=140737488355328) ?_
  exact cA hX (hR (k+1,fr1,l++[fi1]) ⟨bd,bd,by simp;omega,fun x hx=>by simp only[S3,O8]at hx;rcases hx with h|rfl;exact hI.2.2.2 x h;omega⟩ (by dsimp only;omega)) (hS:=⟨v0,(vT (pY l _)),v0,vU,zT⟩)
 refine cB (0<(r.length:Int)) ?_ ?_<;>intro h7
 ·exact xW hX (A2 [B3 2 35 I4 [],.i .i64 4]) ⟨rfl,_,_,rfl,rfl,bd,by first|(simp;done)|exact hI.2.2.2⟩ (hv:=vT (u:=A2 [.sl 2 35 0 fun _=>.un,.i .i64 4]) (F5 ⟨vN,.rfl _,zT⟩))
 refine cK [] (Tv l.length (fun i=>(l.getD i default)) bd) ?_
 rintro out A0 ⟨rfl,⟨pm2,rfl⟩⟩
 refine cn (pm2) ?_ ?_<;>intro h8
 ·exact xW hX (A2 [B3 2 35 I4 [],.i .i64 4]) ⟨rfl,_,_,rfl,rfl,bd,by first|(simp;done)|exact hI.2.2.2⟩ (hv:=vT (u:=A2 [.sl 2 35 0 fun _=>.un,.i .i64 4]) (F5 ⟨vN,.rfl _,zT⟩))
 exact xW hX (A2 [B3 2 35 I4 l,.i .i64 0]) ⟨rfl,_,_,rfl,rfl,bd,by first|(simp;done)|exact hI.2.2.2⟩
structure Fil where
 path:By
 dir:Bool
 data:By
instance:Inhabited Fil:=⟨⟨[],false,[]⟩⟩
def O6(x:Fil):V:=A1 [.s x.path,.b x.dir,.bl 0 x.data]
def FOk(l:List Fil):Prop:=∀f∈l,f.path.length<=200000/\f.data.length<=1000000
theorem FOk.nil:FOk []:=fun _ h=>by cases h
theorem FOk.snoc{l:List Fil}(h:FOk l){p d:By}{b:Bool}(hp:p.length<=200000:=by simp only[C6,F7,K4]at *;omega)(hd:d.length<=1000000:=by first|omega|(simp;done)):FOk (l++[⟨p,b,d⟩]):=fun f hf=>by
 rcases S3.1 hf with h1|h1
 ·exact h f h1
 rw[O8.1 h1];exact⟨hp,hd⟩
def uL(q:Nat)(K:List By)(a b:Nat)(c:Int)(p:Bool)(l:List Fil)(e:Int):V:=A1 [.mp a 0 ⟨1,K⟩,.mp b 0 ⟨0,K⟩,.i .i64 c,.b p,B3 q 3 O6 l,.i .i64 e]
theorem CG(K:List By)(a b:Nat)(c:Int)(p:Bool)(l:List Fil)(e:Int)(x:Int):SatHM Tryz.prog false 183 [.pr 2 0 [],.i .i64 x] [3] [(2,A1 [.mp a 0 ⟨1,K⟩,.mp b 0 ⟨0,K⟩,.i .i64 c,.b p,B3 3 3 O6 l,.i .i64 e])] (fun out ho A0=>∃e2,out=.b (decide (e2≠0))/\ho=[(2,uL 3 K a b c p l e2)]/\A0=[3]/\(e=0->e2=x)/\(e≠0->e2=e)):=by
 refine fH false Tryz.func183 fun X0 w0 hX hm=>?_
 refine cB (e=0) ?_ ?_<;>intro h1
 ·exact xW hX (.b (decide (x≠0))) (ho:=[(2,A1 [.mp a 0 ⟨1,K⟩,.mp b 0 ⟨0,K⟩,.i .i64 c,.b p,B3 3 3 O6 l,.i .i64 x])]) ⟨_,by simp,rfl,rfl,zO,zO⟩
 exact xW hX (.b (decide (e≠0))) (ho:=[(2,A1 [.mp a 0 ⟨1,K⟩,.mp b 0 ⟨0,K⟩,.i .i64 c,.b p,B3 3 3 O6 l,.i .i64 e])]) ⟨_,by simp,rfl,rfl,zO,zO⟩
theorem YT(K:List By)(a b:Nat)(c:Int)(p:Bool)(l:List Fil)(e:Int)(x:By)(hc:0<=c/\c<=1024)(he:e=0):SatHM Tryz.prog true 184 [.pr 2 0 [],.bs 32 x] [3] [(2,A1 [.mp a 0 ⟨1,K⟩,.mp b 0 ⟨0,K⟩,.i .i64 c,.b p,B3 3 3 O6 l,.i .i64 e])] (fun out ho A0=>∃d q c2 e2,out=A2 [.bl 0 d,.b q]/\ho=[(2,uL 3 K a b c2 p l e2)]/\A0=[3]/\c2=c+1/\(q=true->c2<=1024/\e2=0)/\(q=false->e2≠0)/\d.length<=1000000):=by
 refine fH true Tryz.func184 fun X0 w0 hX hm=>?_
 have hw:i64.wrap (c+1)=c+1:=I8 ⟨zO,zO⟩
 refine cB (1024<(i64.wrap (c+1))) ?_ ?_<;>intro h1
 ·refine kH [(2,2),(3,3)] [2] (CG K a b (i64.wrap (c+1)) p l e 2) ?_
  rintro out ho A0 ⟨we0,rfl,rfl,rfl,T4,hB0⟩
  exact xW hX (A2 [.bl 0 [],.b false]) ⟨_,_,_,_,rfl,rfl,rfl,rfl,by first|(simp;done)|(rw[hw]at h1;intro;exact⟨zO,he⟩),by first|(simp;done)|(simp;omega),by first|(simp;done)|omega⟩ (hH:=⟨(vT (u:=A1 [.mp a 0 ⟨1,K⟩,.mp b 0 ⟨0,K⟩,.i .i64 (i64.wrap (c+1)),.b p,B3 3 3 O6 l,.i .i64 we0]) (C4 ⟨.rfl _,.rfl _,(.of_eq (by rw[I8 ⟨zO,zO⟩])),.rfl _,.rfl _,.rfl _,zT⟩)),zT⟩)
 refine mL (t:=227) (kt:=36) (et:=45) (x:=.tmp 26) (y:=.tmp 27) (ok:=true) (d:=28) a ⟨1,K⟩ x gY ?_
 rintro _ mp1 ⟨ml1,hml1,rfl⟩ hmk1
 refine cn (mp1) ?_ ?_<;>intro h2
 ·refine kH [(2,2),(3,3)] [2] (CG K a b (i64.wrap (c+1)) p l e 15) ?_
  rintro out ho A0 ⟨we2,rfl,rfl,rfl,U5,hB2⟩
  exact xW hX (A2 [.bl 0 [],.b false]) ⟨_,_,_,_,rfl,rfl,rfl,rfl,by first|(simp;done)|(rw[hw]at h1;intro;exact⟨zO,he⟩),by first|(simp;done)|(simp;omega),by first|(simp;done)|omega⟩ (hH:=⟨(vT (u:=A1 [.mp a 0 ⟨1,K⟩,.mp b 0 ⟨0,K⟩,.i .i64 (i64.wrap (c+1)),.b p,B3 3 3 O6 l,.i .i64 we2]) (C4 ⟨.rfl _,.rfl _,(.of_eq (by rw[I8 ⟨zO,zO⟩])),.rfl _,.rfl _,.rfl _,zT⟩)),zT⟩)
 refine jA 2 6608 (fun(u:Unit)=>[(6,.bl 0 ml1)]) (fun(u:Unit)=>[(2,A1 [.mp a 0 ⟨1,K⟩,.mp b 0 ⟨0,K⟩,.i .i64 (i64.wrap (c+1)),.b p,B3 3 3 O6 l,.i .i64 e])]) (fun(u:Unit)=>True) [3] (fun R hR i hi=>?_) ?_
 ·match i,hi with
 |0,_=>
   refine mL (t:=201) (kt:=36) (et:=3) (x:=.tmp 38) (y:=.tmp 39) (ok:=false) (d:=40) b ⟨0,K⟩ x gY ?_;rintro _ mp3 ⟨mn3,rfl⟩ hmk3
   refine mE (t:=201) (kt:=36) (et:=3) (x:=.tmp 38) (y:=.tmp 39) (d:=42) b ⟨0,K⟩ x gY (hm rfl) (hmk1 (by assumption)) ?_;rintro _ ms4 ⟨mn4,rfl⟩
   refine GU (t:=201) (et:=3) (x:=.tmp 38) (y:=.tmp 43) (z:=.tmp 41) b ⟨0,K⟩ ms4 ⟨0,K⟩ (.i .i64 (i64.wrap (mn3+1))) (hm rfl) rfl ?_;exact cA hX (hR () zT)
 |1,_=>
   refine mE (t:=201) (kt:=36) (et:=3) (x:=.tmp 38) (y:=.tmp 39) (d:=42) b ⟨0,K⟩ x gY (hm rfl) (hmk1 (by assumption)) ?_;rintro _ ms5 ⟨mn5,rfl⟩
   refine mL (t:=201) (kt:=36) (et:=3) (x:=.tmp 38) (y:=.tmp 39) (ok:=false) (d:=40) b ⟨0,K⟩ x gY ?_;rintro _ mp6 ⟨mn6,rfl⟩ hmk6
   refine GU (t:=201) (et:=3) (x:=.tmp 38) (y:=.tmp 43) (z:=.tmp 41) b ⟨0,K⟩ ms5 ⟨0,K⟩ (.i .i64 (i64.wrap (mn6+1))) (hm rfl) rfl ?_;exact cA hX (hR () zT)
 rintro u hJ
 exact xW hX (A2 [.bl 0 ml1,.b true]) ⟨_,_,_,_,rfl,rfl,rfl,rfl,by first|(simp;done)|(rw[hw]at h1;intro;exact⟨zO,he⟩),by first|(simp;done)|(simp;omega),by first|(simp;done)|omega⟩ (hH:=⟨(vT (u:=A1 [.mp a 0 ⟨1,K⟩,.mp b 0 ⟨0,K⟩,.i .i64 (i64.wrap (c+1)),.b p,B3 3 3 O6 l,.i .i64 e]) (C4 ⟨.rfl _,.rfl _,(.of_eq (by rw[I8 ⟨zO,zO⟩])),.rfl _,.rfl _,.rfl _,zT⟩)),zT⟩)
theorem Tx(K:List By)(a b:Nat)(c:Int)(p:Bool)(l:List Fil)(e:Int)(x:Itm)(t:By)(hc:0<=c/\c<=1024)(he:e=0)(hl:(l.length:Int)<=c)(ht:t.length<=100000)(hx:x.name.length<=100000):SatHM Tryz.prog true 186 [.pr 2 0 [],I4 x,.s t] [3] [(2,A1 [.mp a 0 ⟨1,K⟩,.mp b 0 ⟨0,K⟩,.i .i64 c,.b p,B3 3 3 O6 l,.i .i64 e])] (fun out ho A0=>∃c2 l2 e2,ho=[(2,uL 16 K a b c2 p l2 e2)]/\A0=[16]/\c2=c+1/\(e2=0->c2<=1024)/\l2.length<=l.length+1/\(FOk l->FOk l2)):=by
 refine fH true Tryz.func186 fun X0 w0 hX hm=>?_
 refine mV 3 ?_;refine gV (fun _=>hm rfl) [(2,2),(16,3)] [2] (YT K a b c p l e x.of bd (by assumption)) ?_;rintro out ho A0 ⟨od0,oq0,oc0,oe0,rfl,rfl,rfl,hoc0,hoq0,hor0,hod0⟩
 refine cn (oq0) ?_ ?_<;>intro h1
 ·have hr:=hor0 h1
  exact xW hX (A2 []) (ho:=[(2,A1 [.mp a 0 ⟨1,K⟩,.mp b 0 ⟨0,K⟩,.i .i64 oc0,.b p,B3 16 3 O6 l,.i .i64 oe0])]) ⟨_,_,_,rfl,rfl,zO,zO,bd,fun h=>by first|exact h|exact h.snoc⟩
 have hq:=hoq0 h1
 refine cB ((od0.length:Int)≠x.size) ?_ ?_<;>intro h2
 ·refine kH [(2,2),(16,3)] [2] (CG K a b oc0 p l oe0 9) ?_
  rintro out ho A0 ⟨we1,rfl,rfl,rfl,P8,wK⟩
  exact xW hX (A2 []) (ho:=[(2,A1 [.mp a 0 ⟨1,K⟩,.mp b 0 ⟨0,K⟩,.i .i64 oc0,.b p,B3 16 3 O6 l,.i .i64 we1])]) ⟨_,_,_,rfl,rfl,zO,zO,bd,fun h=>by first|exact h|exact h.snoc⟩
 refine cb (p) ?_ ?_<;>intro h3
 ·refine cC (t.length+x.name.length<=maxLen) ?_ bm
  refine cK [] (uI od0 bd) ?_;rintro out A0 ⟨rfl,rfl⟩
  refine cC ((l.length+1)*48<=140737488355328) ?_;exact xW hX (A2 []) ⟨_,_,_,rfl,rfl,zO,zO,bd,fun h=>by first|exact h|exact h.snoc⟩ (hH:=⟨(vT (u:=A1 [.mp a 0 ⟨1,K⟩,.mp b 0 ⟨0,K⟩,.i .i64 oc0,.b p,.sl 16 3 (l.length+1) fun i=>bif blt i l.length then O6 (l.getD i default) else A1 [.s (t++x.name),.b false,.bl 0 od0],.i .i64 oe0]) (C4 ⟨.rfl _,.rfl _,.rfl _,.rfl _,pY l ⟨t++x.name,false,od0⟩,.rfl _,zT⟩)),zT⟩)
 exact xW hX (A2 []) (ho:=[(2,A1 [.mp a 0 ⟨1,K⟩,.mp b 0 ⟨0,K⟩,.i .i64 oc0,.b p,B3 16 3 O6 l,.i .i64 oe0])]) ⟨_,_,_,rfl,rfl,zO,zO,bd,fun h=>by first|exact h|exact h.snoc⟩
theorem YU(n:Nat)(g:Nat->Obj)(p:Bool)(hn:n<=100000)(hd:∀i,i<n->(g i).data.length<=100000):SatM Tryz.prog true 161 [.sl 0 33 n fun i=>C3 (g i),.b p] [] (fun out ho A0=>∃a b,out=.pr 2 0 []/\ho=[(2,uL 3 ((List.range n).map fun i=>(g i).of) a b 0 p [] 0)]/\A0=[3]):=by
 refine fM true Tryz.func161 fun X0 w0 hX hm=>?_
 refine MQ (t:=227) (d:=11) ⟨1,((List.range n).map fun i=>(g i).of)⟩ fun cD=>?_
 refine MQ (t:=201) (d:=12) ⟨0,((List.range n).map fun i=>(g i).of)⟩ fun mb1=>?_
 refine cM hX (fun(k:Nat)=>[(5,.pr 336 0 []),(15,.sl 0 33 n fun i=>C3 (g i)),(16,.i .i64 (n:Int)),(17,.i .i64 (k:Int))]) (fun(k:Nat)=>[(336,A1 [.mp cD 0 ⟨1,((List.range n).map fun i=>(g i).of)⟩,.mp mb1 0 ⟨0,((List.range n).map fun i=>(g i).of)⟩,.i .i64 0,.b p,.sl 1 3 0 fun _=>.un,.i .i64 0])]) (fun(k:Nat)=>k<=n) (fun(k:Nat)=>n-k) [] 656 0 (by simp) ?_;rintro k hI R hR
 refine cB ((k:Int)<(n:Int)) ?_ ?_<;>intro h1
 ·have hk:=hd k zO
  refine cC ((0:Int)<=(k:Int)/\(k:Int)<(n:Int)) ?_;refine mL (t:=227) (kt:=36) (et:=45) (x:=.tmp 25) (y:=.tmp 27) (ok:=true) (d:=28) cD ⟨1,((List.range n).map fun i=>(g i).of)⟩ ((g k).of) gY ?_;rintro _ mp2 ⟨ml2,hml2,rfl⟩ hmk2
  refine cn (mp2) ?_ ?_<;>intro h2
  ·refine Pn (t:=227) (kt:=36) (et:=45) (x:=.tmp 36) (y:=.tmp 38) (z:=.tmp 40) cD ⟨1,((List.range n).map fun i=>(g i).of)⟩ ((g k).of) (.bl 0 ((g k).data)) gY (hm rfl) (Rw zO) (J6.2 ⟨k,qQ.2 zO,rfl⟩) ?_
   exact cA hX (hR (k+1) zO zO) (hS:=⟨v0,v0,v0,(vS bd),zT⟩)
  exact cA hX (hR (k+1) zO zO) (hS:=⟨v0,v0,v0,(vS bd),zT⟩)
 exact xW hX (.pr 2 0 []) ⟨_,_,rfl,rfl,rfl⟩ (hH:=⟨(vT (u:=A1 [.mp cD 0 ⟨1,((List.range n).map fun i=>(g i).of)⟩,.mp mb1 0 ⟨0,((List.range n).map fun i=>(g i).of)⟩,.i .i64 0,.b p,.sl 3 3 0 fun _=>.un,.i .i64 0]) (C4 ⟨.rfl _,.rfl _,.rfl _,.rfl _,vN,.rfl _,zT⟩)),zT⟩)
theorem bM{p:Prop}(h:p:=by have mx:maxLen=9223372036854775807:=rfl;simp only[C6,G8,M3]at *;omega):p:=h
def YV(R6:Int):Prop:=∀(K:List By) (a b:Nat) (c:Int) (tl:Bool) (l:List Fil) (e:Int) (x t:By),0<=c/\c<=1024->e=0->(l.length:Int)<=c->(t.length:Int)<=5000*R6->(1<R6->1<=t.length)->SatHM Tryz.prog true 162 [.pr 2 0 [],.bs 32 x,.s t,.i .i64 R6] [3] [(2,uL 3 K a b c tl l e)] (fun out ho A0=>∃c2 l2 e2,ho=[(2,uL 16 K a b c2 tl l2 e2)]/\A0=[16]/\(e2=0->0<=c2/\c2<=1024/\(l2.length:Int)<=c2)/\(FOk l->FOk l2))
theorem Ty{l:List Itm}(h:∀x∈l,x.name.length<=4000):(l.getD k default).name.length<=4000:=by
 by_cases hk:k<l.length
 ·rw[l6,B6 hk];exact h _ (eG hk)
 rw[l6,V6 zO];exact L8 _
theorem Tz(l:List Fil)(n:By):VEq (.sl 20 3 (l.length+1) fun i=>bif blt i l.length then O6 (l.getD i default) else A1 [.s n,.b true,.bl 1 []]) (B3 20 3 O6 (l++[⟨n,true,[]⟩])):=Pq l ⟨n,true,[]⟩ (.st _ _ _ fun i hi=>match i,hi with|0,_=>.rfl _|1,_=>.rfl _|2,_=>.bl _)
theorem YW(K:List By)(a b:Nat)(c:Int)(tl:Bool)(l:List Fil)(e:Int)(x t:By)(R6:Int)(hd:1<=R6/\R6<=9)(ih:R6<=8->∀d,d=R6+1->YV d)(hc:0<=c/\c<=1024)(he:e=0)(hl:(l.length:Int)<=c)(ht:(t.length:Int)<=5000*R6)(mC:1<R6->1<=t.length):SatHM Tryz.prog true 162 [.pr 2 0 [],.bs 32 x,.s t,.i .i64 R6] [3] [(2,A1 [.mp a 0 ⟨1,K⟩,.mp b 0 ⟨0,K⟩,.i .i64 c,.b tl,B3 3 3 O6 l,.i .i64 e])] (fun out ho A0=>∃c2 l2 e2,ho=[(2,uL 16 K a b c2 tl l2 e2)]/\A0=[16]/\(e2=0->0<=c2/\c2<=1024/\(l2.length:Int)<=c2)/\(FOk l->FOk l2)):=by
 refine fH true Tryz.func162 fun X0 w0 hX hm=>?_
 have hw:i64.wrap (R6+1)=R6+1:=I8 ⟨zO,zO⟩
 refine mV 3 ?_;refine cB (8<R6) ?_ ?_<;>intro h1
 ·refine kH [(2,2),(16,3)] [2] (CG K a b c tl l e 2) ?_
  rintro out ho A0 ⟨we0,rfl,rfl,rfl,T4,hB0⟩
  refine cB (we0≠0) ?_ ?_<;>intro h2
  ·exact xW hX (A2 []) (ho:=[(2,A1 [.mp a 0 ⟨1,K⟩,.mp b 0 ⟨0,K⟩,.i .i64 c,.b tl,B3 16 3 O6 l,.i .i64 we0])]) (by refine⟨_,_,_,rfl,rfl,fun q=>?_,fun h=>h⟩;omega)
  exact absurd (T4 he) zO
 refine gV (fun _=>hm rfl) [(2,2),(16,3)] [2] (YT K a b c tl l e x bd (by assumption)) ?_
 rintro out ho A0 ⟨od1,oq1,rW,oe1,rfl,rfl,rfl,hoc1,hoq1,hor1,hod1⟩
 refine cn (oq1) ?_ ?_<;>intro h3
 ·have hr:=hor1 h3
  exact xW hX (A2 []) (ho:=[(2,A1 [.mp a 0 ⟨1,K⟩,.mp b 0 ⟨0,K⟩,.i .i64 rW,.b tl,B3 16 3 O6 l,.i .i64 oe1])]) (by refine⟨_,_,_,rfl,rfl,fun q=>?_,fun h=>h⟩;omega)
 have hq:=hoq1 (by simpa using h3)
 refine cK [] (YS od1) ?_;rintro out A0 ⟨Z7,fe2,rfl,rfl,hfl2,hfn2⟩
 refine kH [(2,2),(16,3)] [2] (CG K a b rW tl l oe1 fe2) ?_;rintro out ho A0 ⟨we3,rfl,rfl,rfl,z6,hB3⟩
 refine cB (we3≠0) ?_ ?_<;>intro h4
 ·exact xW hX (A2 []) (ho:=[(2,A1 [.mp a 0 ⟨1,K⟩,.mp b 0 ⟨0,K⟩,.i .i64 rW,.b tl,B3 16 3 O6 l,.i .i64 we3])]) (by refine⟨_,_,_,rfl,rfl,fun q=>?_,fun h=>h⟩;omega)
 refine jB ((Z7.length:Int)=0) 5904 (fun(q:Bool)=>[(0,.pr 2 0 []),(2,.s t),(3,.i .i64 R6),(10,B3 1234 35 I4 Z7),(48,.b q)]) (fun(q:Bool)=>[(2,A1 [.mp a 0 ⟨1,K⟩,.mp b 0 ⟨0,K⟩,.i .i64 rW,.b tl,B3 16 3 O6 l,.i .i64 we3])]) (fun(q:Bool)=>q=true->1<R6) [16,1234] (fun R hR=>⟨fun h5=>?_,fun h5=>?_⟩) ?_
 ·refine cB (1<R6) ?_ ?_<;>intro h6
  ·exact cA hX (hR tl (by first|(simp;done)|(intro;omega)|(intro _;assumption)))
  exact cA hX (hR false (by first|(simp;done)|(intro;omega)|(intro _;assumption))) (hS:=⟨v0,v0,v0,v0,(vT (.bc false)),zT⟩)
 ·exact cA hX (hR false (by first|(simp;done)|(intro;omega)|(intro _;assumption))) (hS:=⟨v0,v0,v0,v0,(vT (.bc false)),zT⟩)
 rintro q hJ
 refine jb (q) 10000 (fun(m:List Fil)=>[(0,.pr 2 0 []),(2,.s t),(3,.i .i64 R6),(10,B3 1234 35 I4 Z7)]) (fun(m:List Fil)=>[(2,A1 [.mp a 0 ⟨1,K⟩,.mp b 0 ⟨0,K⟩,.i .i64 rW,.b tl,B3 20 3 O6 m,.i .i64 we3])]) (fun(m:List Fil)=>(m.length:Int)<=rW/\(FOk l->FOk m)) [20,1234] (fun R hR=>⟨fun h7=>?_,fun h7=>?_⟩) ?_
 ·have h1d:=mC (hJ h7)
  refine cC ((0:Int)<=0/\(0:Int)<=(i64.wrap ((t.length:Int)-1))/\(i64.wrap ((t.length:Int)-1))<=(t.length:Int)) ?_ bw;refine cC ((l.length+1)*48<=140737488355328) ?_;exact cA hX (hR (l++[⟨((t.drop 0).take (((i64.wrap ((t.length:Int)-1))).toNat-0)),true,[]⟩]) (by first|exact⟨zO,id⟩|exact⟨by simp only[C6,u7];omega,fun h=>h.snoc⟩)) (hH:=⟨(vT (u:=A1 [.mp a 0 ⟨1,K⟩,.mp b 0 ⟨0,K⟩,.i .i64 rW,.b tl,.sl 20 3 (l.length+1) fun i=>bif blt i l.length then O6 (l.getD i default) else A1 [.s ((t.drop 0).take (((i64.wrap ((t.length:Int)-1))).toNat-0)),.b true,.bl 1 []],.i .i64 we3]) (C4 ⟨.rfl _,.rfl _,.rfl _,.rfl _,Tz l (((t.drop 0).take (((i64.wrap ((t.length:Int)-1))).toNat-0))),.rfl _,zT⟩)),zT⟩)
 ·exact cA hX (hR l (by first|exact⟨zO,id⟩|exact⟨by simp only[C6,u7];omega,fun h=>h.snoc⟩))
 rintro m dL
 refine cM hX (fun(p:Nat×Int×(List Fil)×Int)=>[(0,.pr 2 0 []),(2,.s t),(3,.i .i64 R6),(64,B3 1234 35 I4 Z7),(65,.i .i64 (Z7.length:Int)),(66,.i .i64 (p.1:Int))]) (fun(p:Nat×Int×(List Fil)×Int)=>[(2,A1 [.mp a 0 ⟨1,K⟩,.mp b 0 ⟨0,K⟩,.i .i64 p.2.1,.b tl,B3 20 3 O6 p.2.2.1,.i .i64 p.2.2.2])]) (fun(p:Nat×Int×(List Fil)×Int)=>p.1<=Z7.length/\p.2.2.2=0/\(0<=p.2.1/\p.2.1<=1024)/\(p.2.2.1.length:Int)<=p.2.1/\(FOk l->FOk p.2.2.1)) (fun(p:Nat×Int×(List Fil)×Int)=>Z7.length-p.1) [20,1234] 10192 (0,rW,m,we3) (by dsimp only;exact⟨zO,zO,zO,zO,dL.2⟩) ?_;rintro⟨k,c3,l3,e3⟩ hI R hR
 dsimp only at hI
 refine cB ((k:Int)<(Z7.length:Int)) ?_ ?_<;>intro h8
 ·have hk:=Ty (k:=k) hfn2
  refine cC ((0:Int)<=(k:Int)/\(k:Int)<(Z7.length:Int)) ?_;refine cB ((Z7.getD k default).kind=2) ?_ ?_<;>intro h9
  ·refine cC (t.length+((Z7.getD k default).name).length<=maxLen) ?_ bm
   refine cC ((t++((Z7.getD k default).name)).length+[47].length<=maxLen) ?_ bM;refine gV (fun _=>hm rfl) [(2,2),(20,3)] [2] (ih zO (i64.wrap (R6+1)) hw K a b c3 tl l3 e3 ((Z7.getD k default).of) ((t++((Z7.getD k default).name))++[47]) bd hI.2.1 bd bM (fun _=>by simp only[C6,u7];omega)) ?_;rintro out ho A0 ⟨gc4,gl4,ge4,rfl,rfl,hgc4,hgf4⟩
   refine cB (ge4≠0) ?_ ?_<;>intro K0
   ·exact xW hX (A2 []) (ho:=[(2,A1 [.mp a 0 ⟨1,K⟩,.mp b 0 ⟨0,K⟩,.i .i64 gc4,.b tl,B3 16 3 O6 gl4,.i .i64 ge4])]) (by refine⟨_,_,_,rfl,rfl,fun q=>?_,fun h=>hgf4 (hI.2.2.2.2 h)⟩;omega)
   have hg:=hgc4 zO
   exact cA hX (hR (k+1,gc4,gl4,ge4) (by dsimp only;exact⟨zO,zO,zO,zO,fun h=>hgf4 (hI.2.2.2.2 h)⟩) (by dsimp only;omega)) (hS:=⟨v0,v0,v0,v0,v0,(vS bd),zT⟩)
  refine gV (fun _=>hm rfl) [(2,2),(20,3)] [2] (Tx K a b c3 tl l3 e3 (Z7.getD k default) t zO hI.2.1 bd bd bd) ?_
  rintro out ho A0 ⟨gc5,gl5,ge5,rfl,rfl,hgc5,hge5,hgl5,hgf5⟩
  refine cB (ge5≠0) ?_ ?_<;>intro P9
  ·exact xW hX (A2 []) (ho:=[(2,A1 [.mp a 0 ⟨1,K⟩,.mp b 0 ⟨0,K⟩,.i .i64 gc5,.b tl,B3 16 3 O6 gl5,.i .i64 ge5])]) (by refine⟨_,_,_,rfl,rfl,fun q=>?_,fun h=>hgf5 (hI.2.2.2.2 h)⟩;omega)
  exact cA hX (hR (k+1,gc5,gl5,ge5) (by dsimp only;exact⟨zO,zO,zO,zO,fun h=>hgf5 (hI.2.2.2.2 h)⟩) (by dsimp only;omega)) (hS:=⟨v0,v0,v0,v0,v0,(vS bd),zT⟩)
 exact xW hX (A2 []) (ho:=[(2,A1 [.mp a 0 ⟨1,K⟩,.mp b 0 ⟨0,K⟩,.i .i64 c3,.b tl,B3 16 3 O6 l3,.i .i64 e3])]) (by refine⟨_,_,_,rfl,rfl,fun q=>?_,fun h=>hI.2.2.2.2 h⟩;omega)
structure InsL (P:Program) (ρ:Go.Shelf.Ren) (z q:Nat) (zv:Value):Prop where
 mixed:P.follows .mixedOrders=true
 t0:P.underlying (ρ.t 0)=some (TypeDesc.tuple #[])
 a0:∀w,(isAgg (ρ.t 0)).run P w=.ok false w
 z0:∀w,(Go.sizeOf (ρ.t 0)).run P w=.ok 1 w
 v0:∀w,(zeroValue (ρ.t 0)).run P w=.ok (Value.tuple #[]) w
 t3:P.underlying (ρ.t 3)=some (TypeDesc.int i64)
 a3:∀w,(isAgg (ρ.t 3)).run P w=.ok false w
 z3:∀w,(Go.sizeOf (ρ.t 3)).run P w=.ok 1 w
 v3:∀w,(zeroValue (ρ.t 3)).run P w=.ok (Value.int i64 0) w
 t4:P.underlying (ρ.t 4)=some (TypeDesc.bool)
 a4:∀w,(isAgg (ρ.t 4)).run P w=.ok false w
 z4:∀w,(Go.sizeOf (ρ.t 4)).run P w=.ok 1 w
 v4:∀w,(zeroValue (ρ.t 4)).run P w=.ok (Value.bool false) w
 z9:∀w,(Go.sizeOf (ρ.t 9)).run P w=.ok z w
 t24:P.underlying (ρ.t 24)=some (TypeDesc.slice (ρ.t 9))
 a24:∀w,(isAgg (ρ.t 24)).run P w=.ok false w
 z24:∀w,(Go.sizeOf (ρ.t 24)).run P w=.ok 1 w
 v24:∀w,(zeroValue (ρ.t 24)).run P w=.ok (Value.slice none 0 0) w
 i9:(P.info? (ρ.t 9)).map (fun i=>(i.zero,i.size,i.bytes))=some (some zv,z,q)
 zp:0<z
 zs:zv.cells.size=z
 zo:∀v∈zv.cells.toList,v.oneCell'=true
def uM(P:Program)(f:FuncId)(g:Func):Prop:=∃fn,P.funcs[f]? =some fn/\fn.body=g.body/\fn.ntmps=g.ntmps/\fn.results=g.results
theorem HR{f:FuncId}{g:Func}{c:Code}{args:Array Value}{R:Ending->World->Prop}(hf:uM P f g)(hb:g.body=some c)
  (h:c.wp P (bodyPost P g R) { tmps:=args++Array.replicate (g.ntmps-args.size) undef,defers:=[]} w):Calls P f args w R:=by
 obtain⟨fn,h1,h2,h3,h4⟩:=hf
 have e:bodyPost P fn R=bodyPost P g R:=by funext e a w;unfold bodyPost;cases e<;>simp only[results,h4]
 refine calls_of_wp h1 (h2.trans hb) ?_
 rw[e,h3];exact h
theorem HV(w:World)(dT sT ty elem:TypeId)(b o dLen dCap:Nat)(a:Addr)(sLen sCap:Nat)(cs:List Value){z:Nat}
  (hu:P.underlying dT=some (.slice elem))(hs:(P.info? elem).map (·.size)=some z)(hn:cs.length=Nat.min sLen dLen*z)
  (J9:∀j v,cs[j]? =some v->w.cell? (a.add j)=some v)(hc:∀j,j<cs.length->(w.cell? ⟨b,o+j,none⟩).isSome=true)(hf:∀j,j<cs.length->w.frozen? ⟨b,o+j,none⟩=false)(h1:∀v∈cs,v.oneCell'=true):
  (Builtin.copy_ #[dT,sT] ty #[.slice (some ⟨b,o,none⟩) dLen dCap,.slice (some a) sLen sCap]).run P w=.ok (goInt (Nat.min sLen dLen)) (w.setCells b o cs):=by
 have hl:=run_loadCells_list (P:=P) w a cs J9
 have I0:=run_storeCells_cells (P:=P) b o cs 0 w (by simpa using hc) (by simpa using hf) h1
 cases hq:P.info? elem with
|none=>simp[hq]at hs
|some i=>
  have hi:i.size=z:=by simpa [hq] using hs
  simp[Builtin.copy_,run_underlying hu,Builtin.lenOf,Builtin.firstCells,sizeOf,typeInfo,hq,hi, <-hn,hl,I0]
open Go.Shelf Go.RowKit Go.Lib in
set_option maxHeartbeats 4000000 in
set_option maxRecDepth 100000 in
theorem Ua{ρ:Go.Shelf.Ren}{z:Nat}{zv:Value}{f:FuncId}(L:InsL P ρ z q zv)(hF:uM P f (Body2.n22 ρ))(b off n c i vb Z8 vc:Nat)(cs vs:List Value)(w:World)(hi:i<n)(j0:n+1<=c)(hc63:c<=9223372036854775807)
  (bQ:cs.length=n*z)(nU:vs.length=z)
  (w4:∀j v,cs[j]? =some v->w.cell? ⟨b,off+j,none⟩=some v)(gA:∀j,j<(n+1)*z->(w.cell? ⟨b,off+j,none⟩).isSome=true)(W5:∀j,j<(n+1)*z->w.frozen? ⟨b,off+j,none⟩=false)
  (Y0:∀j v,vs[j]? =some v->w.cell? ⟨vb,Z8+j,none⟩=some v)(lM:∀v∈cs,v.oneCell'=true)(h1v:∀v∈vs,v.oneCell'=true)
  (Y7:vb=b->∀j k,j<z->k<(n+1)*z->Z8+j≠off+k)
  (hov:∀cb,(callFunc (ρ.f 29) #[.slice (some ⟨vb,Z8,none⟩) 1 vc,.slice (some ⟨b,off+(i+1)*z,none⟩) (n-i) cb]).run P w=.ok (.value (.bool false)) w):
  Calls P f #[.slice (some ⟨b,off,none⟩) n c,.int .i64 i,.slice (some ⟨vb,Z8,none⟩) 1 vc] w fun e w'=>
   e=.returned (.slice (some ⟨b,off,none⟩) (n+1) c)/\w'=(w.drew.setCells b (off+(i+1)*z) (cs.drop (i*z))).setCells b (off+i*z) vs:=by
 have t0:=L.t0;have a0:=L.a0;have z0:=L.z0;have v0:=L.v0;have t3:=L.t3;have a3:=L.a3;have z3:=L.z3;have v3:=L.v3;have t4:=L.t4;have a4:=L.a4;have z4:=L.z4;have v4:=L.v4;have z9:=L.z9;have t24:=L.t24;have a24:=L.a24;have z24:=L.z24;have v24:=L.v24
 have u0:=run_underlying L.t0;have u3:=run_underlying L.t3;have u4:=run_underlying L.t4;have u24:=run_underlying L.t24
 have jY:¬ ((i:Int)=(n:Int)):=by omega
 have G3:(P.info? (ρ.t 9)).map (·.size)=some z:=by
  obtain⟨i0,nZ,h0,h1,h2⟩:=info_parts L.i9
  rw[nZ];simp[h1]
 have rX:=L.zp
 have hIN:i*z+z<=n*z:=by have:=G2 z hi;rw[G7]at this;exact this
 have hn1:(n+1)*z=n*z+z:=G7 n z
 have kJ:(i+1)*z=i*z+z:=G7 i z
 have Y1:(cs.drop (i*z)).length=n*z-i*z:=by rw[K4,bQ]
 have rY:(n-i)*z=n*z-i*z:=nN n i z
 have mixed:=L.mixed
 have rP:i64.wrap ((i:Int)+1)=(i:Int)+1:=by rw[IntKind.wrap_i64];omega
 have P8:(0:Int)<=(i:Int)+1:=by omega
 have W3:i<=n:=by omega
 have htn:((i:Int)+1).toNat=i+1:=by omega
 have U5:¬ (c=i+1):=by omega
 have z6:(i:Int)<=(n:Int)+1:=by omega
 have hb4:¬ (c=i):=by omega
 have hcp1:∀ty dc sc,(Builtin.copy_ #[(ρ.t 24),(ρ.t 24)] ty #[.slice (some ⟨b,off+(i+1)*z,none⟩) (n-i) dc,.slice (some ⟨b,off+i*z,none⟩) (n+1-i) sc]).run P w.drew=.ok (goInt (Nat.min (n+1-i) (n-i))) (w.drew.setCells b (off+(i+1)*z) (cs.drop (i*z))):=fun ty dc sc=>
  HV w.drew _ _ ty (ρ.t 9) b (off+(i+1)*z) (n-i) dc ⟨b,off+i*z,none⟩ (n+1-i) sc (cs.drop (i*z)) L.t24 G3 (by rw[Y1, <-rY];congr 1;simp only[Nat.min_def];split<;>omega)
   (fun j v hj=>by rw[Addr.add_lit,O7];exact w4 (i*z+j) v (by rwa [Q5]at hj))
   (fun j hj=>by rw[O7];exact gA _ zO) (fun j hj=>by rw[O7];exact W5 _ zO) (fun v hv=>lM v (JK hv))
 obtain⟨W1,w8⟩:∃W1,W1=w.drew.setCells b (off+(i+1)*z) (cs.drop (i*z)):=⟨_,rfl⟩
 have hsp1:∀k,k<(n+1)*z->(W1.cell? ⟨b,off+k,none⟩).isSome=true:=fun k hk=>by
  rw[w8]
  exact isSome_setCells b _ _ _ (fun j hj=>by rw[O7];exact gA _ zO) _ (gA k hk)
 have hcp2:∀(W:World),(∀x,W.cell? x=W1.cell? x)->(∀x,W.frozen? x=W1.frozen? x)->∀ty dc,(Builtin.copy_ #[(ρ.t 24),(ρ.t 24)] ty #[.slice (some ⟨b,off+i*z,none⟩) (n+1-i) dc,.slice (some ⟨vb,Z8,none⟩) 1 vc]).run P W=.ok (goInt (Nat.min 1 (n+1-i))) (W.setCells b (off+i*z) vs):=fun W rZ hWf ty dc=>
  HV W _ _ ty (ρ.t 9) b (off+i*z) (n+1-i) dc ⟨vb,Z8,none⟩ 1 vc vs L.t24 G3 (by rw[nU,show Nat.min 1 (n+1-i)=1 by simp only[Nat.min_def];split<;>omega,qZ])
   (fun j v hj=>by
    have hjz:j<z:=by have:=(N1.1 hj).1;omega
    rw[Addr.add_lit,rZ,w8,nM b _ _ _ _ (fun h _=>by
     show Z8+j<off+(i+1)*z\/off+(i+1)*z+(cs.drop (i*z)).length<=Z8+j
     by_cases h1:Z8+j<off+(i+1)*z
     ·exact .inl h1
     by_cases h2:off+(i+1)*z+(cs.drop (i*z)).length<=Z8+j
     ·exact .inr h2
     exact absurd (show Z8+j=off+(Z8+j-off) by omega) (Y7 h j (Z8+j-off) hjz zO))]
    exact Y0 j v hj)
   (fun j hj=>by rw[rZ,O7];exact hsp1 _ zO) (fun j hj=>by rw[hWf,w8,jW,O7];exact W5 _ zO) h1v
 rw[<-w8]at hcp1
 clear Y7 hIN hn1 kJ Y1 rY
 refine HR hF rfl ?_
 simp only[Body2.n22_ntmps ρ,bO,G8,M3,Nat.reduceAdd,Nat.reduceSub,Array.replicate_succ,Array.replicate_zero,List.push_toArray,List.append_toArray,Y5,v6]
 go_wp2_with (simp only[hov])
 go_region_law_o (refine step_copy_runI rfl _ _ (ρ.t 24) (ρ.t 24) rfl _ _ (by simp[Act.eval,Act.put]) (by simp[Act.eval,Act.put]) (hcp1 _ _ _) ?_)
 go_wp2_with (at_builtin;refine wpList_copy_runI _ rfl _ _ (ρ.t 24) (ρ.t 24) rfl _ _ rfl rfl (hcp2 _ (fun _=>rfl) (fun _=>rfl) _ _) ?_)
 go_ret
 first|exact⟨rfl,rfl⟩|exact⟨rfl,by rw[w8]⟩
open Go.Shelf Go.RowKit Go.Lib in
set_option maxHeartbeats 4000000 in
set_option maxRecDepth 100000 in
theorem Ub{ρ:Go.Shelf.Ren}{z:Nat}{zv:Value}{f:FuncId}(L:InsL P ρ z q zv)(hF:uM P f (Body2.n22 ρ))(P2:Option Addr)(n c vb Z8 vc:Nat)(w w':World)(v':Value)(hnil:P2=none->n=0)(hnc:n<=c)
  (I1:∀ty,(Builtin.append_ #[(ρ.t 24),(ρ.t 24)] ty #[.slice P2 n c,.slice (some ⟨vb,Z8,none⟩) 1 vc]).run P w=.ok v' w'):
  Calls P f #[.slice P2 n c,.int .i64 n,.slice (some ⟨vb,Z8,none⟩) 1 vc] w fun e w2=>e=.returned v'/\w2=w':=by
 have t0:=L.t0;have a0:=L.a0;have z0:=L.z0;have v0:=L.v0;have t3:=L.t3;have a3:=L.a3;have z3:=L.z3;have v3:=L.v3;have t4:=L.t4;have a4:=L.a4;have z4:=L.z4;have v4:=L.v4;have z9:=L.z9;have t24:=L.t24;have a24:=L.a24;have z24:=L.z24;have v24:=L.v24
 have u0:=run_underlying L.t0;have u3:=run_underlying L.t3;have u4:=run_underlying L.t4;have u24:=run_underlying L.t24
 have mixed:=L.mixed
 refine HR hF rfl ?_
 simp only[Body2.n22_ntmps ρ,bO,G8,M3,Nat.reduceAdd,Nat.reduceSub,Array.replicate_succ,Array.replicate_zero,List.push_toArray,List.append_toArray,Y5,v6]
 cases P2 with
|none=>
  have h0:=hnil rfl
  subst h0
  go_wp2_with (at_builtin;refine Lib.wpList_append_run _ rfl _ _ _ _ rfl _ _ rfl rfl _ _ (I1 _) ?_)
  all_goals (go_ret;exact⟨rfl,rfl⟩)
|some a=>
  obtain⟨ab,ao,asp⟩:=a
  go_wp2_with (at_builtin;refine Lib.wpList_append_run _ rfl _ _ _ _ rfl _ _ rfl rfl _ _ (I1 _) ?_)
  all_goals (go_ret;exact⟨rfl,rfl⟩)
open Go.Shelf Go.RowKit Go.Lib in
set_option maxHeartbeats 4000000 in
set_option maxRecDepth 100000 in
theorem Uc{ρ:Go.Shelf.Ren}{z:Nat}{zv:Value}{f:FuncId}(L:InsL P ρ z q zv)(hF:uM P f (Body2.n22 ρ))(b off n c i vb Z8 vc:Nat)(cs vs:List Value)(w:World)(hi:i<n)(hnc:n<=c)(j0:c<n+1)(hbig:(n+1)*q<=140737488355328)(hq:0<q)
  (bQ:cs.length=n*z)(nU:vs.length=z)
  (w4:∀j v,cs[j]? =some v->w.cell? ⟨b,off+j,none⟩=some v)
  (Y0:∀j v,vs[j]? =some v->w.cell? ⟨vb,Z8+j,none⟩=some v)(lM:∀v∈cs,v.oneCell'=true)(h1v:∀v∈vs,v.oneCell'=true):
  Calls P f #[.slice (some ⟨b,off,none⟩) n c,.int .i64 i,.slice (some ⟨vb,Z8,none⟩) 1 vc] w fun e w'=>∃ROW G,ROW.size=G*z/\n+1<=G/\G<=maxLen/\ROW.toList.take (i*z)=cs.take (i*z)/\
   e=.returned (.slice (some ⟨w.heap.size,0,none⟩) (n+1) G)/\
   w'=(((w.alloc (.cells ROW (ρ.t 9))).drew.setCells w.heap.size (i*z) vs).drew).setCells w.heap.size ((i+1)*z) (cs.drop (i*z)):=by
 have t0:=L.t0;have a0:=L.a0;have z0:=L.z0;have v0:=L.v0;have t3:=L.t3;have a3:=L.a3;have z3:=L.z3;have v3:=L.v3;have t4:=L.t4;have a4:=L.a4;have z4:=L.z4;have v4:=L.v4;have z9:=L.z9;have t24:=L.t24;have a24:=L.a24;have z24:=L.z24;have v24:=L.v24
 have u0:=run_underlying L.t0;have u3:=run_underlying L.t3;have u4:=run_underlying L.t4;have u24:=run_underlying L.t24
 have mixed:=L.mixed
 have rX:=L.zp
 have eM:=L.zs
 obtain⟨i0,nZ,y8,hzz,hzb⟩:=info_parts L.i9
 have hIN:i*z+z<=n*z:=by have:=G2 z hi;rw[G7]at this;exact this
 have hn1:(n+1)*z=n*z+z:=G7 n z
 have kJ:(i+1)*z=i*z+z:=G7 i z
 have rY:(n-i)*z=n*z-i*z:=nN n i z
 have jY:¬ ((i:Int)=(n:Int)):=by omega
 have hz3:(c:Int)<(n:Int)+1:=by omega
 have G3:(P.info? (ρ.t 9)).map (·.size)=some z:=by rw[nZ];simp[hzz]
 have kD:b<w.heap.size:=block_lt_of_cell (w4 0 _ (B6 zO))
 have hvw:vb<w.heap.size:=block_lt_of_cell (Y0 0 _ (B6 zO))
 have lY:(n:Int)+1-(i:Int)=((n+1-i:Nat):Int):=by omega
 have oG:i+(n+1-i)=n+1:=by omega
 have N2:n+1<=140737488355328:=J2 (vF _ hq) hbig
 have bU:(Builtin.firstCells i0.size i (.slice (some ⟨b,off,none⟩) i c)).run P w.drew=.ok (cs.take (i*z)).toArray w.drew:=by
  rw[hzz]
  exact run_firstCells_some w.drew z i ⟨b,off,none⟩ i c (cs.take (i*z)) (by rw[F7];omega) (fun j v hj=>by
   rw[Addr.add_lit]
   rw[t7]at hj
   split at hj
   ·exact w4 j v hj
   cases hj)
 have hrz:∀ty,(Builtin.append_ #[(ρ.t 24),(ρ.t 3)] ty #[.slice (some ⟨b,off,none⟩) i c,.int .i64 ((n:Int)+1-(i:Int))]).run P w=
   .ok (.slice (some ⟨w.heap.size,0,none⟩) (n+1) (grownCap w (n+1) c (ρ.t 9))) (w.drew.alloc (.cells ((cs.take (i*z)).toArray++Builtin.zeroCells zv.cells (n+1-i)++Builtin.zeroCells zv.cells (grownCap w (n+1) c (ρ.t 9)-(n+1))) (ρ.t 9))):=fun ty=>by
  have h:=Lib.run_append_grow_zeros w (ρ.t 24) (ρ.t 3) ty (ρ.t 9) i0 _ .i64 .i64 L.t24 L.t3 nZ y8 (some ⟨b,off,none⟩) i c (cs.take (i*z)) bU (n+1-i) zO zO zO zO (by rw[hzb];exact J2 (G2 _ (by omega:n+1-i<=n+1)) zO) (by rw[hzb,oG];exact growslice_fits j0 hbig)
  rw[oG]at h
  rw[lY]
  exact h
 obtain⟨G,hG⟩:∃G,G=grownCap w (n+1) c (ρ.t 9):=⟨_,rfl⟩
 obtain⟨ROW,hROW⟩:∃ROW:Array Value,ROW=(cs.take (i*z)).toArray++Builtin.zeroCells zv.cells (n+1-i)++Builtin.zeroCells zv.cells (G-(n+1)):=⟨_,rfl⟩
 rw[<-hG]at hrz
 rw[<-hROW]at hrz
 have hGn:n+1<=G:=by rw[hG];exact grownCap_ge w _ _ _
 have hsz0:∀k,(Builtin.zeroCells zv.cells k).size=k*z:=fun k=>by rw[size_zeroCells,eM]
 have hRl:ROW.size=G*z:=by
  rw[hROW,zQ,zQ,hsz0,hsz0,bO,F7,jU zO, <-U3, <-U3]
  congr 1;omega
 have hGz:(n+1)*z<=G*z:=G2 _ hGn
 have hRt:ROW.toList.take (i*z)=cs.take (i*z):=by
  rw[hROW,Array.toList_append,Array.toList_append,H9,lG (by rw[F7];omega),List.take_take,Nat.min_self]
 obtain⟨W1,w8⟩:∃W1,W1=w.drew.alloc (.cells ROW (ρ.t 9)):=⟨_,rfl⟩
 rw[<-w8]at hrz
 have hN:∀j,j<(n+1)*z->(W1.cell? ⟨w.heap.size,j,none⟩).isSome=true:=fun j hj=>by
  rw[w8,World.cell?_alloc_at (w:=w.drew) ROW _ w.heap.size j rfl,zR zO];rfl
 have hNf:∀j,W1.frozen? ⟨w.heap.size,j,none⟩=false:=fun j=>by rw[w8];exact World.frozen?_alloc_at (w:=w.drew) ROW _ w.heap.size j rfl
 have hOb:∀j v,w.cell? ⟨b,j,none⟩=some v->W1.cell? ⟨b,j,none⟩=some v:=fun j v h=>by rw[w8,World.cell?_alloc_past (w:=w.drew) _ b j kD];exact h
 have hOv:∀j v,w.cell? ⟨vb,j,none⟩=some v->W1.cell? ⟨vb,j,none⟩=some v:=fun j v h=>by rw[w8,World.cell?_alloc_past (w:=w.drew) _ vb j hvw];exact h
 have Y1:(cs.drop (i*z)).length=n*z-i*z:=by rw[K4,bQ]
 have hcpA:∀(W:World),(∀x,W.cell? x=W1.cell? x)->(∀x,W.frozen? x=W1.frozen? x)->∀ty dc,(Builtin.copy_ #[(ρ.t 24),(ρ.t 24)] ty #[.slice (some ⟨w.heap.size,i*z,none⟩) (n+1-i) dc,.slice (some ⟨vb,Z8,none⟩) 1 vc]).run P W=.ok (goInt (Nat.min 1 (n+1-i))) (W.setCells w.heap.size (i*z) vs):=fun W rZ hWf ty dc=>
  HV W _ _ ty (ρ.t 9) w.heap.size (i*z) (n+1-i) dc ⟨vb,Z8,none⟩ 1 vc vs L.t24 G3 (by rw[nU,show Nat.min 1 (n+1-i)=1 by simp only[Nat.min_def];split<;>omega,qZ])
   (fun j v hj=>by rw[Addr.add_lit,rZ];exact hOv _ v (Y0 j v hj))
   (fun j hj=>by rw[rZ];exact hN _ zO) (fun j hj=>by rw[hWf];exact hNf _) h1v
 have hG63:G<=9223372036854775807:=by
  have:=grownCap_le_maxLen w (n+1) c (ρ.t 9) (by unfold maxLen;omega)
  rw[<-hG]at this
  unfold maxLen at this
  omega
 have hGi:¬ (G=i):=by omega
 have hGim:¬ (G=i+1):=by omega
 have hci:¬ (c=i):=by omega
 have hbN:b≠w.heap.size:=by omega
 have hcpB:∀(W:World),(∀x,W.cell? x=(W1.setCells w.heap.size (i*z) vs).cell? x)->(∀x,W.frozen? x=(W1.setCells w.heap.size (i*z) vs).frozen? x)->∀ty dc sc,(Builtin.copy_ #[(ρ.t 24),(ρ.t 24)] ty #[.slice (some ⟨w.heap.size,(i+1)*z,none⟩) (n-i) dc,.slice (some ⟨b,off+i*z,none⟩) (n-i) sc]).run P W=.ok (goInt (Nat.min (n-i) (n-i))) (W.setCells w.heap.size ((i+1)*z) (cs.drop (i*z))):=fun W rZ hWf ty dc sc=>
  HV W _ _ ty (ρ.t 9) w.heap.size ((i+1)*z) (n-i) dc ⟨b,off+i*z,none⟩ (n-i) sc (cs.drop (i*z)) L.t24 G3 (by rw[Y1, <-rY];congr 1;simp only[Nat.min_def];split<;>omega)
   (fun j v hj=>by
    rw[Addr.add_lit,rZ,nM _ _ _ _ _ (fun h _=>absurd h hbN),O7]
    exact hOb _ v (w4 (i*z+j) v (by rwa [Q5]at hj)))
   (fun j hj=>by rw[rZ];exact isSome_setCells _ _ _ _ (fun t ht=>hN _ zO) _ (hN _ zO))
   (fun j hj=>by rw[hWf,jW];exact hNf _) (fun v hv=>lM v (JK hv))
 subst w8
 have hE1:∀x,((w.alloc (.cells ROW (ρ.t 9))).drew).cell? x=(w.drew.alloc (.cells ROW (ρ.t 9))).cell? x:=fun x=>rfl
 have hE2:∀x,((w.alloc (.cells ROW (ρ.t 9))).drew).frozen? x=(w.drew.alloc (.cells ROW (ρ.t 9))).frozen? x:=fun x=>rfl
 have hF1:∀x,(((w.alloc (.cells ROW (ρ.t 9))).drew.setCells w.heap.size (i*z) vs).drew).cell? x=((w.drew.alloc (.cells ROW (ρ.t 9))).setCells w.heap.size (i*z) vs).cell? x:=fun x=>rfl
 have hF2:∀x,(((w.alloc (.cells ROW (ρ.t 9))).drew.setCells w.heap.size (i*z) vs).drew).frozen? x=((w.drew.alloc (.cells ROW (ρ.t 9))).setCells w.heap.size (i*z) vs).frozen? x:=fun x=>rfl
 have rP:i64.wrap ((i:Int)+1)=(i:Int)+1:=by rw[IntKind.wrap_i64];omega
 have P8:(0:Int)<=(i:Int)+1:=by omega
 have W3:i<=n:=by omega
 have htn:((i:Int)+1).toNat=i+1:=by omega
 have z6:(i:Int)<=(n:Int):=by omega
 have fin:Calls P f #[.slice (some ⟨b,off,none⟩) n c,.int .i64 i,.slice (some ⟨vb,Z8,none⟩) 1 vc] w fun e w'=>e=.returned (.slice (some ⟨w.heap.size,0,none⟩) (n+1) G)/\
   w'=(((w.alloc (.cells ROW (ρ.t 9))).drew.setCells w.heap.size (i*z) vs).drew).setCells w.heap.size ((i+1)*z) (cs.drop (i*z)):=by
  clear lY oG bU hROW hG hRl hRt hGz hsz0 hIN hn1 kJ Y1 rY hN hNf hOb hOv
  refine HR hF rfl ?_
  simp only[Body2.n22_ntmps ρ,bO,G8,M3,Nat.reduceAdd,Nat.reduceSub,Array.replicate_succ,Array.replicate_zero,List.push_toArray,List.append_toArray,Y5,v6]
  go_wp2_with (first
  |(at_builtin;refine Lib.wpList_append_run _ rfl _ _ _ _ rfl _ _ rfl rfl _ _ (hrz _) ?_)
  |(at_builtin;refine wpList_copy_runI _ rfl _ _ (ρ.t 24) (ρ.t 24) rfl _ _ rfl rfl (hcpA _ hE1 hE2 _ _) ?_)
  |(at_builtin;refine wpList_copy_runI _ rfl _ _ (ρ.t 24) (ρ.t 24) rfl _ _ rfl rfl (hcpB _ (fun _=>rfl) (fun _=>rfl) _ _ _) ?_))
  go_region_law_o (refine step_copy_runI rfl _ _ (ρ.t 24) (ρ.t 24) rfl (.slice (some ⟨w.heap.size,(i+1)*z,none⟩) (n-i) (G-(i+1))) (.slice (some ⟨b,off+i*z,none⟩) (n-i) (c-i)) (by simp[Act.eval,Act.put]) (by simp[Act.eval,Act.put]) (hcpB _ hF1 hF2 (ρ.t 3) (G-(i+1)) (c-i)) ?_)
  go_wp2
  go_ret
  exact⟨rfl,rfl⟩
 exact fin.mono fun e w' ⟨h1,h2⟩=>⟨ROW,G,hRl,hGn,by unfold maxLen;omega,hRt,h1,h2⟩
theorem Ud(c:Array Value):(Builtin.zeroCells c 1).toList=c.toList:=by
 apply List.ext_getElem
 ·simp[Builtin.zeroCells]
 intro i h1 h2
 have h3:i<c.size:=by simpa using h2
 simp[Builtin.zeroCells,Nat.mod_eq_of_lt h3,getElem!_pos c i h3]
theorem Ue(w:World)(t e ty:TypeId)(z:Value)(ht:P.underlying t=some (.slice e))(hv:∀w,(zeroValue e).run P w=.ok z w)(h1:∀v∈z.cells.toList,v.oneCell'=true)(b o c:Nat)
  (hc:∀j,j<z.cells.size->(w.cell? ⟨b,o+j,none⟩).isSome=true)(hf:∀j,j<z.cells.size->w.frozen? ⟨b,o+j,none⟩=false):
  (Builtin.clear_ #[t] ty #[.slice (some ⟨b,o,none⟩) 1 c]).run P w=.ok (.tuple #[]) (w.setCells b o z.cells.toList):=by
 have I0:=run_storeCells_cells (P:=P) b o z.cells.toList 0 w (by simpa using hc) (by simpa using hf) h1
 simp only[t8]at I0
 simp[Builtin.clear_,run_underlying ht,hv,Ud,I0]
open Go.Shelf Go.RowKit Go.Lib Go.Sort in
set_option maxHeartbeats 4000000 in
set_option maxRecDepth 1000000 in
theorem Uf{ρ:Go.Shelf.Ren}{z:Nat}{zv:Value}{f:FuncId}(L:InsL P ρ z q zv)(hF:uM P f (Body2.n24 ρ))(b off n c i:Nat)(cs:List Value)(w:World)(hi:i<n)(hnc:n<=c)(hc63:c<=9223372036854775807)
  (bQ:cs.length=n*z)(w4:∀j v,cs[j]? =some v->w.cell? ⟨b,off+j,none⟩=some v)(W5:∀j,j<n*z->w.frozen? ⟨b,off+j,none⟩=false)(lM:∀v∈cs,v.oneCell'=true):
  Calls P f #[.slice (some ⟨b,off,none⟩) n c,.int .i64 (i:Int),.int .i64 ((i:Int)+1)] w fun e w'=>e=.returned (.slice (some ⟨b,off,none⟩) (n-1) c)/\w'=(w.drew.setCells b (off+i*z) (cs.drop ((i+1)*z))).setCells b (off+(n-1)*z) zv.cells.toList:=by
 have mixed:=L.mixed;have t0:=L.t0;have a0:=L.a0;have z0:=L.z0;have v0:=L.v0;have t3:=L.t3;have a3:=L.a3;have z3:=L.z3;have v3:=L.v3;have t4:=L.t4;have a4:=L.a4;have z4:=L.z4;have v4:=L.v4;have z9:=L.z9;have t24:=L.t24;have a24:=L.a24;have z24:=L.z24;have v24:=L.v24
 have u0:=run_underlying L.t0;have u3:=run_underlying L.t3;have u4:=run_underlying L.t4;have u24:=run_underlying L.t24
 have eM:=L.zs
 obtain⟨i0,nZ,y8,rE,jY⟩:=info_parts L.i9
 have v9:∀w,(zeroValue (ρ.t 9)).run P w=.ok zv w:=fun w=>by simp[zeroValue,typeInfo,nZ,y8]
 have hIN:i*z+z<=n*z:=by have:=G2 z hi;rw[G7]at this;exact this
 have kJ:(i+1)*z=i*z+z:=G7 i z
 have K3:(n-1)*z=n*z-z:=by rw[nN,qZ]
 have rY:(n-(i+1))*z=n*z-(i+1)*z:=nN n (i+1) z
 obtain⟨news,fU⟩:∃news,news=cs.drop ((i+1)*z):=⟨_,rfl⟩
 have D7:news.length=n*z-(i+1)*z:=by rw[fU,K4,bQ]
 obtain⟨A,hA,J9⟩:∃A:Addr,(if c=i+1 then some (⟨b,off,none⟩:Addr) else some ⟨b,off+(i+1)*z,none⟩)=some A/\Hid (∀t u,news[t]? =some u->w.drew.cell? (A.add t)=some u):=by
  by_cases h:c=i+1
  ·refine⟨⟨b,off,none⟩,by simp[h],fun t u hu=>?_⟩
   have h0:news.length=0:=by rw[D7,show n=i+1 by omega,bP]
   rw[l4.1 h0]at hu
   simp at hu
  refine⟨⟨b,off+(i+1)*z,none⟩,by simp[h],fun t u hu=>?_⟩
  rw[Addr.add_lit,O7]
  exact w4 _ u (by rw[fU,Q5]at hu;exact hu)
 have s1:Hid (news.length=(n-(i+1))*z):=by rw[rY];exact D7
 have s2:Hid (∀u∈news,u.oneCell'=true):=by intro u hu;rw[fU]at hu;exact lM u (JK hu)
 have cell:∀t,t<n*z->(w.drew.cell? ⟨b,off+t,none⟩).isSome=true/\w.drew.frozen? ⟨b,off+t,none⟩=false:=fun t ht=>by
  refine⟨?_,W5 t ht⟩
  have:=w4 t _ (B6 zO)
  show(w.cell? _).isSome=true
  rw[this];rfl
 have s3:Hid (∀t,t<news.length->(w.drew.cell? ⟨b,off+i*z+t,none⟩).isSome=true/\w.drew.frozen? ⟨b,off+i*z+t,none⟩=false):=by
  intro t ht
  rw[O7];exact cell _ zO
 obtain⟨W1,w8⟩:∃W1,W1=w.drew.setCells b (off+i*z) news:=⟨_,rfl⟩
 have cell1:∀t,t<n*z->(W1.cell? ⟨b,off+t,none⟩).isSome=true/\W1.frozen? ⟨b,off+t,none⟩=false:=fun t ht=>by
  rw[w8]
  refine⟨isSome_setCells b _ _ _ (fun j hj=>by rw[O7];exact(cell _ zO).1) _ (cell t ht).1,?_⟩
  rw[jW];exact(cell t ht).2
 have hin2:i+(n-(i+1))=n-1:=by omega
 have hcle:∀ty d,(Builtin.clear_ #[ρ.t 24] ty #[.slice (some ⟨b,off+(i+(n-(i+1)))*z,none⟩) (n-(i+(n-(i+1)))) d]).run P W1=.ok (.tuple #[]) (W1.setCells b (off+(n-1)*z) zv.cells.toList):=fun ty d=>by
  rw[show n-(i+(n-(i+1)))=1 by omega,hin2]
  exact Ue W1 _ _ ty _ t24 v9 L.zo b (off+(n-1)*z) _ (fun t ht=>by rw[O7];exact(cell1 _ zO).1) (fun t ht=>by rw[O7];exact(cell1 _ zO).2)
 have hW:Hid (W1=w.drew.setCells b (off+i*z) news):=w8
 have hic:i<=c:=by omega
 have hjc:i+1<=c:=by omega
 have dC:i<=i+1:=by omega
 have hj:i+1<=n:=by omega
 have P8:(0:Int)<=(i:Int)+1:=by omega
 have htn:((i:Int)+1).toNat=i+1:=by omega
 have z6:(i:Int)<=(i:Int)+1:=by omega
 have hb5:(i:Int)+1<=(n:Int):=by omega
 have hb6:¬ ((i:Int)=(i:Int)+1):=by omega
 have hb7:(i:Int)+1<=(c:Int):=by omega
 obtain⟨Z,hZ⟩:∃Z,Z=zv.cells.toList:=⟨_,rfl⟩
 rw[<-hZ]at hcle ⊢
 have fin:Calls P f #[.slice (some ⟨b,off,none⟩) n c,.int .i64 (i:Int),.int .i64 ((i:Int)+1)] w fun e w'=>e=.returned (.slice (some ⟨b,off,none⟩) (i+(n-(i+1))) c)/\w'=W1.setCells b (off+(n-1)*z) Z:=by
  clear hZ hIN kJ K3 rY D7 fU w4 W5 cell cell1 w8 hin2 bQ
  refine HR hF rfl ?_
  simp only[Body2.n24_ntmps ρ,bO,G8,M3,Nat.reduceAdd,Nat.reduceSub,Array.replicate_succ,Array.replicate_zero,List.push_toArray,List.append_toArray,Y5,v6]
  go_wp2_with fail
  go_region_law_o (refine step_append_room rfl (.tmp 22) (.tmp 25) (ρ.t 24) rfl (ρ.t 9) i0 z t24 nZ rE b off i c (by simp[Act.eval,Act.put]) A (n-(i+1)) (c-(i+1)) news (by simp[Act.eval,Act.put]) s1.out J9.out s2.out zO s3.out ?_;rw[<-hW.out])
  go_wp2
  go_ret
  exact⟨rfl,rfl⟩
 refine fin.mono fun e w' ⟨h1,h2⟩=>⟨by rw[h1,hin2],by rw[h2,w8,fU]⟩
def V5:Array Value->Nat->List Value->Array Value
|c,_,[]=>c
|c,o,v::r=>V5 (c.setIfInBounds o v) (o+1) r
theorem uN:∀(vs:List Value) (c:Array Value) (o:Nat),(V5 c o vs).size=c.size
|[],_,_=>rfl
|v::r,c,o=>by rw[V5,uN r];simp
theorem CH:∀(vs:List Value) (c:Array Value) (o j:Nat),(V5 c o vs)[j]? =if o<=j/\j<o+vs.length/\j<c.size then vs[j-o]? else c[j]?
|[],c,o,j=>by
  rw[V5,if_neg (by simp only[M3];omega)]
|v::r,c,o,j=>by
  rw[V5,CH r]
  simp only[Array.size_setIfInBounds,G8]
  by_cases h:o+1<=j/\j<o+1+r.length/\j<c.size
  ·rw[if_pos h,if_pos zO,show j-o=(j-(o+1))+1 by omega,DC]
  rw[if_neg h,JI]
  by_cases e:o=j
  ·subst e
   by_cases hs:o<c.size
   ·rw[if_pos rfl,if_pos hs,if_pos zO,bP];rfl
   rw[if_pos rfl,if_neg hs,if_neg zO,DG zO]
  rw[if_neg e,if_neg zO]
def uO(F:Array Value->Array Value):Go.Obj->Go.Obj
|.cells c e fr=>.cells (F c) e fr
|o=>o
theorem Ug(h:Array Go.Obj)(b:Nat)(f:Go.Obj->Go.Obj)(hf:∀o,f o=o):h.modify b f=h:=by
 apply Array.ext
 ·simp
 intro i h1 h2
 rw[Array.getElem_modify]
 split
 ·exact hf _
 rfl
theorem OD(h:Array Go.Obj)(b:Nat)(f g k:Go.Obj->Go.Obj)(hk:∀o,g (f o)=k o):(h.modify b f).modify b g=h.modify b k:=by
 apply Array.ext
 ·simp
 intro i h1 h2
 simp only[Array.getElem_modify]
 split
 ·exact hk _
 rfl
theorem yV(b:Nat):∀(vs:List Value) (o:Nat) (w:World),w.setCells b o vs={ w with heap:=w.heap.modify b (uO fun c=>V5 c o vs)}
|[],o,w=>by
  rw[World.setCells,Ug _ _ _ fun o=>by cases o<;>rfl]
|v::r,o,w=>by
  rw[World.setCells,yV b r]
  unfold World.setCell
  simp only[World.mk.injEq,and_self,and_true]
  exact OD _ _ _ _ _ fun o=>by cases o<;>rfl
theorem Uh{h:Array Go.Obj}{b:Nat}{C:Array Value}{T:TypeId}{fr:Nat×Nat}(hb:h[b]? =some (.cells C T fr))(F F':Array Value->Array Value)(e:F C=F' C):h.modify b (uO F)=h.modify b (uO F'):=by
 apply Array.ext
 ·simp
 intro i h1 h2
 simp only[Array.getElem_modify]
 split
 ·rename_i hi
  subst hi
  have:h[b]'(by simpa using h1)=.cells C T fr:=by
   rw[zR (by simpa using h1)]at hb;exact qR hb
  rw[this];simp only[uO,e]
 rfl
theorem YX{b:Nat}{C:Array Value}{T:TypeId}{fr:Nat×Nat}(hb:w.heap[b]? =some (.cells C T fr))(o1 o2 p1 p2:Nat)(x1 x2 y1 y2:List Value)(e:∀j:Nat,(V5 (V5 C o1 x1) o2 x2)[j]? =(V5 (V5 C p1 y1) p2 y2)[j]?):(w.setCells b o1 x1).setCells b o2 x2=(w.setCells b p1 y1).setCells b p2 y2:=by
 rw[yV b x2,yV b x1,yV b y2,yV b y1]
 simp only[World.mk.injEq,and_self,and_true]
 rw[OD _ _ _ _ (uO fun c=>V5 (V5 c o1 x1) o2 x2) fun o=>by cases o<;>rfl,OD _ _ _ _ (uO fun c=>V5 (V5 c p1 y1) p2 y2) fun o=>by cases o<;>rfl]
 exact Uh hb _ _ (JJ e)
theorem YY(w:World)(C:Array Value)(T:TypeId)(fr:Nat×Nat)(o:Nat)(xs:List Value):(w.alloc (.cells C T fr)).setCells w.heap.size o xs=w.alloc (.cells (V5 C o xs) T fr):=by
 rw[yV]
 unfold World.alloc
 simp only[World.mk.injEq,and_self,and_true]
 apply Array.ext
 ·simp
 intro i h1 h2
 simp only[Array.getElem_modify]
 split
 ·rename_i hi
  subst hi
  simp[uO]
 rename_i hi
 simp only[Array.size_modify,Array.size_push]at h1
 rw[Array.getElem_push_lt zO,Array.getElem_push_lt zO]
theorem HX{b:Nat}(h:(w.cell? (ad b i)).isSome=true):∃C T fr,w.heap[b]? =some (.cells C T fr)/\i<C.size:=by
 unfold World.cell? at h
 cases hb:w.heap[b]? with
|none=>simp[hb]at h
|some ob=>
  cases ob<;>simp only[hb]at h<;>try (cases h;done)
  rename_i C T fr
  refine⟨C,T,fr,rfl,?_⟩
  rcases Nat.lt_or_ge i C.size with h'|h'
  ·exact h'
  simp[DG h']at h
def U0(g:Nat->V)(i:Nat)(v:V):Nat->V:=fun k=>bif blt k i then g k else bif beq k i then v else g (k-1)
def hU(g:Nat->V)(i:Nat):Nat->V:=fun k=>bif blt k i then g k else g (k+1)
section
variable {z n:Nat} {g:Nat->V} {v:V}
theorem YZ(hi:i<=n)(h1:rep X (.ar z n g) [] 2 cs)(h2:rep X v [] 2 es)(hm:v.mem=true)(hl:es.length=z):rep X (.ar z (n+1) (U0 g i v)) [] 2 (cs.take (i*z)++es++cs.drop (i*z)):=by
 obtain⟨e1,e2⟩:=h1
 have lX:i*z<=n*z:=G2 _ hi
 have ht:(cs.take (i*z)).length=i*z:=by rw[F7];omega
 refine⟨by simp only[C6,K4,ht,hl,e1];rw[G7];omega,fun k hk=>?_⟩
 unfold U0
 rw[H9]
 by_cases dJ:k<i
 ·rw[dZ dJ]
  have h5:k*z+z<=i*z:=by have:=G2 z dJ;rw[G7]at this;exact this
  rw[qO zO,lG (by rw[K4];omega),List.drop_take,List.take_take,jU zO]
  exact e2 k zO
 rw[jL zO]
 simp only[cond_false]
 have h5:i*z<=k*z:=G2 _ zO
 rw[uZ,eK zO,Y5,ht]
 by_cases hke:k=i
 ·subst hke
  rw[P6]
  simp only[cond_true,bP,qM]
  rw[lG zO, <-hl,List.take_length]
  exact⟨h2,hm⟩
 rw[show beq k i=false by (cases hb:beq k i;rfl;exact absurd (A5 hb) hke)]
 simp only[cond_false]
 have h6:k*z=(k-1)*z+z:=by rw[<-G7];congr 1;omega
 have h7:i*z<=(k-1)*z:=G2 _ zO
 rw[uZ,eK zO,Y5,hl,List.drop_drop,show i*z+(k*z-i*z-z)=(k-1)*z by omega]
 exact e2 (k-1) zO
theorem Ui(hi:i<n)(h1:rep X (.ar z n g) [] 2 cs):rep X (.ar z (n-1) (hU g i)) [] 2 (cs.take (i*z)++cs.drop ((i+1)*z)):=by
 obtain⟨e1,e2⟩:=h1
 have lX:i*z+z<=n*z:=by have:=G2 z hi;rw[G7]at this;exact this
 have kJ:(i+1)*z=i*z+z:=G7 i z
 have hnz:(n-1)*z=n*z-z:=by rw[nN,qZ]
 have ht:(cs.take (i*z)).length=i*z:=by rw[F7];omega
 refine⟨by simp only[C6,K4,ht,e1];omega,fun k hk=>?_⟩
 unfold hU
 by_cases dJ:k<i
 ·rw[dZ dJ]
  have h5:k*z+z<=i*z:=by have:=G2 z dJ;rw[G7]at this;exact this
  rw[qO zO,lG (by rw[K4];omega),List.drop_take,List.take_take,jU zO]
  exact e2 k zO
 rw[jL zO]
 simp only[cond_false]
 have h5:i*z<=k*z:=G2 _ zO
 rw[uZ,eK zO,Y5,ht,List.drop_drop,show(i+1)*z+(k*z-i*z)=(k+1)*z by (have nS:(k+1)*z=k*z+z:=G7 k z;omega)]
 exact e2 (k+1) zO
theorem Wd.unh(H:Wd X0 X h lv c w0 w){h2:Nat->Nat->V}(hh:∀r j,h2 r j=h r j\/h2 r j=.un):Wd X0 X h2 lv c w0 w:={ H with rt:=fun r j b o N hr=>(by
 rcases hh r j with e|e
 ·rw[e];exact H.rt r j b o N hr
 rw[e];trivial)}
end
section
variable {ρ:Go.Shelf.Ren} {z:Nat} {zv:Value} {f:FuncId}
theorem InsL.ty(L:InsL P ρ z q zv):SlTy P (ρ.t 24) (ρ.t 9) z q:=⟨L.t24,by
 have:=L.i9
 cases hi:P.info? (ρ.t 9) with
|none=>rw[hi]at this;cases this
|some i=>
  rw[hi]at this
  simp only[X8,F2,G6]at this
  exact⟨i,zv,rfl,this.1,this.2.1,this.2.2,L.zs⟩⟩
def yW(P:Program)(ρ:Go.Shelf.Ren):Prop:=∀args w,(callFunc (ρ.f 29) args).run P w=((Extern.SlicesOverlaps.overlaps #[ρ.t 24,ρ.t 24] #[ρ.t 4] args).run P w).andThen fun v w'=>.ok (.value v) w'
theorem Uj(L:InsL P ρ z q zv)(hO:yW P ρ){vb vo b lb vc cb:Nat}(h1:(w.cell? (ad vb vo)).isSome=true)(h2:(w.cell? (ad b 0)).isSome=true)(hf:∀j,w.frozen? (ad b j)=false)(Y7:vb=b->¬ (vo<o+lb*z/\o<vo+z)):
  (callFunc (ρ.f 29) #[.slice (some ⟨vb,vo,none⟩) 1 vc,.slice (some ⟨b,o,none⟩) lb cb]).run P w=.ok (.value (.bool false)) w:=by
 obtain⟨C,T,fr,c1,c2⟩:=HX h1
 obtain⟨D,U,gr,d1,d2⟩:=HX h2
 have s1:w.shape? vb=some (T,C.size):=by simp[World.shape?, c1]
 have s2:w.shape? b=some (U,D.size):=by simp[World.shape?, d1]
 have hfo:w.frozen? ⟨b,o,none⟩=false:=hf o
 have hfe:w.frozen? ⟨b,D.size,none⟩=false:=hf _
 have nS:¬ C.size=0:=by omega
 have hk2:¬ D.size=0:=by omega
 rw[hO]
 have key:(Extern.SlicesOverlaps.overlaps #[ρ.t 24,ρ.t 24] #[ρ.t 4] #[.slice (some ⟨vb,vo,none⟩) 1 vc,.slice (some ⟨b,o,none⟩) lb cb]).run P w=.ok (.bool false) w:=by
  change Sem.run P (α:=Value) (do
   let some t:=(#[ρ.t 24,ρ.t 24]:Array TypeId)[0]?|stuck "slices.overlaps: no parameter types"
   let .slice elem <-underlying t|stuck "slices.overlaps: slice type expected"
   let size <-sizeOf elem
   match (some ⟨vb,vo,none⟩:Option Addr),(some ⟨b,o,none⟩:Option Addr) with
  |some a,some b=>
    if 1=0\/lb=0\/size=0 then pure (Value.bool false)
    else if a.block != b.block&&(<-frozen a)&&(<-frozen b) then unsupported .addressObserved
    else do
     if a.block != b.block then do
      noView a;noView b
      if <-mayBeOne a b then return Value.bool ((<-choose (.extern "sameAddr.stringBytes" 2))==1)
     pure (Value.bool (a.block==b.block&&a.off<b.off+lb*size&&b.off<a.off+1*size))
  |_,_=>pure (Value.bool false)) w=_
  have rX:=L.zp
  by_cases h0:lb=0
  ·simp[run_underlying L.t24,L.z9,h0]
  have rJ:¬ ((1:Nat)=0\/lb=0\/z=0):=by omega
  by_cases O3:vb=b
  ·subst O3
   have:=Y7 rfl
   simp[run_underlying L.t24,L.z9,rJ,frozen,Sem.run]
   intros
   omega
  have e1:(vb != b)=true:=by simpa using O3
  have e2:(vb==b)=false:=by simpa using O3
  cases hC:C.size with
  |zero=>omega
  |succ k=>
   cases hD:D.size with
  |zero=>omega
  |succ m=>
    rw[hC]at s1;rw[hD]at s2 hfe
    cases ha:w.frozen? ⟨vb,vo,none⟩<;>cases hae:w.frozen? ⟨vb,k+1,none⟩<;>
     simp[run_underlying L.t24,L.z9,rJ,e1,e2,frozen,noView,viewAt,mayBeOne,stringish,shape,Sem.run,s1,s2,hfo,hfe,ha,hae]
 rw[key];rfl
end
section
variable {ρ:Go.Shelf.Ren} {z:Nat} {zv:Value} {f:FuncId}
theorem OE{X':Cx}{G:Nat->V}(HW:Wd X0 X' h' lv' 17 w w')(hl:lv'=[16])(hh:h' 16 0=.ar z N G)(hr:rep X' (.os 16 z) lv' 17 [x]):
  ∃X' ho A0 out,(out=.os 16 z/\ho=[(16,.ar z N G)]/\A0=[16])/\repv X' A0 64 out x/\Wd X0 X' (S6 ho) A0 64 w w':=by
 subst hl
 refine⟨X',_,_,_,⟨rfl,rfl,rfl⟩,rep.mono (Cx.le.rfl' X' [16] 17) zO hr,(HW.up zO).unh fun r j=>?_⟩
 cases j with
|succ j=>exact .inr rfl
|zero=>
  show lk _ r=_\/lk _ r=_
  by_cases e:r=16
  ·subst e;exact .inl hh.symm
  right
  simp only[lk]
  rw[show beq r 16=false by (cases hb:beq r 16;rfl;exact absurd (A5 hb) e)];rfl
theorem Uk{A B C:List Value}(c:Array Value)(o:Nat)(hc:o+A.length+B.length<=c.size)(j:Nat)(hB:True:=trivial):(V5 (V5 c (o+A.length) B) o A)[j]? =(V5 c o (A++B))[j]? :=by
 simp only[CH,uN,C6]
 by_cases h1:o<=j/\j<o+A.length/\j<c.size
 ·rw[if_pos h1,if_pos zO,N5 zO]
 rw[if_neg h1]
 by_cases h2:o+A.length<=j/\j<o+A.length+B.length/\j<c.size
 ·rw[if_pos h2,if_pos zO,L7 zO];congr 1;omega
 rw[if_neg h2,if_neg zO]
theorem HY(L:InsL P ρ z q zv)(hF:uM P f (Body2.n22 ρ))(hO:yW P ρ)(n i:Nat)(g:Nat->V)(v:V)(hi:i<=n)(hm:v.mem=true)(hb:(n+1)*q<=140737488355328)(hq:0<q):
  SatHM P false f [.os 2 z,.i .i64 (i:Int),.sl 1 z 1 fun _=>v] [2] [(2,.ar z n g)] (fun out ho A0=>out=.os 16 z/\ho=[(16,.ar z (n+1) (U0 g i v))]/\A0=[16]):=by
 intro X w vs D7 aS H _
 match vs,D7 with
|[x0,x1,x2],_=>
 have r0:repv X [2] 16 (.os 2 z) x0:=aS 0 _ _ rfl rfl
 have r1:repv X [2] 16 (.i .i64 (i:Int)) x1:=aS 1 _ _ rfl rfl
 have r2:repv X [2] 16 (.sl 1 z 1 fun _=>v) x2:=aS 2 _ _ rfl rfl
 have rX:=L.zp
 have y7:bB (S6 [(2,V.ar z n g)]) 2 z=some n:=by
  unfold bB H7
  rw[show S6 [(2,V.ar z n g)] 2 0=.ar z n g from rfl]
  simp[V.row,V.mem]
 obtain⟨_,_,_,b,o,a,cap,e1,e2,e3,e4,eo,esp,e5⟩:=tL H r0 y7
 subst eo
 have e1x:x1=.int .i64 (i:Int):=(M0 r1).1
 have hR:RtR X [2] 16 w 2 0 b 0 (n*z) (.ar z n g):=H.rt 2 0 b 0 _ e1
 obtain⟨cs,c1,c2,c3,c4⟩:=hR
 obtain⟨_,av,vc,y1,y2,y3,_,y5,y6⟩:=r2
 have y1:x2=.slice av 1 vc:=by simpa using y1
 rcases y6 with⟨_,h0⟩|⟨vb,vo,rfl,hw,_⟩
 ·omega
 obtain⟨es,v1,v2,v3,v4⟩:=hw 0 zO
 rw[Nat.zero_mul,t8]at v4
 have es1:=r8 v3 v1
 have sA:=r8 (v:=.ar z n g) (lv:=[]) (c:=2) c2 c1
 have hvc:∀j u,es[j]? =some u->w.cell? (ad vb (vo+j))=some u:=fun j u hj=>H.cell (v4 j u hj) (es1 u (E3 hj))
 have J9:∀u,(∀x,u.cell? x=w.cell? x)->Src P z (ρ.t 24) x2 1 es u:=fun u hu=>by
  rw[y1]
  exact Src.ofSlice u L.t24 ⟨vb,vo,none⟩ 1 vc es (by rw[v2,qZ]) (fun j x hj=>by rw[Addr.add_lit,hu];exact hvc j x hj) es1
 have N2:n+1<=maxLen:=by
  have:n+1<=(n+1)*q:=vF _ hq
  have:maxLen=9223372036854775807:=rfl
  omega
 have wM:rep X (.ar z (n+1) (U0 g i v)) [] 2 (cs.take (i*z)++es++cs.drop (i*z)):=YZ hi c1 v1 hm v2
 have xP:∀(u:World),(∀x,u.cell? x=w.cell? x)->Wd (X.ent [2]) X (S6 [(2,V.ar z n g)]) [2] 16 w u->R4 X u 2 0 b 0 cs->∀(ty:TypeId) (V2:V),V2.mem=true->rep X V2 [] 2 (cs++es)->_:=fun u hu HU hL ty V2 fX aP=>
  FE (ty:=ty) (u:=ρ.t 24) (tx:=ρ.t 24) (y:=x2) (nm:=16) (r:=2) (n:=n) (m:=1) (cap:=cap) (a:=a) (v:=V2) HU (B2 16) zO rX c3 e3 e4 (e5.imp (fun⟨h0,h1⟩=>⟨h0,h1 (by simp)⟩) fun⟨h0,h1,h2⟩=>⟨b,0,rfl,h0,e1,hL,.inr ⟨h1,h2 (by simp)⟩⟩) L.ty (J9 u hu) esp hb N2 sA fX aP
 by_cases W3:i=n
 ·subst W3
  have hd:cs.take (i*z)++es++cs.drop (i*z)=cs++es:=by rw[V9 zO,eK zO,Z5]
  rw[hd]at wM
  obtain⟨a',M5,w',X',q1,q2,q3,q4,q5⟩:=xP w (fun _=>rfl) H c4 0 _ rfl wM
  rw[y1]at q1
  have key:=Ub L hF a i cap vb vo vc w w' _ (fun e=>by
   rcases e5 with⟨h,_⟩|⟨_,h,_⟩
   ·exact h
   rw[h]at e;cases e) e3 (fun ty=>q1)
  rw[e2,e1x,y1]
  exact x9 key fun e w2 ⟨h1,h2⟩=>⟨_,h1,by subst h2;exact OE q3 rfl (j8 _ _ _ _) q4⟩
 have hlt:i<n:=by omega
 have hn0:0<n:=by omega
 rcases e5 with⟨h0,_⟩|⟨_,rfl,P7⟩
 ·omega
 have P7:=P7 (by simp)
 have lX:i*z+z<=n*z:=by have:=G2 z hlt;rw[G7]at this;exact this
 have hn1:(n+1)*z=n*z+z:=G7 n z
 have kJ:(i+1)*z=i*z+z:=G7 i z
 have O9:∀j x,cs[j]? =some x->w.cell? (ad b (0+j))=some x:=fun j x hj=>(c4 j x hj).2.1
 have rM:=c4 0 _ (B6 zO)
 have vX:∀j,w.frozen? (ad b j)=false:=rM.2.2.2 rfl
 have hcell0:(w.cell? (ad b 0)).isSome=true:=by have:=rM.2.1;rw[J5]at this;rw[this];rfl
 have hvcell:(w.cell? (ad vb vo)).isSome=true:=by
  have:=hvc 0 _ (B6 zO);rw[t8]at this;rw[this];rfl
 by_cases j0:n+1<=cap
 ·have hcz:(n+1)*z<=cap*z:=G2 _ j0
  have hG:∀k,k<(n+1)*z->(∃r j k',X.G b k=.rt r j k')\/∃t,X.G b k=.tp t:=fun k hk=>by
   by_cases hk2:k<n*z
   ·have:=(c4 k _ (B6 zO)).1
    rw[J5]at this;exact .inl ⟨_,_,_,this⟩
   have:=P7 k zO zO
   rw[J5]at this;exact .inr ⟨_,this⟩
  have Y7:vb=b->∀j k,j<z->k<(n+1)*z->vo+j≠0+k:=fun e j k hj hk he=>by
   subst e
   have W5:=v4 j _ (B6 zO)
   rw[he,J5]at W5
   rcases hG k hk with⟨r,j',k',h⟩|⟨t,h⟩<;>rw[h]at W5<;>cases W5
  have gA:∀j,j<(n+1)*z->(w.cell? ⟨b,0+j,none⟩).isSome=true:=fun j hj=>by
   by_cases hj2:j<n*z
   ·rw[O9 j _ (B6 zO)];rfl
   exact(H.tp _ _ _ (P7 j zO zO)).1
  have hov:∀cb,(callFunc (ρ.f 29) #[.slice (some ⟨vb,vo,none⟩) 1 vc,.slice (some ⟨b,0+(i+1)*z,none⟩) (n-i) cb]).run P w=.ok (.value (.bool false)) w:=fun cb=>Uj L hO hvcell hcell0 vX fun e h=>by
   have hd:(n-i)*z=n*z-i*z:=nN n i z
   have h3:vo<(n+1)*z:=by omega
   exact Y7 e 0 vo zO h3 zO
  have key:=Ua L hF b 0 n cap i vb vo vc cs es w hlt j0 (by have:maxLen=9223372036854775807:=rfl;omega) c3 v2 O9 gA (fun j _=>vX _) hvc sA es1 Y7 hov
  obtain⟨a',M5,w1,X1,q1,q2,q3,q4,q5⟩:=xP w.drew (fun _=>rfl) H.drew c4 0 (.ar z (n+1) (U0 g n v)) rfl (by
   have:=YZ (B2 n) c1 v1 hm v2
   rwa [V9 zO,eK zO,Z5]at this)
  obtain⟨T3,zv',dE,hzv,K9,fS,eM⟩:=L.ty.row
  have hr:=run_append_room_src (P:=P) w.drew (ρ.t 24) (ρ.t 24) 0 (ρ.t 9) T3 L.t24 dE b 0 n cap x2 1 es (by rw[K9];exact J9 w.drew fun _=>rfl) j0 (fun j hj=>by rw[K9,J5];have:=gA (n*z+j) zO;rw[J5]at this;exact this) (fun j hj=>vX _)
  rw[K9]at hr
  rw[hr]at q1
  simp only[Result.ok.injEq,Value.slice.injEq]at q1
  obtain⟨⟨rfl,_,rfl⟩,rfl⟩:=q1
  obtain⟨_,_,b',n',p1,p2,_⟩:=q4
  obtain⟨a2,cap2,p3,p4,p5,p6,p7,p8⟩:=p2
  simp only[qP,Value.slice.injEq,and_true]at p3
  obtain⟨rfl,hn',rfl⟩:=p3
  subst hn'
  rcases p8 with⟨h0,_⟩|⟨b2,o2,p9,p10,p11⟩
  ·rcases h0 with h0|h0<;>cases h0
  simp only[F2,Addr.mk.injEq,and_true]at p9
  obtain⟨rfl,rfl⟩:=p9
  obtain⟨rfl,_⟩:=p10 zO
  have eP:=q3.rt 16 0 b 0 _ p1
  rw[j8]at eP
  obtain⟨ds,d1,d2,d3,d4⟩:=eP
  have hws:∀j x,(cs++es)[j]? =some x->ds[j]? =some x:=fun j x hj=>by
   have hlt2:=(N1.1 hj).1
   rw[C6]at hlt2
   have h1:=(d4 j _ (B6 zO)).2.1
   rw[B6 zO]
   rw[<-h1]
   show(w.drew.setCells b (0+n*z) es).cell? (ad b (0+j))=some x
   by_cases hjc:j<cs.length
   ·rw[N5 hjc]at hj
    rw[nM b es _ _ _ (fun _ _=>.inl (by show 0+j<0+n*z;omega))]
    exact O9 j x hj
   rw[L7 zO]at hj
   have:=zN b es (0+n*z) w.drew (fun k hk=>by have:=gA (n*z+k) zO;rw[<-O7]at this;exact this) (j-cs.length) zO
   rw[show 0+n*z+(j-cs.length)=0+j by omega]at this
   rw[this, <-hj,B6 zO]
  have hds:ds=cs++es:=by
   apply V7
   intro j
   by_cases hj:j<(cs++es).length
   ·rw[hws j _ (B6 hj),B6 hj]
   rw[V6 (by rw[C6]at hj;omega),V6 zO]
  subst hds
  have Y1:(cs.drop (i*z)).length=n*z-i*z:=by rw[K4,c3]
  have hins:ins (cs++es) (i*z) (es++cs.drop (i*z))=cs.take (i*z)++es++cs.drop (i*z):=by
   have B1:(cs++es).length<=i*z+(es++cs.drop (i*z)).length:=by simp only[C6,Y1];omega
   unfold ins
   rw[lG zO,eK B1,Z5,H9]
  have HS:=q3.store (off:=i*z) (xs:=es++cs.drop (i*z)) p1 d4 d3 (by simp only[C6,Y1];omega) (v:=.ar z (n+1) (U0 g i v)) rfl (by
   rw[hins]
   exact((wM.mono q2.nil (B2 2)).out (fun t ht=>(q3.lvc t ht).1) zO:rep X1 (.ar z (n+1) (U0 g i v)) _ 17 _))
  rw[e2,e1x,y1]
  refine x9 key fun e w2 ⟨h1,h2⟩=>⟨_,h1,?_⟩
  obtain⟨C,T,fr,k1,k2⟩:=HX (gA ((n+1)*z-1) zO)
  have hwe:w2=((w.drew.setCells b (0+n*z) es).setCells b (0+i*z) (es++cs.drop (i*z))):=by
   rw[h2]
   refine YX (w:=w.drew) k1 _ _ _ _ _ _ _ _ fun j=>?_
   have hp:=Uk (A:=es) (B:=cs.drop (i*z)) (C:=[]) C (0+i*z) (by rw[Y1];omega) j
   rw[show 0+i*z+es.length=0+(i+1)*z by omega]at hp
   rw[hp]
   simp only[CH,uN,C6,Y1]
   by_cases h3:0+i*z<=j/\j<0+i*z+(es.length+(n*z-i*z))/\j<C.size
   ·rw[if_pos h3,if_pos h3]
   rw[if_neg h3,if_neg h3,if_neg zO]
  rw[hwe]
  refine OE HS rfl (j8 _ _ _ _) ⟨zO,rX,b,n+1,p1,⟨_,cap,rfl,p4,p5,p6,p7,.inr ⟨b,0,rfl,p10,p11⟩⟩,fun h _=>by omega⟩
 have key:=Uc L hF b 0 n cap i vb vo vc cs es w hlt e3 zO hb hq c3 v2 O9 hvc sA es1
 rw[e2,e1x,y1]
 refine x9 key fun e w2 ⟨ROW,G,g1,g2,g3,g4,g5,g6⟩=>⟨_,g5,?_⟩
 have hGz:(n+1)*z<=G*z:=G2 _ g2
 have Y1:(cs.drop (i*z)).length=n*z-i*z:=by rw[K4,c3]
 have kG:w2=(w.drew.drew).alloc (.cells (V5 (V5 ROW (i*z) es) ((i+1)*z) (cs.drop (i*z))) (ρ.t 9)):=by
  rw[g6,show(w.alloc (.cells ROW (ρ.t 9))).drew=w.drew.alloc (.cells ROW (ρ.t 9)) from rfl]
  have h1:w.heap.size=w.drew.heap.size:=rfl
  rw[h1,YY w.drew ROW (ρ.t 9) (0,0),show((w.drew.alloc (.cells (V5 ROW (i*z) es) (ρ.t 9))).drew)=w.drew.drew.alloc (.cells (V5 ROW (i*z) es) (ρ.t 9)) from rfl]
  exact YY w.drew.drew _ (ρ.t 9) (0,0) _ _
 generalize hC:V5 (V5 ROW (i*z) es) ((i+1)*z) (cs.drop (i*z))=C at kG
 have rK:C.size=G*z:=by rw[<-hC,uN,uN,g1]
 have hCt:C.toList.take ((n+1)*z)=cs.take (i*z)++es++cs.drop (i*z):=by
  apply V7
  intro j
  have ht:(cs.take (i*z)).length=i*z:=by rw[F7];omega
  by_cases hj:j<(n+1)*z
  ·rw[eJ hj,vE, <-hC]
   simp only[CH,uN,Y1,g1]
   rw[H9]
   by_cases h1:j<i*z
   ·rw[if_neg zO,if_neg zO,N5 zO, <-g4,eJ h1,vE]
   rw[L7 zO,ht]
   by_cases h2:j<(i+1)*z
   ·rw[if_neg zO,if_pos zO,N5 zO]
   rw[if_pos zO,L7 zO,v2];congr 1;omega
  rw[V6 (by rw[F7];omega),V6 (by simp only[C6,ht,Y1];omega)]
 obtain⟨k1,k2,k3⟩:=H.drew.drew.newOwn (nm:=16) (B2 16) C (ρ.t 9) hGz (by rw[rK];exact B2 _) (v:=.ar z (n+1) (U0 g i v)) rfl (by rw[hCt];exact wM)
 have k4:=(k2.relv (lv':=[16]) (B2 17) (fun t ht _=>by simp at ht;subst ht;simp) (fun t ht=>by simp at ht;omega)).2
 rw[kG]
 have hws:w.drew.drew.heap.size=w.heap.size:=rfl
 refine OE (x:=.slice (some ⟨w.heap.size,0,none⟩) (n+1) G) (k4.unh (h2:=S6 [(16,.ar z (n+1) (U0 g i v))]) fun r j=>?_) rfl rfl ⟨zO,rX,w.heap.size,n+1,by simp only[Cx.ownS,and_self,if_true,hws],⟨_,G,rfl,g2,g3,zO,fun h=>by omega,.inr ⟨w.heap.size,0,rfl,fun _=>⟨rfl,rfl⟩,fun _ k hk i8=>?_⟩⟩,fun h _=>by omega⟩
 ·cases j with
 |succ j=>exact .inr rfl
 |zero=>
   by_cases e:r=16
   ·subst e;exact .inl (j8 _ _ _ _).symm
   right
   show lk _ r=_
   simp only[lk]
   rw[show beq r 16=false by (cases hb:beq r 16;rfl;exact absurd (A5 hb) e)];rfl
 simp only[Cx.ownS,hws,if_true,J5]
 rw[if_neg zO,if_pos i8]
end
def Cx.cutD(X:Cx)(nm b N n:Nat):Cx:=⟨fun b' i=>if b'=b/\i<n then (if i<N then .rt nm 0 i else .tp nm) else X.G b' i,fun r j=>if r=nm/\j=0 then some (b,0,N) else X.ρ r j,X.Φ,X.κ,X.ν,X.wr⟩
section
variable {ρ:Go.Shelf.Ren} {z:Nat} {zv:Value} {f:FuncId}
theorem ZA(L:InsL P ρ z q zv)(hF:uM P f (Body2.n24 ρ))(lvi:List Nat)(n i:Nat)(g:Nat->V)(hi:i<n):
  SatHM P false f [.os 2 z,.i .i64 (i:Int),.i .i64 ((i:Int)+1)] lvi [(2,.ar z n g)] (fun out ho A0=>out=.os 16 z/\ho=[(16,.ar z (n-1) (hU g i))]/\A0=[]):=by
 intro X w vs D7 aS H _
 match vs,D7 with
|[x0,x1,x2],_=>
 have r0:repv X lvi 16 (.os 2 z) x0:=aS 0 _ _ rfl rfl
 have r1:repv X lvi 16 (.i .i64 (i:Int)) x1:=aS 1 _ _ rfl rfl
 have r2:repv X lvi 16 (.i .i64 ((i:Int)+1)) x2:=aS 2 _ _ rfl rfl
 have rX:=L.zp
 have y7:bB (S6 [(2,V.ar z n g)]) 2 z=some n:=by
  unfold bB H7
  rw[show S6 [(2,V.ar z n g)] 2 0=.ar z n g from rfl]
  simp[V.row,V.mem]
 obtain⟨_,_,_,b,o,a,cap,e1,e2,e3,e4,eo,esp,e5⟩:=tL H r0 y7
 subst eo
 have e1x:x1=.int .i64 (i:Int):=(M0 r1).1
 have e2x:x2=.int .i64 ((i:Int)+1):=(M0 r2).1
 have hR:RtR X lvi 16 w 2 0 b 0 (n*z) (.ar z n g):=H.rt 2 0 b 0 _ e1
 obtain⟨cs,c1,c2,c3,c4⟩:=hR
 rcases e5 with⟨h0,_⟩|⟨hn0,rfl,_⟩
 ·omega
 have sA:=r8 (v:=.ar z n g) (lv:=[]) (c:=2) c2 c1
 have O9:∀j x,cs[j]? =some x->w.cell? (ad b (0+j))=some x:=fun j x hj=>(c4 j x hj).2.1
 have lX:i*z+z<=n*z:=by have:=G2 z hi;rw[G7]at this;exact this
 have kJ:(i+1)*z=i*z+z:=G7 i z
 have hnz:(n-1)*z=n*z-z:=by rw[nN,qZ]
 have vX:∀j,w.frozen? (ad b j)=false:=(c4 0 _ (B6 zO)).2.2.2 rfl
 have key:=Uf L hF b 0 n cap i cs w hi e3 (by have:maxLen=9223372036854775807:=rfl;omega) c3 O9 (fun j _=>vX _) sA
 rw[e2,e1x,e2x]
 refine x9 key fun e w2 ⟨h1,h2⟩=>⟨_,h1,?_⟩
 have Y1:(cs.drop ((i+1)*z)).length=n*z-(i+1)*z:=by rw[K4,c3]
 have rU:zv.cells.toList.length=z:=by rw[u6,L.zs]
 obtain⟨C,T,fr,k1,k2⟩:=HX (show(w.cell? (ad b (n*z-1))).isSome=true by
  have:=O9 (n*z-1) _ (B6 zO)
  rw[J5]at this;rw[this];rfl)
 have kG:w2=w.drew.setCells b (0+i*z) (cs.drop ((i+1)*z)++zv.cells.toList):=by
  have:w.drew.setCells b (0+i*z) (cs.drop ((i+1)*z)++zv.cells.toList)=(w.drew.setCells b (0+i*z) (cs.drop ((i+1)*z)++zv.cells.toList)).setCells b 0 []:=rfl
  rw[h2,this]
  refine YX (w:=w.drew) k1 _ _ _ _ _ _ _ _ fun j=>?_
  simp only[CH,uN,C6,M3,Y1,rU]
  by_cases h3:0+(n-1)*z<=j/\j<0+(n-1)*z+z/\j<C.size
  ·rw[if_pos h3,if_neg zO,if_pos zO,L7 zO];congr 1;omega
  rw[if_neg h3,if_neg (show ¬ (0<=j/\j<0+0/\j<C.size) by omega)]
  by_cases h4:0+i*z<=j/\j<0+i*z+(n*z-(i+1)*z)/\j<C.size
  ·rw[if_pos h4,if_pos zO,N5 zO]
  rw[if_neg h4,if_neg zO]
 have hinl:(ins cs (i*z) (cs.drop ((i+1)*z)++zv.cells.toList)).length=n*z:=by rw[o9 (by simp only[C6,Y1,rU];omega),c3]
 have HS:=H.drew.store (off:=i*z) (xs:=cs.drop ((i+1)*z)++zv.cells.toList) e1 c4 c3 (by simp only[C6,Y1,rU];omega) (v:=.uk (n*z)) rfl ⟨hinl,fun x hx=>by
  unfold ins at hx
  rcases S3.1 hx with hx|hx
  ·rcases S3.1 hx with hx|hx
   ·exact sA x (List.mem_of_mem_take hx)
   rcases S3.1 hx with hx|hx
   ·exact sA x (JK hx)
   exact L.zo x hx
  exact sA x (JK hx)⟩
 rw[<-kG]at HS
 have hR2:=HS.rt 2 0 b 0 _ e1
 rw[j8]at hR2
 obtain⟨ds,d1,d2,d3,d4⟩:=hR2
 have dD:∀j x,(ins cs (i*z) (cs.drop ((i+1)*z)++zv.cells.toList))[j]? =some x->w2.cell? (ad b (0+j))=some x:=fun j x hj=>by
  have hjl:=(N1.1 hj).1
  have hins:∀m,m<(cs.drop ((i+1)*z)++zv.cells.toList).length->(w.drew.cell? ⟨b,0+i*z+m,none⟩).isSome=true:=fun m hm=>by
   simp only[C6,Y1,rU]at hm
   have:=O9 (i*z+m) _ (B6 zO)
   rw[O7];show(w.cell? _).isSome=true;rw[this];rfl
  rw[kG]
  unfold ins at hj
  have ht:(cs.take (i*z)).length=i*z:=by rw[F7];omega
  have hdn:cs.drop (i*z+(cs.drop ((i+1)*z)++zv.cells.toList).length)=[]:=eK (by simp only[C6,Y1,rU];omega)
  rw[hdn,Z5]at hj
  by_cases h3:j<i*z
  ·rw[N5 zO,eJ h3]at hj
   rw[nM b _ _ _ _ (fun _ _=>.inl (by show 0+j<0+i*z;omega))]
   exact O9 j x hj
  rw[L7 zO,ht]at hj
  have wD:=(N1.1 hj).1
  have:=zN b (cs.drop ((i+1)*z)++zv.cells.toList) (0+i*z) w.drew hins (j-i*z) wD
  rw[show 0+i*z+(j-i*z)=0+j by omega]at this
  rw[this, <-hj,B6 wD]
 have wM:=Ui hi c1
 have hlr:(cs.take (i*z)++cs.drop ((i+1)*z)).length=(n-1)*z:=wM.1
 have vQ:∀j x,(cs.take (i*z)++cs.drop ((i+1)*z))[j]? =some x->w2.cell? (ad b (0+j))=some x:=fun j x hj=>dD j x (by
  have hjl:=(N1.1 hj).1
  unfold ins
  have hdn:cs.drop (i*z+(cs.drop ((i+1)*z)++zv.cells.toList).length)=[]:=eK (by simp only[C6,Y1,rU];omega)
  rw[hdn,Z5, <-H9,N5 hjl];exact hj)
 have hG2:∀k,k<n*z->X.G b k=.rt 2 0 k/\(w2.cell? (ad b k)).isSome=true/\FrN w2 b k:=fun k hk=>by
  obtain⟨g1,g2,g3⟩:=d4 k _ (B6 zO)
  rw[J5]at g1 g2 g3
  exact⟨g1,by rw[g2];rfl,g3⟩
 have hR:∀r' j p,(X.cutD 16 b ((n-1)*z) (n*z)).ρ r' j=some p->X.ρ r' j=some p\/(r'=16/\j=0):=fun r' j p h=>by
  simp only[Cx.cutD]at h
  split at h
  ·right;assumption
  exact .inl h
 have iO:∀r' j p,X.ρ r' j=some p->(X.cutD 16 b ((n-1)*z) (n*z)).ρ r' j=some p:=fun r' j p h=>by
  simp only[Cx.cutD]
  rw[if_neg (fun e=>by have:=HS.ρc _ _ _ h;omega)];exact h
 obtain⟨B1,HW⟩:=HS.regh (X':=X.cutD 16 b ((n-1)*z) (n*z)) (h':=D9 (D9 (D9 (S6 [(2,V.ar z n g)]) 2 0 (.uk (n*z))) 2 0 .un) 16 0 (.ar z (n-1) (hU g i))) (lv':=[]) (c':=17) (r:=2) (nm:=16) (B2 16) zO (fun b' k=>by
  simp only[Cx.cutD]
  by_cases hc:b'=b/\k<n*z
  ·obtain⟨rfl,hk⟩:=hc
   obtain⟨g1,g2,g3⟩:=hG2 k hk
   refine .inr ⟨.inr (.inl ⟨k,g1⟩),?_⟩
   rw[if_pos ⟨rfl,hk⟩]
   by_cases h3:k<(n-1)*z
   ·rw[if_pos h3];exact .inr ⟨k,rfl⟩
   rw[if_neg h3];exact .inl ⟨rfl,g2,g3.1⟩
  rw[if_neg hc];exact .inl rfl) hR iO AS (AT zO) (fun t ht=>by simp at ht) (fun b' o' N B1 hp=>by
  rw[j8]
  simp only[Cx.cutD,and_self,if_true,F2,G6]at hp
  obtain⟨rfl,rfl,rfl⟩:=hp
  refine dU rfl ((wM.mono B1.nil (B2 2)).out (fun t ht=>by simp at ht) zO) hlr fun k x hk=>?_
  have hkl:=(N1.1 hk).1
  rw[hlr]at hkl
  obtain⟨g1,g2,g3⟩:=hG2 k zO
  refine⟨by simp only[Cx.cutD,J5];rw[if_pos ⟨zT,zO⟩,if_pos hkl],vQ k x hk,by rw[J5];exact g3⟩)
 refine⟨_,_,_,_,⟨rfl,rfl,rfl⟩,rep.mono (v:=.os 16 z) (Cx.le.rfl' _ [] 17) (by omega:17<=64) ⟨zO,rX,b,n-1,by simp only[Cx.cutD,and_self,if_true],⟨_,cap,rfl,zO,e4,zO,fun h=>by omega,.inr ⟨b,0,rfl,fun _=>⟨rfl,rfl⟩,fun h=>by simp at h⟩⟩,fun _ h=>by simp at h⟩,(HW.up zO).unh fun r j=>?_⟩
 cases j with
|succ j=>exact .inr rfl
|zero=>
  show lk _ r=_\/lk _ r=_
  by_cases e:r=16
  ·subst e;exact .inl (j8 _ _ _ _).symm
  right
  simp only[lk]
  rw[show beq r 16=false by (cases hb:beq r 16;rfl;exact absurd (A5 hb) e)];rfl
end
def ρi(tS tE fo fr:Nat):Go.Shelf.Ren:=⟨fun f=>bif beq f 29 then fo else bif beq f 30 then fr else f,fun t=>bif beq t 24 then tS else bif beq t 9 then tE else t,fun g=>g⟩
noncomputable def qI (P:Program) (t:Nat):Value:=((P.info? t).bind (·.zero)).getD undef
theorem ZB:InsL Tryz.prog (ρi 75 113 158 159) 33 56 (qI Tryz.prog 113) where
 mixed:=by kernel_rfl
 t0:=by kernel_rfl
 t3:=by kernel_rfl
 t4:=by kernel_rfl
 t24:=by kernel_rfl
 i9:=by kernel_rfl
 zs:=by kernel_rfl
 a0:=fun w=>by kernel_rfl
 z0:=fun w=>by kernel_rfl
 v0:=fun w=>by kernel_rfl
 a3:=fun w=>by kernel_rfl
 z3:=fun w=>by kernel_rfl
 v3:=fun w=>by kernel_rfl
 a4:=fun w=>by kernel_rfl
 z4:=fun w=>by kernel_rfl
 v4:=fun w=>by kernel_rfl
 z9:=fun w=>by kernel_rfl
 a24:=fun w=>by kernel_rfl
 z24:=fun w=>by kernel_rfl
 v24:=fun w=>by kernel_rfl
 zp:=by decide
 zo:=fun v hv=>P5.1 (show((qI Tryz.prog 113).cells.toList.all fun v=>v.oneCell')=true by kernel_rfl) v hv
theorem Ul:yW Tryz.prog (ρi 75 113 158 159):=fun args w=>run_callFunc_extern Tryz.func158 zK zK zK (e:=Extern.SlicesOverlaps.overlaps #[75,75] #[4]) zK args w
theorem OF(n i:Nat)(g:Nat->V)(v:V)(hi:i<=n)(hn:n<=1000000000)(hm:v.mem=true):SatHM Tryz.prog false 115 [.os 2 33,.i .i64 (i:Int),.sl 1 33 1 fun _=>v] [2] [(2,.ar 33 n g)] (fun out ho A0=>out=.os 16 33/\ho=[(16,.ar 33 (n+1) (U0 g i v))]/\A0=[16]):=HY ZB ⟨Tryz.f115,Tryz.func115,by kernel_rfl,by kernel_rfl,by kernel_rfl⟩ Ul n i g v hi hm zO (by decide)
theorem Um(lvi:List Nat)(n i:Nat)(g:Nat->V)(hi:i<n):SatHM Tryz.prog false 135 [.os 2 33,.i .i64 (i:Int),.i .i64 ((i:Int)+1)] lvi [(2,.ar 33 n g)] (fun out ho A0=>out=.os 16 33/\ho=[(16,.ar 33 (n-1) (hU g i))]/\A0=[]):=ZA ZB ⟨Tryz.f135,Tryz.func135,by kernel_rfl,by kernel_rfl,by kernel_rfl⟩ lvi n i g hi
theorem ZC:InsL Tryz.prog (ρi 77 131 175 176) 33 40 (qI Tryz.prog 131) where
 mixed:=by kernel_rfl
 t0:=by kernel_rfl
 t3:=by kernel_rfl
 t4:=by kernel_rfl
 t24:=by kernel_rfl
 i9:=by kernel_rfl
 zs:=by kernel_rfl
 a0:=fun w=>by kernel_rfl
 z0:=fun w=>by kernel_rfl
 v0:=fun w=>by kernel_rfl
 a3:=fun w=>by kernel_rfl
 z3:=fun w=>by kernel_rfl
 v3:=fun w=>by kernel_rfl
 a4:=fun w=>by kernel_rfl
 z4:=fun w=>by kernel_rfl
 v4:=fun w=>by kernel_rfl
 z9:=fun w=>by kernel_rfl
 a24:=fun w=>by kernel_rfl
 z24:=fun w=>by kernel_rfl
 v24:=fun w=>by kernel_rfl
 zp:=by decide
 zo:=fun v hv=>P5.1 (show((qI Tryz.prog 131).cells.toList.all fun v=>v.oneCell')=true by kernel_rfl) v hv
theorem Un:yW Tryz.prog (ρi 77 131 175 176):=fun args w=>run_callFunc_extern Tryz.func175 zK zK zK (e:=Extern.SlicesOverlaps.overlaps #[77,77] #[4]) zK args w
theorem OG(n i:Nat)(g:Nat->V)(v:V)(hi:i<=n)(hn:n<=1000000000)(hm:v.mem=true):SatHM Tryz.prog false 133 [.os 2 33,.i .i64 (i:Int),.sl 1 33 1 fun _=>v] [2] [(2,.ar 33 n g)] (fun out ho A0=>out=.os 16 33/\ho=[(16,.ar 33 (n+1) (U0 g i v))]/\A0=[16]):=HY ZC ⟨Tryz.f133,Tryz.func133,by kernel_rfl,by kernel_rfl,by kernel_rfl⟩ Un n i g v hi hm zO (by decide)
theorem Uo(lvi:List Nat)(n i:Nat)(g:Nat->V)(hi:i<n):SatHM Tryz.prog false 157 [.os 2 33,.i .i64 (i:Int),.i .i64 ((i:Int)+1)] lvi [(2,.ar 33 n g)] (fun out ho A0=>out=.os 16 33/\ho=[(16,.ar 33 (n-1) (hU g i))]/\A0=[]):=ZA ZC ⟨Tryz.f157,Tryz.func157,by kernel_rfl,by kernel_rfl,by kernel_rfl⟩ lvi n i g hi
theorem Up:InsL Tryz.prog (ρi 38 79 167 168) 38 136 (qI Tryz.prog 79) where
 mixed:=by kernel_rfl
 t0:=by kernel_rfl
 t3:=by kernel_rfl
 t4:=by kernel_rfl
 t24:=by kernel_rfl
 i9:=by kernel_rfl
 zs:=by kernel_rfl
 a0:=fun w=>by kernel_rfl
 z0:=fun w=>by kernel_rfl
 v0:=fun w=>by kernel_rfl
 a3:=fun w=>by kernel_rfl
 z3:=fun w=>by kernel_rfl
 v3:=fun w=>by kernel_rfl
 a4:=fun w=>by kernel_rfl
 z4:=fun w=>by kernel_rfl
 v4:=fun w=>by kernel_rfl
 z9:=fun w=>by kernel_rfl
 a24:=fun w=>by kernel_rfl
 z24:=fun w=>by kernel_rfl
 v24:=fun w=>by kernel_rfl
 zp:=by decide
 zo:=fun v hv=>P5.1 (show((qI Tryz.prog 79).cells.toList.all fun v=>v.oneCell')=true by kernel_rfl) v hv
theorem Uq:yW Tryz.prog (ρi 38 79 167 168):=fun args w=>run_callFunc_extern Tryz.func167 zK zK zK (e:=Extern.SlicesOverlaps.overlaps #[38,38] #[4]) zK args w
theorem HZ(n i:Nat)(g:Nat->V)(v:V)(hi:i<=n)(hn:n<=1000000000)(hm:v.mem=true):SatHM Tryz.prog false 127 [.os 2 38,.i .i64 (i:Int),.sl 1 38 1 fun _=>v] [2] [(2,.ar 38 n g)] (fun out ho A0=>out=.os 16 38/\ho=[(16,.ar 38 (n+1) (U0 g i v))]/\A0=[16]):=HY Up ⟨Tryz.f127,Tryz.func127,by kernel_rfl,by kernel_rfl,by kernel_rfl⟩ Uq n i g v hi hm zO (by decide)
theorem Ur:InsL Tryz.prog (ρi 39 37 169 170) 1 8 (qI Tryz.prog 37) where
 mixed:=by kernel_rfl
 t0:=by kernel_rfl
 t3:=by kernel_rfl
 t4:=by kernel_rfl
 t24:=by kernel_rfl
 i9:=by kernel_rfl
 zs:=by kernel_rfl
 a0:=fun w=>by kernel_rfl
 z0:=fun w=>by kernel_rfl
 v0:=fun w=>by kernel_rfl
 a3:=fun w=>by kernel_rfl
 z3:=fun w=>by kernel_rfl
 v3:=fun w=>by kernel_rfl
 a4:=fun w=>by kernel_rfl
 z4:=fun w=>by kernel_rfl
 v4:=fun w=>by kernel_rfl
 z9:=fun w=>by kernel_rfl
 a24:=fun w=>by kernel_rfl
 z24:=fun w=>by kernel_rfl
 v24:=fun w=>by kernel_rfl
 zp:=by decide
 zo:=fun v hv=>P5.1 (show((qI Tryz.prog 37).cells.toList.all fun v=>v.oneCell')=true by kernel_rfl) v hv
theorem Us:yW Tryz.prog (ρi 39 37 169 170):=fun args w=>run_callFunc_extern Tryz.func169 zK zK zK (e:=Extern.SlicesOverlaps.overlaps #[39,39] #[4]) zK args w
theorem IA(n i:Nat)(g:Nat->V)(v:V)(hi:i<=n)(hn:n<=1000000000)(hm:v.mem=true):SatHM Tryz.prog false 129 [.os 2 1,.i .i64 (i:Int),.sl 1 1 1 fun _=>v] [2] [(2,.ar 1 n g)] (fun out ho A0=>out=.os 16 1/\ho=[(16,.ar 1 (n+1) (U0 g i v))]/\A0=[16]):=HY Ur ⟨Tryz.f129,Tryz.func129,by kernel_rfl,by kernel_rfl,by kernel_rfl⟩ Us n i g v hi hm zO (by decide)
structure It where
 name:List UInt8
 kind:Int
 of:A6
 size:Int
deriving DecidableEq
def It.num(x:It):Prop:=(0<=x.kind/\x.kind<256)/\0<=x.size
section
structure Ob where
 of:A6
 data:Sl
structure RO where
 data:Sl
 hit:Bool
def Z3(l:List Ob)(k:A6):Option Sl:=(l.find? fun o=>o.of=k).map (·.data)
theorem yX{l:List Ob}{k:A6}{s:Sl}(h:Z3 l k=some s):∃o∈l,o.of=k/\o.data=s:=by
 rw[Z3]at h
 cases hf:l.find? fun o=>o.of=k with
|none=>rw[hf]at h;cases h
|some o=>
  rw[hf]at h
  have h2:=List.find?_some hf
  simp only[decide_eq_true_eq]at h2
  exact⟨o,List.mem_of_find?_eq_some hf,h2,qR h⟩
theorem ZD(l:List Ob)(o:Ob)(k:A6):Z3 (l++[o]) k=if (Z3 l k).isSome then Z3 l k else if k=o.of then some o.data else none:=by
 rw[Z3,Z3,List.find?_append]
 cases hf:l.find? fun o=>o.of=k with
|some x=>rfl
|none=>
  simp only[Option.none_or,Option.map_none,Option.isSome_none,zM,if_false,List.find?_cons,List.find?_nil]
  by_cases h:o.of=k
  ·simp[h]
  have:k≠o.of:=fun e=>h e.symm
  simp[h,this]
def cW(l:List Ob)(k:A6):Option RO:=(Z3 l k).map fun s=>⟨s,false⟩
theorem ZE(l:List Ob)(k:A6):(cW l k).isSome=(Z3 l k).isSome:=by rw[cW];cases Z3 l k<;>rfl
variable {l:List Ob} {F:A6->Option RO}
def FD(l:List Ob)(F:A6->Option RO):Prop:=∀k,(F k).map (·.data)=Z3 l k
theorem IB(h:FD l F){k:A6}{v:RO}(hv:F k=some v):Z3 l k=some v.data:=by rw[<-h k,hv];rfl
theorem FD.start:FD l (cW l):=fun k=>by rw[cW];cases Z3 l k<;>rfl
theorem FD.hit{x:A6}{v:RO}(h:FD l F)(hv:F x=some v):FD l (bH F x ⟨v.data,true⟩):=fun k=>by
 rw[bH]
 by_cases e:k=x
 ·rw[if_pos e,e,IB h hv];rfl
 rw[if_neg e];exact h k
def eF(F:A6->Option RO)(o:Ob):Bool:=match F o.of with|some v=> !v.hit|none=>false
def unh(l:List Ob)(F:A6->Option RO):Nat:=(l.filter (eF F)).length
theorem Ut{x:A6}{v:RO}(h:FD l F)(hv:F x=some v)(hh:v.hit=false):unh l (bH F x ⟨v.data,true⟩)<unh l F:=by
 obtain⟨o,ho,e1,_⟩:=yX (IB h hv)
 have:∀m:List Ob,(m.filter (eF (bH F x ⟨v.data,true⟩))).length<=(m.filter (eF F)).length/\(o∈m->(m.filter (eF (bH F x ⟨v.data,true⟩))).length<(m.filter (eF F)).length):=by
  intro m
  induction m with
 |nil=>exact⟨B2 _,fun h=>(by cases h)⟩
 |cons y m ih=>
   by_cases e:y.of=x
   ·have a1:eF (bH F x ⟨v.data,true⟩) y=false:=by rw[eF,bH,if_pos e];rfl
    have a2:eF F y=true:=by rw[eF,e,hv];simp[hh]
    rw[PL (by rw[a1];simp),PM a2,G8]
    exact⟨zO,fun _=>by omega⟩
   have a1:eF (bH F x ⟨v.data,true⟩) y=eF F y:=by rw[eF,bH,if_neg e];rfl
   have hoy:o∈y::m->o∈m:=fun h=>by
    rcases K8.1 h with h|h
    ·rw[<-h]at e;exact absurd e1 e
    exact h
   by_cases hb:eF F y=true
   ·rw[PM (by rw[a1];exact hb),PM hb,G8,G8]
    exact⟨zO,fun h=>by have:=ih.2 (hoy h);omega⟩
   rw[PL (by rw[a1];exact hb),PL hb]
   exact⟨ih.1,fun h=>ih.2 (hoy h)⟩
 exact(this l).2 ho
end
section
open Go Go.Shelf
def Tryz.sortA_ren:Go.Shelf.Ren:=⟨fun|6=>188|15=>208|14=>207|28=>229|29=>230|20=>221|21=>222|22=>223|23=>224|24=>225|25=>226|26=>227|27=>228|46=>236|47=>237|48=>238|49=>239|50=>240|57=>244|n=>n,fun|22=>181|24=>36|25=>219|3=>3|39=>172|0=>0|53=>247|55=>37|4=>4|46=>292|45=>291|50=>135|5=>5|9=>9|66=>302|70=>306|76=>309|77=>310|n=>n,fun|n=>n⟩
theorem Tryz.sortA:Go.Proofs.SlLaysF0.n6 Tryz.prog Tryz.sortA_ren:={
 mixed:=by kernel_rfl
 f6:=⟨Tryz.f188.name,by decide,Tryz.func188.trans (congrArg some zK)⟩
 f14:=⟨Tryz.f207.name,by decide,Tryz.func207.trans (congrArg some zK)⟩
 f15:=Tryz.func208.trans (congrArg some zK)
 f20:=⟨Tryz.f221.name,by decide,Tryz.func221.trans (congrArg some zK)⟩
 f21:=⟨Tryz.f222.name,by decide,Tryz.func222.trans (congrArg some zK)⟩
 f22:=⟨Tryz.f223.name,by decide,Tryz.func223.trans (congrArg some zK)⟩
 f23:=⟨Tryz.f224.name,by decide,Tryz.func224.trans (congrArg some zK)⟩
 f24:=⟨Tryz.f225.name,by decide,Tryz.func225.trans (congrArg some zK)⟩
 f25:=⟨Tryz.f226.name,by decide,Tryz.func226.trans (congrArg some zK)⟩
 f26:=⟨Tryz.f227.name,by decide,Tryz.func227.trans (congrArg some zK)⟩
 f27:=⟨Tryz.f228.name,by decide,Tryz.func228.trans (congrArg some zK)⟩
 f28:=Tryz.func229.trans (congrArg some zK)
 f29:=Tryz.func230.trans (congrArg some zK)
 f46:=⟨Tryz.f236.name,by decide,Tryz.func236.trans (congrArg some zK)⟩
 f47:=Tryz.func237.trans (congrArg some zK)
 f48:=Tryz.func238.trans (congrArg some zK)
 f49:=⟨Tryz.f239.name,by decide,Tryz.func239.trans (congrArg some zK)⟩
 f50:=⟨Tryz.f240.name,by decide,Tryz.func240.trans (congrArg some zK)⟩
 f57:=⟨Tryz.f244.name,by decide,Tryz.func244.trans (congrArg some zK)⟩
 t0:=Tryz.underlying0
 a0:=Tryz.isAgg0
 z0:=Tryz.sizeOf0
 v0:=Tryz.zeroValue0
 t3:=Tryz.underlying3
 a3:=Tryz.isAgg3
 z3:=Tryz.sizeOf3
 v3:=Tryz.zeroValue3
 t4:=Tryz.underlying4
 a4:=Tryz.isAgg4
 z4:=Tryz.sizeOf4
 v4:=Tryz.zeroValue4
 t5:=Tryz.underlying5
 a5:=Tryz.isAgg5
 z5:=Tryz.sizeOf5
 v5:=Tryz.zeroValue5
 t9:=Tryz.underlying9
 a9:=Tryz.isAgg9
 z9:=Tryz.sizeOf9
 v9:=Tryz.zeroValue9
 t22:=Tryz.underlying181
 a22:=Tryz.isAgg181
 z22:=Tryz.sizeOf181
 v22:=Tryz.zeroValue181
 t25:=Tryz.underlying219
 a25:=Tryz.isAgg219
 z25:=Tryz.sizeOf219
 v25:=Tryz.zeroValue219
 t39:=Tryz.underlying172
 a39:=Tryz.isAgg172
 z39:=Tryz.sizeOf172
 v39:=Tryz.zeroValue172
 t45:=Tryz.underlying291
 a45:=Tryz.isAgg291
 z45:=Tryz.sizeOf291
 v45:=Tryz.zeroValue291
 t46:=Tryz.underlying292
 a46:=Tryz.isAgg292
 z46:=Tryz.sizeOf292
 v46:=Tryz.zeroValue292
 t50:=Tryz.underlying135
 a50:=Tryz.isAgg135
 z50:=Tryz.sizeOf135
 v50:=Tryz.zeroValue135
 t53:=Tryz.underlying247
 a53:=Tryz.isAgg247
 z53:=Tryz.sizeOf247
 v53:=Tryz.zeroValue247
 t55:=Tryz.underlying37
 a55:=Tryz.isAgg37
 z55:=Tryz.sizeOf37
 v55:=Tryz.zeroValue37
 t66:=Tryz.underlying302
 a66:=Tryz.isAgg302
 z66:=Tryz.sizeOf302
 v66:=Tryz.zeroValue302
 t70:=Tryz.underlying306
 a70:=Tryz.isAgg306
 z70:=Tryz.sizeOf306
 v70:=Tryz.zeroValue306
 t76:=Tryz.underlying309
 a76:=Tryz.isAgg309
 z76:=Tryz.sizeOf309
 v76:=Tryz.zeroValue309
 t77:=Tryz.underlying310
 a77:=Tryz.isAgg310
 z77:=Tryz.sizeOf310
 v77:=Tryz.zeroValue310}
end
section
open Go Go.MapKept
def kA(x:A6):Value:=.agg (x.1.map V8).toArray
theorem Uu(e:Bool)(l:List UInt8)(hl:l.length=32)(w:World)(n:Nat):(Instr.checkKey e (n+2) 36 (.agg (l.map V8).toArray)).run Tryz.prog w=.ok () w:=by
 obtain⟨i,hi⟩:∃i,Tryz.prog.info? 5=some i:=info_of_underlying (by kernel_rfl:Tryz.prog.underlying 5=some (.int .u8))
 have hs:Tryz.prog.cellsOf 5=1:=by kernel_rfl
 rw[show n+2=(n+1)+1 from rfl,Instr.checkKey]
 simp only[D0,run_underlying (by kernel_rfl:Tryz.prog.underlying 36=some (.array 32 5)),F6]
 simp only[Std.Legacy.Range.forIn_eq_forIn_range',Std.Legacy.Range.size,qT,Nat.add_one_sub_one,Nat.div_one]
 have wH:∀j∈List.range' 0 32,j<32:=by intro j hj;simpa using hj
 generalize List.range' 0 32=is at wH
 induction is with
|nil=>simp
|cons j is ih=>
  have hj:=wH j (by simp)
  have p1:(part 5 (l.map V8).toArray (j*Tryz.prog.cellsOf 5)).run Tryz.prog w=.ok (V8 (l.getD j 0)) w:=by
   rw[hs,l5]
   exact Sk zK (by rw[fQ,Sl.get l j zO])
  have p2:(Instr.checkKey e (n+1) 5 (V8 (l.getD j 0))).run Tryz.prog w=.ok () w:=run_checkKey (d:=.int .u8) zK (by simp[IsKey]) e n
  simp only[List.forIn_cons,D0,run_sizeOf w hi,F6,p1,p2,iE]
  exact ih (fun y hy=>wH y (by simp[hy]))
theorem Uv(p q:A6)(w:World):(Op.equal 36 (kA p) (kA q)).run Tryz.prog w=.ok (decide (p=q)) w:=by
 have h:=Sm (P:=Tryz.prog) (t:=36) (m:=32) zK (e:=5) zK zK 9998 p.1 q.1 p.2 q.2 (w:=w)
 have e:decide (p.1=q.1)=decide (p=q):=by
  rw[vA]
  simp only[decide_eq_true_eq]
  exact⟨fun h=>Subtype.ext h,fun h=>by rw[h]⟩
 rw[<-e]
 exact h
theorem Uw(p:A6):Instr.sameBits 10000 (kA p) (kA p)=true:=by
 show Instr.sameBits (9999+1) (.agg _) (.agg _)=true
 simp only[Instr.sameBits,beq_self_eq_true,Bool.true_and,P5]
 intro x hx
 obtain⟨i,hi,e⟩:=JG hx
 rw[List.getElem_zip]at e
 rw[<-e]
 have hm:=eG (l:=p.1.map V8) (n:=i) (by simpa using hi)
 simp only at hm ⊢
 generalize (p.1.map V8)[i]'(by simpa using hi)=v at hm
 obtain⟨u,_,rfl⟩:=J6.1 hm;exact sameBits_self (d:=.int .u8) (by simp[IsKey]) _
theorem CI:KeyOf Tryz.prog 36 kA:=KeyOf.ask zK (fun e p w=>Uu e p.1 p.2 w 9998) Uv Uw
end
theorem Hp.shrinkV(H:Hp w0 w S L){n sz:Nat}{a:Option Nat}{T:TypeId}(hi:L[i]? =some (.own a n c xs T sz))(hm:m<=n):Hp w0 w S (L.set i (.own a m c (xs.take (m*sz)) T sz)):=by
 have h:=H.has _ (E3 hi)
 refine H.turn hi (c':=.own a m c (xs.take (m*sz)) T sz) ?_ (fun b hb=>.inl ?_) rfl rfl rfl (B2 _) (fun _ _ _=>rfl)
 ·cases a with
 |none=>
   obtain⟨h1,h2,h3⟩:=h
   exact⟨zO,h2,by rw[h3];simp⟩
 |some b=>
   obtain⟨q1,q2,q3,rest,hw,q5⟩:=h
   refine⟨?_,zO,q3,xs.drop (m*sz)++rest,?_,?_⟩
   ·rw[F7,q1];exact jU (G2 sz hm)
   ·rw[<-H9,uY];exact hw
   rw[<-H9,uY];exact q5
 cases a with
 |none=>cases hb
 |some b'=>exact hb
theorem ZF{α:Type}{enc:α->List Value}{sz:Nat}(hk:∀x,(enc x).length=sz):∀(l:List α) (m:Nat),(l.flatMap enc).take (m*sz)=(l.take m).flatMap enc
|[],m=>by simp
|x::l,0=>by simp
|x::l,m+1=>by
  rw[iG,List.take_succ_cons,iG, <-ZF hk l m,U3,qZ,List.take_append,hk]
  rw[V9 (by rw[hk];omega),Nat.add_sub_cancel]
theorem Hp.shrink{enc:α->List Value}(H:Hp w0 w S L){n sz:Nat}(m:Nat){a:Option Nat}{l:List α}{T:TypeId}(hi:L[i]? =some (.own a n c (l.flatMap enc) T sz))(hk:∀x,(enc x).length=sz)(hm:m<=n):Hp w0 w S (L.set i (.own a m c ((l.take m).flatMap enc) T sz)):=by
 rw[<-ZF hk];exact H.shrinkV hi hm
section
variable {n:Nat} {σ:Nat->Value} {K:Act->World->Prop}
 {ty:TypeId} {pos:String} {aft:Array Edge} {g:Option (Nat×Bool)} {d:Nat} {t:TypeId} {x y:Operand} {S:List Nat} {L:List Ch}
end
section
variable {n:Nat} {σ:Nat->Value} {K:Act->World->Prop}
 {ty:TypeId} {pos:String} {aft:Array Edge} {g:Option (Nat×Bool)} {d:Nat} {t:TypeId} {S:List Nat} {L:List Ch}
end
theorem Ux{a:Addr}{v:Value}(h:w.cell? a=some v):(load a).run P w=.ok v w:=by simp[load,Sem.run,h]
theorem ZG{P:Program}{w:World}{b:Nat}{C:Array Value}{T fr}(hb:w.heap[b]? =some (.cells C T fr)):∀(l:List UInt8) (o:Nat) (L0:ByteArray),(∀i v,(l.map V8)[i]? =some v->C[o+i]? =some v)->
  (Extern.Bytes.loadBytes ⟨b,o,none⟩ l.length L0).run P w=.ok ⟨(L0.data.toList++l).toArray⟩ w
|[],o,L0,_=>by simp[Extern.Bytes.loadBytes]
|c::l,o,L0,h=>by
  have h0:C[o]? =some (V8 c):=by simpa using h 0 (V8 c) (by simp)
  have hc:w.cell? ⟨b,o,none⟩=some (V8 c):=by simp[World.cell?, hb,h0]
  have ih:=ZG (P:=P) hb l (o+1) (L0.push c) (fun i v hv=>by
   have:=h (i+1) v (by simpa using hv)
   rw[show o+1+i=o+(i+1) by omega];exact this)
  rw[G8,Extern.Bytes.loadBytes]
  simp only[D0,Ux hc,F6,V8]
  have e1:((c.toNat:Int)).toNat.toUInt8=c:=by simp
  rw[e1]
  have e2:(⟨b,o,none⟩:Addr).add 1=⟨b,o+1,none⟩:=rfl
  rw[e2,ih]
  simp[ByteArray.push]
theorem ZH{s:Sl}(hs:s.ok w):(Extern.Bytes.bytesOf s.v).run P w=.ok ⟨s.l.toArray⟩ w:=by
 have hl:=hs.ln
 rcases hs.rd with h|⟨b,o,C,T,fr,ha,hb,hc⟩
 ·have h0:s.l=[]:=by simpa using h
  rw[h0]at hl ⊢
  have w5:s.len=0:=hl.symm
  unfold Sl.v
  rw[w5]
  cases s.a with
 |none=>simp[Extern.Bytes.bytesOf];rfl
 |some a=>simp[Extern.Bytes.bytesOf,Extern.Bytes.loadBytes];rfl
 unfold Sl.v
 rw[ha, <-hl]
 have:=ZG (P:=P) hb s.l o .empty hc
 simpa [Extern.Bytes.bytesOf] using this
theorem Uy{s u:Sl}(hs:s.ok w)(hu:u.ok w):(Extern.BytealgCompare.compare #[s.v,u.v]).run P w=.ok (.int .i64 (Lib.compareBytes s.l u.l)) w:=by
 change Sem.run P (do pure (goInt (Extern.BytealgCompare.cmp (<-Extern.Bytes.bytesOf s.v) (<-Extern.Bytes.bytesOf u.v)))) w=_
 simp only[D0,ZH hs,ZH hu,F6,iE,Lib.cmp_eq]
 rfl
open Go.Proofs in
set_option maxHeartbeats 1000000 in
theorem ZI(w:World)(s u:Sl)(hs:s.ok w)(hu:u.ok w):Ret Tryz.prog 71 [s.v,u.v] w fun v w'=>v=VI (Lib.compareBytes s.l u.l)/\w'=w:=by
 have hc:=Uy (P:=Tryz.prog) hs hu
 unfold Sl.v at hc ⊢
 have h:Calls Tryz.prog 71 #[.slice s.a s.len s.cap,.slice u.a u.len u.cap] w fun e w'=>e=.returned (VI (Lib.compareBytes s.l u.l))/\w'=w:=by
  go_enter Tryz.func71,Tryz.ntmps71
  go_wp2
  rw[run_callFunc_extern Tryz.func110 zK zK zK (e:=Extern.BytealgCompare.compare) zK,hc]
  simp only[Result.andThen]
  rw[CX]
  go_wp2
  go_ret
  exact⟨rfl,rfl⟩
 exact x9 h fun e w' ⟨he,hw⟩=>⟨_,he,rfl,hw⟩
section
variable [Inhabited α] {enc:α->List Value}
theorem ZJ(hk:∀x,(enc x).length=k)(h0:0<k):∀(l:List α) (t:Nat),t<l.length*k->(l.flatMap enc)[t]? =(enc (l[t / k]!))[t % k]?
|[],t,h=>by simp at h
|x::l,t,h=>by
  rw[iG]
  by_cases ht:t<k
  ·rw[N5 (by rw[hk];exact ht),Nat.div_eq_of_lt ht,Nat.mod_eq_of_lt ht];rfl
  have h2:t-k<l.length*k:=by rw[G8,U3,qZ]at h;omega
  have e1:t / k=(t-k) / k+1:=Nat.div_eq_sub_div h0 zO
  have e2:t % k=(t-k) % k:=Nat.mod_eq_sub_mod zO
  rw[L7 (by rw[hk];omega),hk,ZJ hk h0 l (t-k) h2,e1,e2]
  rfl
theorem CJ(hk:∀x,(enc x).length=k):∀l:List α,(l.flatMap enc).length=l.length*k
|[]=>by simp
|x::l=>by rw[iG,C6,hk,CJ hk l,G8,U3,qZ,Nat.add_comm]
open Go.Sort in
theorem ZK(hk:∀x,(enc x).length=k)(h0:0<k)(l:List α):flatK enc k l.toArray=(l.flatMap enc).toArray:=by
 refine ext_get! (by simp[CJ hk]) fun t ht=>?_
 have ht':t<l.length*k:=by simpa using ht
 rw[get_flatK enc k _ t (by simpa using ht')]
 have hl:=ZJ hk h0 l t ht'
 have hlt:t<(l.flatMap enc).length:=by rw[CJ hk];exact ht'
 rw[B6 hlt]at hl
 have e1:(l.flatMap enc).toArray[t]! =(l.flatMap enc)[t]:=by
  rw[getElem!_pos _ t (by simpa using hlt)];simp
 rw[e1]
 have hm:t % k<(enc l[t / k]!).length:=by rw[hk];exact Nat.mod_lt _ h0
 rw[B6 hm]at hl
 have e2:l.toArray[t / k]! =l[t / k]! :=by simp
 rw[e2,getElem!_pos (enc l[t / k]!) (t % k) hm]
 exact(qR hl).symm
open Go.Sort in
theorem Uz(d xs rest:List Value)(h:d.length=xs.length):putCells id 0 d.toArray (xs++rest).toArray=(d++rest).toArray:=by
 apply JJ
 intro k
 simp only[putCells,Array.getElem?_mapIdx,fQ,J5,qT,L8,true_and,bO,id]
 by_cases hk:k<d.length
 ·rw[N5 zO,N5 (by simpa using hk),B6 zO,B6 hk]
  simp[hk]
 rw[L7 zO,L7 (by simpa using hk),h]
 have hk2:¬ k<xs.length:=by omega
 cases rest[k-xs.length]? <;>simp[hk,hk2]
open Go.Sort in
theorem Va{b n:Nat}{l d:List α}{T:TypeId}{os:Array Go.Obj}(hk:∀x,(enc x).length=k)(h0:0<k)(H:Hp w0 w S L)(hi:L[i]? =some (.own (some b) n c (l.flatMap enc) T k))(hd:d.length=l.length):
  Hp w0 (sortWorldK enc k w b 0 m d.toArray os) S (L.set i (.own (some b) n c (d.flatMap enc) T k)):=by
 obtain⟨q1,q2,q3,rest,hw,q5⟩:=H.has _ (E3 hi)
 have hlt:b<w.heap.size:=(Z4.1 hw).1
 have Y1:(d.flatMap enc).length=(l.flatMap enc).length:=by rw[CJ hk,CJ hk,hd]
 have e0:sortWorldK enc k w b 0 m d.toArray os=grow (putRow id (Sort.ahead w m) b 0 (d.flatMap enc).toArray) os:=by
  unfold sortWorldK putRowK;rw[ZK hk h0]
 rw[e0]
 have G3:(putRow id (Sort.ahead w m) b 0 (d.flatMap enc).toArray).heap.size=w.heap.size:=by rw[size_putRow];rfl
 have bU:∀k,k<w.heap.size->(grow (putRow id (Sort.ahead w m) b 0 (d.flatMap enc).toArray) os).heap[k]? =(w.heap.modify b (onCells (putCells id 0 (d.flatMap enc).toArray)))[k]? :=fun k hk=>by
  show((putRow id (Sort.ahead w m) b 0 (d.flatMap enc).toArray).heap++os)[k]? =_
  rw[PI (by rw[G3];exact hk)];rfl
 refine H.turn hi (c':=.own (some b) n c (d.flatMap enc) T k) ⟨by rw[Y1];exact q1,q2,q3,rest,?_,by rw[C6,Y1, <-C6];exact q5⟩ (fun b' I2=>.inl I2) rfl rfl rfl (by show w.heap.size<=((putRow id (Sort.ahead w m) b 0 (d.flatMap enc).toArray).heap++os).size;rw[zQ,G3];omega) fun b' aN D5=>?_
 ·rw[bU b hlt,JH,if_pos rfl,hw]
  simp only[X8,onCells,Uz _ _ rest Y1]
 rw[bU b' aN,JH,if_neg (fun e=>D5 (by rw[<-e];rfl))]
open Go.Sort in
theorem Vb{b n:Nat}{l:List α}{T:TypeId}(hk:∀x,(enc x).length=k)(h0:0<k)(h:(Ch.own (some b) n c (l.flatMap enc) T k).ok w):HoldsK enc k w b 0 l.toArray:=by
 obtain⟨q1,q2,q3,rest,hw,q5⟩:=h
 unfold HoldsK
 rw[ZK hk h0]
 intro j hj
 have hj':j<(l.flatMap enc).length:=by simpa using hj
 refine⟨?_,?_⟩
 ·simp only[World.cell?, hw,J5,fQ]
  rw[N5 hj',B6 hj']
  rw[getElem!_pos _ j hj];simp
 simp[World.frozen?, hw]
def yY(cf:α->α->Int)(l:List α):List α:=l.mergeSort fun x y=> !(decide (cf y x<0))
open Go.Sort Go.Shelf in
theorem ZL{ρ:Ren}(Ly:SlLaysF0.n6 Tryz.prog ρ)(aE:∀w,(isAgg (ρ.t 24)).run Tryz.prog w=.ok true w)(zE:∀w,(Go.sizeOf (ρ.t 24)).run Tryz.prog w=.ok k w)(hk:∀x,(enc x).length=k)(h0:0<k)(h1:∀x,∀v∈enc x,v.oneCell'=true)(cf:α->α->Int)(hO:SWO (ltOf cf))(hT:∀x y,ltOf cf x y=false->ltOf cf y x=false->x=y)
  {g:FuncId}{fn:Func}(hf:Tryz.prog.funcs[g]? =some fn)(hb:fn.body.isSome=true)(fR:(fn.name == "runtime.NumGoroutine")=false)
  (hcmp:∀(W:World) (x y:α),Calls Tryz.prog g #[.agg (enc x).toArray,.agg (enc y).toArray] W fun e w'=>e=.returned (VI (cf x y))/\∃q os',w'=grow (W.drewN q) os')
  {w:World}{n:Nat}{a:Option Nat}{l:List α}{T:TypeId}(H:Hp w0 w S L)(hi:L[i]? =some (.own a n c (l.flatMap enc) T k))(hn:l.length=n)(hbd:n<=1099511627776):
  Ret Tryz.prog (ρ.f 6) [.slice (hd a) n c,.func (.func g) #[] #[]] w fun v w'=>v=.tuple #[]/\Hp w0 w' S (L.set i (.own a n c ((yY cf l).flatMap enc) T k)):=by
 subst hn
 have eg:∀args w,(callFunc g args).run Tryz.prog w=.ok (.enter g args) w:=fun args w=>by
  have hn':fn.body≠none:=by cases hh:fn.body<;>simp_all
  have K3:fn.name≠ "runtime.NumGoroutine" :=by intro e;simp[e]at fR
  simp[callFunc,hf,K3,hn']
 cases a with
|none=>
  obtain⟨dI,h2,h3⟩:=(H.has _ (E3 hi):(Ch.own none l.length c (l.flatMap enc) T k).ok w)
  have hl:l=[]:=List.eq_nil_of_length_eq_zero dI
  subst hl
  have h:=AnyF.slices_SortFunc_none (P:=Tryz.prog) (ρ:=ρ) Ly none c (.func (.func g) #[] #[]) w
  refine x9 h fun e w' ⟨he,iJ⟩=>⟨_,he,rfl,?_⟩
  have e1:yY cf ([]:List α)=[]:=by simp[yY]
  rw[iJ,e1]
  have e2:L.set i (.own none ([]:List α).length c (([]:List α).flatMap enc) T k)=L:=by
   apply V7
   intro j
   rw[List.getElem?_set]
   by_cases e:i=j
   ·subst e
    have:=(N1.1 hi).1
    rw[if_pos rfl,if_pos this,hi]
   rw[if_neg e]
  rw[e2];exact H
|some b=>
  have hc:=H.has _ (E3 hi)
  have hlt:b<w.heap.size:=Ch.lt hc rfl
  have h:=AnyQ.slices_SortFunc_total Ly k aE zE enc hk h1 cf hO g #[] b 0 c l.toArray w eg (fun m os dk _ x y=>hcmp _ x y) (Vb hk h0 hc) hlt (by simp;omega) hT
  simp only[bO]at h
  refine x9 h fun e w' ⟨he,m,os,iJ⟩=>⟨_,he,rfl,?_⟩
  rw[iJ]
  exact Va (m:=m) (os:=os) (d:=yY cf l) hk h0 H hi (by rw[yY,List.length_mergeSort])
end
def C2(x:A6):List Value:=x.1.map V8
theorem aI(x:A6):(C2 x).length=32:=by rw[C2,J7,x.2]
theorem uP(x:A6):(C2 x).all (·.oneCell')=true:=by
 rw[C2,P5];intro v hv;obtain⟨c,_,rfl⟩:=J6.1 hv;rfl
theorem OH:∀a b:List UInt8,Lib.compareBytes a b<0↔a<b
|[],[]=>by simp[Lib.compareBytes]
|[],_::_=>by simp[Lib.compareBytes]
|_::_,[]=>by simp[Lib.compareBytes]
|a::xs,b::ys=>by
  rw[Lib.compareBytes,List.cons_lt_cons_iff]
  by_cases h1:a<b
  ·simp[h1]
  by_cases h2:b<a
  ·have:a≠b:=fun e=>by subst e;exact h1 h2
   simp[h1,h2,this]
  have e:a=b:=DB.1 (by
   have g1:¬ a.toNat<b.toNat:=fun h=>h1 (UInt8.lt_iff_toNat_lt.2 h)
   have g2:¬ b.toNat<a.toNat:=fun h=>h2 (UInt8.lt_iff_toNat_lt.2 h)
   omega)
  subst e
  simp[h1,OH xs ys]
instance:Inhabited A6:=⟨⟨replicate 32 0,by simp⟩⟩
def cX(x y:A6):Int:=Lib.compareBytes x.1 y.1
open Go.Sort in
theorem IC(x y:A6):ltOf cX x y=decide (x.1<y.1):=by
 rw[ltOf,vA,decide_eq_true_eq,decide_eq_true_eq];exact OH _ _
theorem ZM(a:List UInt8):¬ a<a:=List.lt_irrefl a
theorem ZN{a b:List UInt8}(h1:¬ a<b)(h2:¬ b<a):a=b:=List.le_antisymm (nO.1 h2) (nO.1 h1)
theorem ZO{a b c:List UInt8}(h1:a<b)(h2:b<c):a<c:=List.lt_trans h1 h2
open Go.Sort in
theorem ZP:SWO (ltOf cX) where
 irrefl x:=by rw[IC];exact decide_eq_false (ZM _)
 trans x y z h1 h2:=by rw[IC,decide_eq_true_eq]at *;exact ZO h1 h2
 ntrans x y z h1 h2:=by
  rw[IC,decide_eq_false_iff_not] at*
  exact nO.2 (List.le_trans (nO.1 h2) (nO.1 h1))
theorem ZQ(x y:A6)(h1:ltOf cX x y=false)(h2:ltOf cX y x=false):x=y:=by
 rw[IC,decide_eq_false_iff_not] at*
 exact Subtype.ext (ZN h1 h2)
def sortA(l:List A6):List A6:=yY cX l
section
variable {n:Nat} {σ:Nat->Value} {K:Act->World->Prop}
 {ty:TypeId} {pos:String} {aft:Array Edge} {g:Option (Nat×Bool)} {d:Nat} {t:TypeId} {x:Operand}
theorem ID{v:Value}(hx:ev n σ x=v)(h:K (mk n (up σ d (.pointer (some ⟨w.heap.size,0,none⟩)))) (w.alloc (.cells v.cells t))):Oper.wp P ⟨some d,.box t x,ty,pos,aft,g⟩ (mk n σ) w K Q:=by
 refine G5 (v:=.pointer (some ⟨w.heap.size,0,none⟩)) (w':=w.alloc (.cells v.cells t)) ?_ h
 simp[execOp,Instr.box,hx,newVar,newRow]
end
theorem IE{b:Nat}{x:A6}{T fr}(h:w.heap[b]? =some (.cells (C2 x).toArray T fr)):(⟨some ⟨b,0,none⟩,32,32,x.1⟩:Sl).ok w:=
 ⟨.inr ⟨b,0,_,T,fr,rfl,h,fun i v hv=>by rw[J5,fQ];exact hv⟩,x.2,B2 _,(by decide:(32:Nat)<=9223372036854775807)⟩
theorem Vc(x y:A6)(W:World):Calls Tryz.prog 194 #[.agg (C2 x).toArray,.agg (C2 y).toArray] W fun e w'=>e=.returned (VI (cX x y))/\∃q os',w'=Go.Sort.grow (W.drewN q) os':=by
 refine JM (args:=[kA x,kA y]) Tryz.func194 rfl Tryz.ntmps194 (by simp) ?_
 refine D8 ?_;refine DM ?_;refine A3 (ID (v:=kA x) rfl ?_);refine A3 (ID (v:=kA y) rfl ?_);refine aZ ?_;refine JN ?_;refine D8 ?_;refine sV mixed zK ?_;refine A7 (yN (h:=32) (m:=32) (lv:=none) (hv:=none) (mv:=none) rfl sW rfl rfl rfl (fun w=>yO w)) ?_;refine A7 (yN (h:=32) (m:=32) (lv:=none) (hv:=none) (mv:=none) rfl sW rfl rfl rfl (fun w=>yO w)) ?_;have hs:((W.alloc (.cells (kA x).cells 36)).alloc (.cells (kA y).cells 36)).drew.heap[W.heap.size]? =some (.cells (C2 x).toArray 36 (0,0)):=by
  have h1:=gG (W.alloc (.cells (kA x).cells 36)) (.cells (kA y).cells 36) W.heap.size (by simp)
  exact h1.trans (j7 W _)
 have hu:((W.alloc (.cells (kA x).cells 36)).alloc (.cells (kA y).cells 36)).drew.heap[(W.alloc (.cells (kA x).cells 36)).heap.size]? =some (.cells (C2 y).toArray 36 (0,0)):=j7 _ _
 refine oZ (v:=VI (cX x y)) Tryz.func71 rfl rfl rfl (ZI _ ⟨some ⟨W.heap.size,0,none⟩,32,32,x.1⟩ ⟨some ⟨(W.alloc (.cells (kA x).cells 36)).heap.size,0,none⟩,32,32,y.1⟩ (IE hs) (IE hu)) ?_
 refine A7 (eT) ?_;refine kP ?_;refine iV ?_;refine w9 (v:=VI (cX x y)) Tryz.results194 rfl ?_
 refine⟨rfl,1, #[.cells (kA x).cells 36,.cells (kA y).cells 36],?_⟩
 rw[Go.Sort.alloc_eq_grow,Go.Sort.alloc_eq_grow,Go.Sort.grow_grow]
 rfl
theorem Vd{w:World}{n:Nat}{a:Option Nat}{l:List A6}(H:Hp w0 w S L)(hi:L[i]? =some (.own a n c (l.flatMap C2) 36 32))(hn:l.length=n)(hb:n<=1099511627776):
  Ret Tryz.prog 188 [.slice (hd a) n c,.func (.func 194) #[] #[]] w fun v w'=>v=.tuple #[]/\Hp w0 w' S (L.set i (.own a n c ((sortA l).flatMap C2) 36 32)):=
 ZL Tryz.sortA Tryz.isAgg36 Tryz.sizeOf36 aI (by decide) (fun x v hv=>P5.1 (uP x) v hv) cX ZP ZQ Tryz.func194 rfl rfl (fun W x y=>Vc x y W) H hi hn hb
theorem Ve(x y:A6)(W:World):Calls Tryz.prog 165 #[.agg (C2 x).toArray,.agg (C2 y).toArray] W fun e w'=>e=.returned (VI (cX x y))/\∃q os',w'=Go.Sort.grow (W.drewN q) os':=by
 refine JM (args:=[kA x,kA y]) Tryz.func165 rfl Tryz.ntmps165 (by simp) ?_
 refine D8 ?_;refine DM ?_;refine A3 (ID (v:=kA x) rfl ?_);refine A3 (ID (v:=kA y) rfl ?_);refine aZ ?_;refine JN ?_;refine D8 ?_;refine sV mixed zK ?_;refine A7 (yN (h:=32) (m:=32) (lv:=none) (hv:=none) (mv:=none) rfl sW rfl rfl rfl (fun w=>yO w)) ?_;refine A7 (yN (h:=32) (m:=32) (lv:=none) (hv:=none) (mv:=none) rfl sW rfl rfl rfl (fun w=>yO w)) ?_;have hs:((W.alloc (.cells (kA x).cells 36)).alloc (.cells (kA y).cells 36)).drew.heap[W.heap.size]? =some (.cells (C2 x).toArray 36 (0,0)):=by
  have h1:=gG (W.alloc (.cells (kA x).cells 36)) (.cells (kA y).cells 36) W.heap.size (by simp)
  exact h1.trans (j7 W _)
 have hu:((W.alloc (.cells (kA x).cells 36)).alloc (.cells (kA y).cells 36)).drew.heap[(W.alloc (.cells (kA x).cells 36)).heap.size]? =some (.cells (C2 y).toArray 36 (0,0)):=j7 _ _
 refine oZ (v:=VI (cX x y)) Tryz.func71 rfl rfl rfl (ZI _ ⟨some ⟨W.heap.size,0,none⟩,32,32,x.1⟩ ⟨some ⟨(W.alloc (.cells (kA x).cells 36)).heap.size,0,none⟩,32,32,y.1⟩ (IE hs) (IE hu)) ?_
 refine A7 (eT) ?_;refine kP ?_;refine iV ?_;refine w9 (v:=VI (cX x y)) Tryz.results165 rfl ?_
 refine⟨rfl,1, #[.cells (kA x).cells 36,.cells (kA y).cells 36],?_⟩
 rw[Go.Sort.alloc_eq_grow,Go.Sort.alloc_eq_grow,Go.Sort.grow_grow]
 rfl
theorem Vf{w:World}{n:Nat}{a:Option Nat}{l:List A6}(H:Hp w0 w S L)(hi:L[i]? =some (.own a n c (l.flatMap C2) 36 32))(hn:l.length=n)(hb:n<=1099511627776):
  Ret Tryz.prog 188 [.slice (hd a) n c,.func (.func 165) #[] #[]] w fun v w'=>v=.tuple #[]/\Hp w0 w' S (L.set i (.own a n c ((sortA l).flatMap C2) 36 32)):=
 ZL Tryz.sortA Tryz.isAgg36 Tryz.sizeOf36 aI (by decide) (fun x v hv=>P5.1 (uP x) v hv) cX ZP ZQ Tryz.func165 rfl rfl (fun W x y=>Ve x y W) H hi hn hb
section
variable {n l:Nat} {K:Act->World->Prop}
theorem Vg{row:String}{args:Array Value}{R:Value->World->Prop}(h:Rows P row args w R):RowsIn (Fence.wide.inRound l) n P row args w R:=
 fun c cs _=>let⟨v,w',r,s⟩:=h c cs;⟨v,w',r,stepsIn_wide.2 s⟩
theorem Vh{f:FuncId}{args:Array Value}{R:Ending->World->Prop}(h:Calls P f args w R):CallsIn (Fence.wide.inRound l) n P f args w R:=CallsIn.inRound l (callsIn_wide.2 h)
theorem uponIn_round{o:Oper}{a:Act}{r:Result Next}(h:o.upon P a K Q r):o.uponIn (Fence.wide.inRound l) n P a K Q r:=by
 cases r with
|ok x w'=>
  cases x<;>simp only[Oper.upon,Oper.uponIn]at h ⊢<;>
   first
   |exact h
   |exact⟨fun h=>(by cases h),Vh h⟩
   |exact⟨fun h=>(by cases h),Vg h⟩
   |exact h.elim
|halt x w'=>cases x<;>simp only[Oper.upon,Oper.uponIn]at h ⊢<;>exact h
def Oper.plain(o:Oper):Bool:=match o.op with|.defer _=>false|_=>true
theorem Vi{o:Oper}(h:Oper.plain o=true)(ρ:Operand->Value):Oper.semAt (some l) ρ o=execOp ρ o:=by
 unfold Oper.semAt
 unfold Oper.plain at h
 split
 ·rename_i vP;rw[vP]at h;cases h
 rfl
theorem ZR{o:Oper}{a:Act}(hp:Oper.plain o=true)(h:o.wp P a w K Q):o.wpIn (Fence.wide.inRound l) n P a w K Q:=by
 refine⟨fun _ _=>trivial,?_⟩
 rw[show(Fence.wide.inRound l).round=some l from rfl,Vi hp]
 exact uponIn_round h
theorem IF(hp:∀o∈ops,Oper.plain o=true)(hQ:¬ LetsOut Q):∀(is:List Nat) (a:Act) (w:World),wpOps P ops Q is a w->wpOpsIn (Fence.wide.inRound l) n P ops Q is a w
|[],a,w,h=>h
|i::is,a,w,h=>by
  unfold wpOps at h
  unfold wpOpsIn
  cases ho:ops[i]? with
 |none=>rw[ho]at h;exact IF hp hQ is a w h
 |some o=>
   rw[ho]at h
   dsimp only at h ⊢
   by_cases hw:Region.wanted o (yielded ops a.tmps)=true
   ·rw[if_pos hw]at h ⊢
    rcases h with h|h
    ·refine ZR (hp o (Array.mem_of_getElem? ho)) (Oper.wp_mono (fun a w h=>IF hp hQ is a w h) h)
    exact absurd h.2 hQ
   rw[if_neg hw]at h ⊢
   exact⟨fun _ _=>trivial,IF hp hQ is _ w h⟩
theorem OI{L:Array Oper}(hp:∀o∈L,Oper.plain o=true)(hQ:¬ LetsOut Q):∀(is:List Oper) (a:Act) (w:World),(∀o∈is,o∈L)->wpList P L Q is a w->wpListIn (Fence.wide.inRound l) n P L Q is a w
|[],a,w,_,h=>h
|o::is,a,w,hs,h=>by
  unfold wpList at h
  unfold wpListIn
  by_cases hw:Region.wanted o (yielded L a.tmps)=true
  ·rw[if_pos hw]at h ⊢
   rcases h with h|h
   ·exact ZR (hp o (hs o (X9 ..))) (Oper.wp_mono (fun a w h=>OI hp hQ is a w (fun o ho=>hs o (R5 _ ho)) h) h)
   exact absurd h.2 hQ
  rw[if_neg hw]at h ⊢
  exact⟨fun _ _=>trivial,OI hp hQ is _ w (fun o ho=>hs o (R5 _ ho)) h⟩
def ZS(L:List Oper):Bool:=L.all Oper.plain
theorem IG{id:Nat}{L:List Oper}{a:Act}(hp:ZS L=true)(hQ:¬ LetsOut Q)(h:wpList P L.toArray Q L a w):(Code.region id L.toArray false).wpIn (Fence.wide.inRound l) n P Q a w:=
 wpIn_region_lit (OI (fun o ho=>P5.1 hp o (by simpa using ho)) hQ L a w (fun o ho=>by simpa using ho) h)
theorem Vj{id:Nat}{L:List Oper}{a:Act}(S':World->Prop)(hm:P.follows .mixedOrders=true)(hp:ZS L=true)(hQ:¬ LetsOut Q)
  (h:wpAnyH P .any L.toArray Q S' L.length (Array.replicate L.length false) a w.drew):(Code.region id L.toArray true).wpIn (Fence.wide.inRound l) n P Q a w:=
 wpIn_region_draw fun t=>by
  simp only[Region.schedule,hm,Bool.true_or,if_true]
  refine IF (fun o ho=>P5.1 hp o (by simpa using ho)) hQ _ a _ ?_;exact wpAny_sound L.toArray.size t _ a _ (wpAny_of_held _ _ _ _ (by simpa using h))
end
section
variable {n l:Nat} {K:Act->World->Prop} {σ:Nat->Value}
 {ty:TypeId} {pos:String} {aft:Array Edge} {g:Option (Nat×Bool)} {d:Nat} {rest:List Oper}
theorem Vk{o:Oper}{a:Act}{r:Result Next}(h:o.upon P a K Q r):o.uponIn Fence.wide m P a K Q r:=by
 cases r with
|ok x w'=>
  cases x<;>simp only[Oper.upon,Oper.uponIn]at h ⊢<;>
   first
   |exact h
   |exact⟨fun h=>(by cases h),callsIn_wide.2 h⟩
   |exact⟨fun h=>(by cases h),fun c cs _=>let⟨v,w',r,s⟩:=h c cs;⟨v,w',r,stepsIn_wide.2 s⟩⟩
   |exact h.elim
|halt x w'=>cases x<;>simp only[Oper.upon,Oper.uponIn]at h ⊢<;>exact h
theorem yZ{op:Op}{dst:Option Tmp}{a:Act}(h:Oper.wp P ⟨dst,op,ty,pos,aft,none⟩ a w (wpListIn Fence.wide m P ops Q rest) Q):wpListIn Fence.wide m P ops Q (⟨dst,op,ty,pos,aft,none⟩::rest) a w:=by
 unfold wpListIn
 rw[if_pos (by simp[Region.wanted])]
 exact⟨fun _ _=>trivial,Vk h⟩
theorem ZT{y:Code}{a:Act}(h:y.wp P Q a w):wpListIn Fence.wide m P ops (Exit.then (y.wp P Q) Q) [] a w:=h
theorem ZU{x y:Operand}{v:Value}{b:Bool}{R:World->Prop}(hx:ev n σ x=.func (.yield l) #[] #[])(hnf:∀f,x≠ .func f)(hy:ev n σ y=v)
  (hY:YieldAt Fence.wide (m-1) P l #[v] w fun e W'=>e=.returned (.bool b)/\R W')
  (h:∀W',R W'->wpListIn Fence.wide m P ops Q rest (mk n (up σ d (.bool b))) W'):
  wpListIn Fence.wide m P ops Q (⟨some d,.call ⟨.value x, #[y],W0⟩,ty,pos,aft,none⟩::rest) (mk n σ) w:=by
 obtain⟨fn,tmps,assign,body,I1,hR⟩:=hY
 unfold wpListIn
 rw[if_pos (by simp[Region.wanted])]
 refine⟨fun _ _=>trivial,?_⟩
 have e:(execOp (mk n σ).eval ⟨some d,.call ⟨.value x, #[y],W0⟩,ty,pos,aft,none⟩).run P w=.ok (.round l fn tmps assign body) w:=by
  rw[W7]
  cases x with
 |func f=>exact absurd rfl (hnf f)
 |_=>simp[execOp,resolve,hx,hy,Deferred.ofValue,invoke,I1]
 rw[show Fence.wide.round=none from rfl,Oper.semAt_none,e,Oper.uponIn_round]
 refine⟨fun h=>(by cases h),hR.mono fun e W' he=>?_⟩
 obtain⟨he,hr⟩:=he
 subst he
 show wpListIn Fence.wide m P ops Q rest ((mk n σ).put (some d) (.bool b)) W'
 rw[eR]
 exact h W' hr
end
theorem Vl{ι α:Type}{w1:World}{bb b l:Nat}{enc:α->Value}{M:List (A6×Value×Nat)}{F:A6->Option α}(hM:MOk M c)(hF:MIs enc M F)(Lv:ι->List Ch)(I:List A6->ι->Prop)(x0:ι)(h0:I [] x0)(H0:Hp w0 w1 S (Ch.blk bb ([.map (some b)]) 241::Ch.obj b (B7 kA M c)::Lv x0))(hY:∀(it:Nat) (A4:List A6) (x:ι) (k:A6) (a:α) (W:World),I A4 x->F k=some a->k∉A4->(∀j∈A4,(F j).isSome=true)->A4.Nodup->Hp w0 W S (Ch.obj it (T9 b M c (A4++[k]))::Ch.blk bb ([.map (some b)]) 241::Ch.obj b (B7 kA M c)::Lv x)->YieldAt Fence.wide 0 Tryz.prog l #[kA k] W fun e W'=>e=.returned (.bool true)/\∃x',I (A4++[k]) x'/\Hp w0 W' S (Ch.obj it (T9 b M c (A4++[k]))::Ch.blk bb ([.map (some b)]) 241::Ch.obj b (B7 kA M c)::Lv x')):
 Ret Tryz.prog 215 [.func (.yield l) #[] #[],.pointer (some ⟨bb,0,none⟩)] w1 fun v w'=>∃A4 x,I A4 x/\A4.Nodup/\(∀k,k∈A4↔(F k).isSome=true)/\Hp w0 w' S (Ch.blk bb ([.map (some b)]) 241::Ch.obj b (B7 kA M c)::Lv x):=by
 refine T7 Tryz.func215 rfl Tryz.ntmps215 (by simp) ?_
 have H:=H0
 refine rG ?_;refine lV (Q9 H (i:=0) rfl rfl KN rfl) ?_;refine A3 (XZ (kv:=kA) H (i:=1) rfl Tryz.underlying241 rfl (fun b1 w H P8=>?_));replace H:=H.rot
 replace H:Hp _ w _ (Ch.obj b1 (T9 b M c ([]))::Ch.blk bb ([.map (some b)]) 241::Ch.obj b (B7 kA M c)::Lv x0):=H
 refine eN ?_
 refine qB ?_;repeat refine D8 ?_
 refine NF (fun(A4:List A6) (x:ι)=>[(0,.func (.yield l) #[] #[]),(5,.pointer (some ⟨b1,0,none⟩))])
  (fun(A4:List A6) (x:ι) w=>(A4.Nodup/\(∀k∈A4,(F k).isSome=true)/\I A4 x)/\Hp w0 w S (Ch.obj b1 (T9 b M c A4)::Ch.blk bb ([.map (some b)]) 241::Ch.obj b (B7 kA M c)::Lv x))
  (fun(A4:List A6) (x:ι)=>M.length-A4.length) ([]) x0 ⟨rfl,rfl,zT⟩ ⟨⟨List.nodup_nil,fun _ h=>(by cases h),h0⟩,H⟩ ?_
 clear H
 rintro A4 x τ w ⟨⟨aT,hv,hI⟩,H⟩
 refine rG ?_;refine A3 (YA (kv:=kA) (enc:=enc) H (i:=2) (j:=0) rfl rfl hM hF hv rfl (fun hall2 w H=>?_) (fun R7 va4 wO hkn6 w H=>?_))
 ·
  refine lV (cO rfl rfl) ?_;refine eN ?_
  refine qN ?_;refine W8 ?_;refine eZ ?_;refine DO Tryz.results215 ?_
  refine⟨_,rfl,?_⟩
  exact⟨A4,x,hI,aT,fun k=>⟨hv k,hall2 k⟩,H.sub (.cons _ (.cons_cons _ (.cons_cons _ (rA _))))⟩
 
 replace H:Hp _ w _ (Ch.obj b1 (T9 b M c (A4++[R7]))::Ch.blk bb ([.map (some b)]) 241::Ch.obj b (B7 kA M c)::Lv x):=H
 refine lV (cO rfl rfl) ?_;refine eN ?_
 refine qY ?_;refine M6 ?_;refine qB ?_;refine rG ?_;refine lV (YB (kv:=kA) (enc:=enc) H (i:=2) (j:=0) rfl rfl hM hF wO rfl) ?_;refine lV (cO rfl rfl) ?_;refine A3 (W9 H aW (fun b7 w H hb7=>?_));replace H:=H.rot
 replace H:Hp _ w _ (Ch.blk b7 ((replicate 32 (0:UInt8)).map V8) 36::Ch.obj b1 (T9 b M c (A4++[R7]))::Ch.blk bb ([.map (some b)]) 241::Ch.obj b (B7 kA M c)::Lv x):=H
 refine A3 (nC (l':=R7.1) H (i:=0) rfl rfl rfl jC (show(replicate 32 (0:UInt8)).length=32 from(jV ..)) (show(R7.1).length=32 from R7.2) (fun w H=>?_));replace H:Hp _ w _ (Ch.blk b7 ((R7.1).map V8) 36::Ch.obj b1 (T9 b M c (A4++[R7]))::Ch.blk bb ([.map (some b)]) 241::Ch.obj b (B7 kA M c)::Lv x):=H
 refine eN ?_
 repeat refine D8 ?_
 have Y0:=HK aT hv wO hkn6
 have nU:=YC hF Y0.1 Y0.2
 rw[C6,u7]at nU
 refine(wpIn_wide (n:=1)).1 ?_;refine wpIn_region_lit ?_;refine yZ (G5 L4 ?_);refine yZ (G5 (uF (l:=R7.1) H (i:=0) rfl rfl aV (show(R7.1).length=32 from R7.2)) ?_);have H1:=H.sub (.cons _ (.cons_cons _ (.cons_cons _ (.cons_cons _ (rA _)))))
 have hy:=hY _ A4 x R7 va4 _ hI wO hkn6 hv aT H1
 refine ZU (v:=kA R7) (b:=true) rfl (fun f e=>by cases e) rfl hy ?_;rintro w ⟨x',rC,H2⟩
 clear H H1 hy;have H:=H2;clear H2
 refine yZ (G5 (AF rfl) ?_);refine ZT ?_;refine qN ?_;refine M6 ?_;refine U7 (A4++[R7],x') ?_ ?_ ?_
 ·exact⟨rfl,rfl,zT⟩
 ·refine⟨?_,?_⟩
  ·try dsimp only
   exact⟨Y0.1,Y0.2,rC⟩
  exact H
 show M.length-(A4++[R7]).length<M.length-A4.length;rw[C6,u7];omega
def iA(n:Nat)(σ:Nat->Value)(ds:List Deferred):Act:={ mk n σ with defers:=ds}
section
variable {n l d:Nat} {K:Act->World->Prop} {σ:Nat->Value}
 {ty:TypeId} {pos:String} {aft:Array Edge} {g:Option (Nat×Bool)} {rest:List Oper} {ds:List Deferred} {ops:Array Oper}
theorem ZV:(iA n σ ds).eval=ev n σ:=by
 rw[<-W7];funext x;cases x<;>rfl
theorem ZW{v:Value}:(iA n σ ds).put (some d) v=iA n (up σ d v) ds:=by
 show(iA n σ ds).put (some d) v={ mk n (up σ d v) with defers:=ds}
 rw[<-eR];rfl
theorem Hp.putObj{o o':Go.Obj}(H:Hp w0 w S L)(hi:L[i]? =some (.obj r o)):Hp w0 (w.putObj r o') S (L.set i (.obj r o')):=by
 have hr:w.heap[r]? =some o:=H.has _ (E3 hi)
 have hlt:=(Z4.1 hr).1
 refine H.turn hi (c':=.obj r o') (World.putObj_heap_same hlt) (fun b hb=>.inl hb) rfl rfl rfl (by simp[World.putObj]) (fun b _ D5=>World.putObj_heap_other fun e=>D5 (by rw[e];rfl))
theorem CK{op:Op}{v:Value}(I1:(execOp (ev n σ) ⟨some d,op,ty,pos,aft,g⟩).run P w=.ok (.value v) w')(h:K (iA n (up σ d v) ds) w'):Oper.wp P ⟨some d,op,ty,pos,aft,g⟩ (iA n σ ds) w K Q:=by
 unfold Oper.wp
 rw[ZV,I1,CX,ZW]
 exact h
theorem Vm{f:FuncId}{fn:Func}{args:Array Operand}{vs:List Value}{R:Value->World->Prop}(hf:P.funcs[f]? =some fn)(hb:fn.body.isSome=true)(fR:(fn.name == "runtime.NumGoroutine")=false)
  (ha:sI n σ args.toList=vs)(hc:Ret P f vs w R)(h:∀v w',R v w'->K (iA n (up σ d v) ds) w'):Oper.wp P ⟨some d,.call ⟨.value (.func f),args,W0⟩,ty,pos,aft,g⟩ (iA n σ ds) w K Q:=by
 unfold Oper.wp
 rw[ZV]
 have hn:fn.body≠none:=by cases hh:fn.body<;>simp_all
 have K3:fn.name≠ "runtime.NumGoroutine" :=by intro e;simp[e]at fR
 have Y0:args.map (ev n σ)=vs.toArray:=by apply U2;rw[<-ha,zW];simp
 have:(execOp (ev n σ) ⟨some d,.call ⟨.value (.func f),args,W0⟩,ty,pos,aft,g⟩).run P w=.ok (.enter f vs.toArray) w:=by
  simp[execOp,resolve,ev,Deferred.ofValue,invoke,callFunc,hf,K3,hn,Y0]
 rw[this,Oper.upon_enter]
 refine x9 hc fun e w' ⟨v,he,hv⟩=>?_
 subst he
 show K ((iA n σ ds).put (some d) v) w'
 rw[ZW];exact h v w' hv
theorem Vn{f:FuncId}{fn:Func}{c:Code}{args:List Value}{R:Ending->World->Prop}(hf:P.funcs[f]? =some fn)(hb:fn.body=some c)(hn:fn.ntmps=n)(B1:args.length<=n)
  (h:c.wp P (bodyPostM Fence.wide 1 P fn R) (mk n (fun t=>args.getD t undef)) w):Calls P f args.toArray w R:=by
 refine callsIn_wide.1 (callsIn_of_wp_marks (F:=Fence.wide) (n:=1) hf hb trivial ?_)
 rw[hn,PN args n B1]
 exact wpIn_wide.2 h
theorem ZX{f:FuncId}{fn:Func}{c:Code}{args:List Value}{R:Value->World->Prop}(hf:P.funcs[f]? =some fn)(hb:fn.body=some c)(hn:fn.ntmps=n)(B1:args.length<=n)
  (h:c.wp P (bodyPostM Fence.wide 1 P fn fun e w'=>∃v,e=.returned v/\R v w') (mk n (fun t=>args.getD t undef)) w):Ret P f args w R:=Vn hf hb hn B1 h
theorem Vo{c:Operand}{x y:Code}(hc:ev n σ c=.bool true)(h:x.wpIn (Fence.wide.inRound l) m P Q (mk n σ) w):(Code.cond c x y).wpIn (Fence.wide.inRound l) m P Q (mk n σ) w:=wpIn_cond_true ((mG n σ c).trans hc) h
theorem Vp{c:Operand}{x y:Code}(hc:ev n σ c=.bool false)(h:y.wpIn (Fence.wide.inRound l) m P Q (mk n σ) w):(Code.cond c x y).wpIn (Fence.wide.inRound l) m P Q (mk n σ) w:=wpIn_cond_false ((mG n σ c).trans hc) h
theorem Vq{a:Act}(h:Q .normal a w):Code.skip.wpIn (Fence.wide.inRound l) m P Q a w:=wpIn_skip h
theorem ZY{id:Nat}{c:Code}{a:Act}(h:c.wpIn (Fence.wide.inRound l) m P (Exit.inBlock id Q) a w):(Code.block id c).wpIn (Fence.wide.inRound l) m P Q a w:=wpIn_block h
theorem IH{y:Code}{a:Act}(h:y.wpIn (Fence.wide.inRound l) m P Q a w):wpList P ops (Exit.then (y.wpIn (Fence.wide.inRound l) m P Q) Q) [] a w:=h
def CL(D:Nat):List Deferred:=[{ target:=.collected D,args:= #[] }]
theorem ZZ{R:Ending->World->Prop}{D:Nat}{t:Tmp}{v:Value}(h:fn.results= #[.tmp t])(hv:ev n σ (.tmp t)=v)(H:Hp w0 w S L)(hi:L[i]? =some (.obj D (.deferred (some []))))
  (hR:∀w',Hp w0 w' S (L.eraseIdx i)->R (.returned v) w'):bodyPostM Fence.wide 1 P fn R .ret (iA n σ (CL D)) w:=by
 have hD:w.heap[D]? =some (.deferred (some [])):=H.has _ (E3 hi)
 have H2:=H.putObj (o':=.deferred none) hi
 refine⟨by simp,.inl ⟨D,_,rfl,run_takeDeferred hD,?_⟩⟩
 have hs:(L.set i (.obj D (.deferred none))).eraseIdx i=L.eraseIdx i:=by
  rw[List.eraseIdx_set_eq]
 have H3:=H2.sub (List.eraseIdx_sublist _ i)
 rw[hs]at H3
 refine⟨_,results_tmp h _ _ _,?_⟩
 have e:(iA n σ (CL D)).tmps.getD t undef=v:=by rw[<-hv];exact sM n σ t
 rw[e]
 exact hR _ H3
theorem Vr{f:FuncId}(hf:P.funcs[f]? =some fn)(hb:fn.body.isSome=true)(fR:(fn.name == "runtime.NumGoroutine")=false)(args:Array Value)(w:World):(callFunc f args).run P w=.ok (.enter f args) w:=by
 have hn:fn.body≠none:=by cases hh:fn.body<;>simp_all
 have K3:fn.name≠ "runtime.NumGoroutine" :=by intro e;simp[e]at fR
 simp[callFunc,hf,K3,hn]
theorem Aa{ι κ α:Type}{FX:List Ch}{Got:κ->α->Prop}{All:List κ->Prop}{I:List κ->ι->Prop}{x0:ι}{itC:Nat->List κ->Ch}{kv:κ->Value}{gf:FuncId}{fnI:Func}{pb:Value}{op:Operand}{p:Tmp}{assign body:Code}
  (hf:P.funcs[gf]? =some fnI)(hb:fnI.body.isSome=true)(fR:(fnI.name == "runtime.NumGoroutine")=false)
  (hIt:∀(Lv:ι->List Ch) (l:Nat) (w1:World),Hp w0 w1 S (FX++Lv x0)->
   (∀(it:Nat) (A4:List κ) (x:ι) (k:κ) (a:α) (W:World),I A4 x->Got k a->k∉A4->Hp w0 W S (itC it (A4++[k])::(FX++Lv x))->
    YieldAt Fence.wide 0 P l #[kv k] W fun e W'=>e=.returned (.bool true)/\∃x',I (A4++[k]) x'/\Hp w0 W' S (itC it (A4++[k])::(FX++Lv x')))->
   Ret P gf [.func (.yield l) #[] #[],pb] w1 fun _ w'=>∃A4 x,I A4 x/\All A4/\Hp w0 w' S (FX++Lv x))
  (hg:ev n σ op=.func (.func gf) #[] #[pb])(Lv:ι->List Ch)(H:Hp w0 w S (FX++Lv x0))
  (hround:∀(l:Nat) (T:List Ch) (A4:List κ) (x:ι) (k:κ) (a:α) (W:World),I A4 x->Got k a->k∉A4->Hp w0 W S (FX++(Lv x++T))->
   assign.wpIn (Fence.wide.inRound l) 0 P (Exit.then (fun a₁ W₁=>∃Lb,Hp w0 W₁ S (Lb++T)/\∀T' W₂,Hp w0 W₂ S (Lb++T')->
    body.wpIn (Fence.wide.inRound l) 0 P (fun e _ W₃=>e=.normal/\∃x',I (A4++[k]) x'/\Hp w0 W₃ S (FX++(Lv x'++T'))) a₁ W₂) (fun _ _ _=>False)) (mk n (up σ p (kv k))) W)
  (hdone:∀(D:Nat) (A4:List κ) (x:ι) (w':World),I A4 x->All A4->Hp w0 w' S (Ch.obj D (.deferred (some []))::(FX++Lv x))->Q .normal (iA n σ (CL D)) w'):
  (Code.rangeFunc op #[p] assign body).wp P Q (mk n σ) w:=by
 refine(wpIn_wide (n:=1)).1 (wpIn_rangeFunc ?_);intro fn _
 have hDn:w0.heap.size<=w.heap.size:=H.size
 have H1:=(H.new (.deferred (some [])) (.obj w.heap.size (.deferred (some []))) rfl (j7 w _))
 generalize oN:(fun(st:LoopState) (pe:Option Code)=>({ state:=st,pending:=pe,fn,tmps:=(mk n σ).tmps,params:= #[p],assign,body,defers:=w.heap.size}:Loop))=rec
 have H2:=H1.new (.loop (rec .ready none)) (.obj (w.heap.size+1) (.loop (rec .ready none))) (by simp[Ch.key]) (by have:=j7 (w.alloc (.deferred (some []))) (.loop (rec .ready none));simpa [Ch.ok] using this)
 generalize w8:(w.alloc (.deferred (some []))).alloc (.loop (rec .ready none))=W1 at H2
 generalize hD:w.heap.size=D at*
 have P1:∀(x:ι) (o:Go.Obj),(FX++(Lv x++[Ch.obj D (.deferred (some [])),Ch.obj (D+1) o])).Perm (FX++Lv x++[Ch.obj D (.deferred (some []))]++[Ch.obj (D+1) o]):=fun x o=>by
  rw[H9,H9];exact .refl _
 have H3:Hp w0 W1 S (FX++(fun x=>Lv x++[Ch.obj D (.deferred (some [])),Ch.obj (D+1) (.loop (rec .ready none))]) x0):=H2.permL (P1 x0 _).symm
 refine⟨D+1,CL D,W1,{ target:=.fn (.func gf) #[pb],args:= #[.func (.yield (D+1)) #[] #[]] },W1,gf, #[.func (.yield (D+1)) #[] #[]]++ #[pb],W1,?_,?_,fun _ _=>trivial,?_,fun h=>(by cases h),?_⟩
 ·subst hD;rw[<-w8, <-oN];exact run_enterLoop_outer _ _ _ _ _
 ·rw[W7]
  have hc:ev n σ (.const (.func (.yield (D+1)) #[] #[]))=.func (.yield (D+1)) #[] #[]:=rfl
  cases op<;>simp[resolve,rangeCall,hg,hc,Deferred.ofValue]
 ·simp[invoke,Vr hf hb fR]
 refine callsIn_wide.2 ?_
 refine x9 (hIt (fun x=>Lv x++[Ch.obj D (.deferred (some [])),Ch.obj (D+1) (.loop (rec .ready none))]) (D+1) W1 H3 ?_) ?_
 ·intro it A4 x k a W hI hgot hk HW
  have HWp:Hp w0 W S (FX++(Lv x++[Ch.obj D (.deferred (some [])),Ch.obj (D+1) (.loop (rec .ready none)),itC it (A4++[k])])):=HW.permL (by
   have:=(List.perm_append_comm (l₁:=[itC it (A4++[k])]) (l₂:=FX++(Lv x++[Ch.obj D (.deferred (some [])),Ch.obj (D+1) (.loop (rec .ready none))])))
   rw[H9,H9]at this
   exact this)
  have hi:(FX++(Lv x++[Ch.obj D (.deferred (some [])),Ch.obj (D+1) (.loop (rec .ready none)),itC it (A4++[k])]))[FX.length+((Lv x).length+1)]? =some (Ch.obj (D+1) (.loop (rec .ready none))):=by
   rw[L7 zO,jX,L7 zO,jX];rfl
  have hl:W.heap[D+1]? =some (.loop (rec .ready none)):=HWp.has _ (E3 hi)
  have hy:=run_yield (P:=P) (args:= #[kv k]) hl (by rw[<-oN];rfl)
  refine⟨_,_,_,_,hy,roundIn_of_wpIn trivial ?_⟩
  have hact:({ tmps:=((rec .ready none).params.zip #[kv k]).foldl (fun tmps (x:Tmp×Value)=>tmps.setIfInBounds x.1 x.2) (rec .ready none).tmps,defers:=[]}:Act)=mk n (up σ p (kv k)):=by
   rw[<-eR, <-oN]
   simp[Act.put,oT]
  rw[hact]
  have ha:(rec .ready none).assign=assign:=by rw[<-oN]
  have hbd:(rec .ready none).body=body:=by rw[<-oN]
  rw[ha,hbd]
  refine wpIn_mono (hround (D+1) _ A4 x k a W hI hgot hk HWp) ?_;intro e a₁ W₁ hq
  cases e with
 |normal=>
   obtain⟨Lb,HLb,hbody⟩:=hq
   have kJ:(Lb++[Ch.obj D (.deferred (some [])),Ch.obj (D+1) (.loop (rec .ready none)),itC it (A4++[k])])[Lb.length+1]? =some (Ch.obj (D+1) (.loop (rec .ready none))):=by
    rw[L7 zO,jX];rfl
   have dO:W₁.heap[D+1]? =some (.loop (rec .ready none)):=HLb.has _ (E3 kJ)
   have hbg:=run_beginRound (P:=P) dO (by rw[<-oN])
   have H4:=HLb.putObj (o':=.loop { rec .ready none with state:=.busy }) kJ
   rw[show(Lb++[Ch.obj D (.deferred (some [])),Ch.obj (D+1) (.loop (rec .ready none)),itC it (A4++[k])]).set (Lb.length+1) (.obj (D+1) (.loop { rec .ready none with state:=.busy }))=Lb++[Ch.obj D (.deferred (some [])),Ch.obj (D+1) (.loop { rec .ready none with state:=.busy }),itC it (A4++[k])] from by
    rw[dA _ _ zO,jX];rfl]at H4
   refine⟨_,hbg,wpIn_mono (hbody _ _ H4) ?_⟩
   rintro e a₂ W₃ ⟨rfl,x',rC,H5⟩
   have iR:(FX++(Lv x'++[Ch.obj D (.deferred (some [])),Ch.obj (D+1) (.loop { rec .ready none with state:=.busy }),itC it (A4++[k])]))[FX.length+((Lv x').length+1)]? =some (Ch.obj (D+1) (.loop { rec .ready none with state:=.busy })):=by
    rw[L7 zO,jX,L7 zO,jX];rfl
   have wD:W₃.heap[D+1]? =some (.loop { rec .ready none with state:=.busy }):=H5.has _ (E3 iR)
   have hen:=run_endRound (P:=P) none wD
   have H6:=H5.putObj (o':=.loop (rec .ready none)) iR
   rw[dA _ _ zO,jX,dA _ _ zO,jX]at H6
   have nQ:({ ({ rec .ready none with state:=.busy}:Loop) with state:=if (none:Option Code).isNone then .ready else .done,pending:=none}:Loop)=rec .ready none:=by rw[<-oN];rfl
   rw[nQ]at hen
   refine⟨_,_,hen,rfl,x',rC,H6.permL ?_⟩
   have:=(List.perm_append_comm (l₁:=FX++(Lv x'++[Ch.obj D (.deferred (some [])),Ch.obj (D+1) (.loop (rec .ready none))])) (l₂:=[itC it (A4++[k])]))
   rw[H9,H9]at this
   exact this
 |exit _=>exact hq.elim
 |ret=>exact hq.elim
 |goto _=>exact hq.elim
 |panic _=>exact hq.elim
 |outgrown=>exact hq.elim
 rintro e W2 ⟨v,rfl,A4,x,hI,hA,HW⟩
 have hi:(FX++(Lv x++[Ch.obj D (.deferred (some [])),Ch.obj (D+1) (.loop (rec .ready none))]))[FX.length+((Lv x).length+1)]? =some (Ch.obj (D+1) (.loop (rec .ready none))):=by
  rw[L7 zO,jX,L7 zO,jX];rfl
 have hl:W2.heap[D+1]? =some (.loop (rec .ready none)):=HW.has _ (E3 hi)
 have hen:=run_endLoop (P:=P) hl (by rw[<-oN];simp)
 have H6:=HW.putObj (o':=.loop { rec .ready none with state:=.exhausted }) hi
 rw[dA _ _ zO,jX,dA _ _ zO,jX]at H6
 have hpn:(rec .ready none).pending=none:=by rw[<-oN]
 refine⟨none,_,hen.trans (congrArg (fun z=>Result.ok z (W2.putObj (D+1) (.loop { rec .ready none with state:=.exhausted }))) hpn),?_⟩
 show Q .normal { tmps:=(mk n σ).tmps,defers:=CL D++(mk n σ).defers} _
 rw[oT,Z5]
 refine hdone D A4 x _ hI hA ?_;have hp:=(List.perm_append_comm (l₁:=FX++Lv x) (l₂:=[Ch.obj D (.deferred (some []))]))
 refine(H6.sub ?_).permL hp
 rw[H9]
 exact List.Sublist.append_left (List.Sublist.append_left (.cons_cons _ (.cons _ (.refl _))) _) _
end
def nG(x:It):List Value:=([.string ⟨(x.name).toArray⟩,VI x.kind]:List Value)++((x.of.1).map V8++(([VI x.size]:List Value)))
def uQ(x:Ob):List Value:=(x.of.1).map V8++(([x.data.v]:List Value))
def Vs(x:RO):List Value:=([x.data.v,.bool x.hit]:List Value)
def g9(v:RO):Value:=.agg (Vs v).toArray
def D3:RO:=⟨⟨none,0,0,[]⟩,false⟩
theorem OJ(w:World):(zeroValue 262).run Tryz.prog w=.ok (g9 D3) w:=by
 have h:(Tryz.prog.info? 262).map (·.zero)=some (some (g9 D3)):=by kernel_rfl
 cases hi:Tryz.prog.info? 262 with
|none=>rw[hi]at h;cases h
|some i=>
  rw[hi]at h
  have hz:i.zero=some (g9 D3):=by simpa using h
  rw[zeroValue]
  simp[typeInfo,Sem.run,hi,hz]
theorem Vt{l:List Ob}{o:Ob}(h:(cW l o.of).isSome=false):bH (cW l) o.of ⟨o.data,false⟩=cW (l++[o]):=by
 rw[ZE]at h
 funext k
 rw[bH,cW,cW,ZD]
 by_cases e:k=o.of
 ·rw[if_pos e,e,h,if_neg (by decide),if_pos rfl];rfl
 rw[if_neg e]
 by_cases hs:(Z3 l k).isSome=true
 ·rw[if_pos hs]
 rw[if_neg hs,if_neg e]
 cases hl:Z3 l k with
 |none=>rfl
 |some s=>rw[hl]at hs;exact absurd rfl hs
theorem Vu{l:List Ob}{o:Ob}(h:(cW l o.of).isSome=true):cW l=cW (l++[o]):=by
 rw[ZE]at h
 funext k
 rw[cW,cW,ZD]
 by_cases hs:(Z3 l k).isSome=true
 ·rw[if_pos hs]
 rw[if_neg hs]
 have e:k≠o.of:=fun e=>hs (by rw[e];exact h)
 rw[if_neg e]
 cases hl:Z3 l k with
 |none=>rfl
 |some s=>rw[hl]at hs;exact absurd rfl hs
theorem OK{l:List α}{x:α}(h:l[i]? =some x):l.take (i+1)=l.take i++[x]:=by
 rw[DE,h];rfl
def II(w0 w:World)(v:Value)(w':World):Prop:=∃(I:Gl It) (e:Int) (T1:List Ch),v=.tuple #[I.v,VI e]/\I.l.length=I.len/\I.len<=64/\(∀(w2:World) (L:List Ch),Hp w0 w2 [] L->T1.Sublist L->I.ok nG 35 w2)/\Hp w w' [] T1
def HT(l:List Ob)(w0:World):Prop:=∀o∈l,∀(w:World) (L:List Ch),Hp w0 w [] L->Ret Tryz.prog 185 [o.data.v] w (II w0 w)
theorem IJ{I:Gl It}{w2:World}{T1 L:List Ch}(h:∀(w2:World) (L:List Ch),Hp w0 w2 [] L->T1.Sublist L->I.ok nG 35 w2)(H:Hp w0 w2 [] L)(hs:T1.Sublist L:=by repeat (first|exact rA _|refine List.Sublist.cons _ ?_)):I.ok nG 35 w2:=h w2 L H hs
theorem Vv{l:List Ob}{F:A6->Option RO}(h:FD l F)(ho:∀o∈l,o.data.ok w/\o.data.len<=1048576)(k:A6):((F k).getD D3).data.ok w/\((F k).getD D3).data.len<=1048576:=by
 cases hf:F k with
|none=>exact⟨Sl.ok_nil _,by simp[D3]⟩
|some v=>
  obtain⟨o,h1,_,h3⟩:=yX (IB h hf)
  show v.data.ok w/\v.data.len<=1048576
  rw[<-h3];exact ho o h1
theorem Vw{l:List Ob}{F:A6->Option RO}(hT:HT l w0)(h:FD l F){x:A6}(hx:(F x).isSome=true)(H:Hp w0 w [] L):Ret Tryz.prog 185 [((F x).getD D3).data.v] w (II w0 w):=by
 obtain⟨v,hv⟩:=iF.1 hx
 obtain⟨o,h1,_,h3⟩:=yX (IB h hv)
 rw[hv]
 show Ret Tryz.prog 185 [v.data.v] w (II w0 w)
 rw[<-h3]
 exact hT o h1 w L H
theorem Vx{t:List A6}{x:A6}(h:t[((t.length:Int)-1).toNat]? =some x):t=t.take (t.length-1)++[x]:=by
 have e:((t.length:Int)-1).toNat=t.length-1:=by omega
 rw[e]at h
 have hlt:=(N1.1 h).1
 rw[<-OK h,V9 zO]
theorem Vy(w0:World)(r:Gl A6)(hr:r.ok C2 32 w0)(hm:r.len<=4194304):
 Ret Tryz.prog 195 [r.v] w0 fun v w'=>∃a c,v=.slice (hd a) r.l.length c/\Hp w0 w' [] [.own a r.l.length c (r.l.flatMap C2) 36 32]:=by
 refine T7 Tryz.func195 rfl Tryz.ntmps195 (by simp) ?_
 have H:=Hp.refl w0 []
 have rN:=hr.ln
 refine rG ?_;refine aZ ?_;refine eN ?_
 refine rG ?_;refine B8 ?_;refine lV (Sz Tryz.underlying181 zK rfl rfl) ?_;refine eN ?_
 have hc10:=JL (r.a.isNone)
 rcases hc10 with hc1|hc1
 ·
  repeat refine D8 ?_
  refine cG (by exact congrArg Value.bool hc1) ?_;refine rG ?_;refine aZ ?_;refine eN ?_
  refine o8 ?_
  refine w9 (v:=.slice none 0 0) Tryz.results195 rfl ?_
  refine⟨_,rfl,?_⟩
  have h0:r.a=none:=by have:=(hc1);simpa using this
  have aR:r.l=[]:=by rcases hr.rd with h|⟨b,o,C,T,fr,ha,_⟩;(cases hl:r.l with|nil=>rfl|cons x xs=>rw[hl,iG]at h;have:=congrArg List.length h;simp[aI]at this);rw[h0]at ha;cases ha
  rw[aR]
  exact⟨none,0,rfl,H.nilEnd 36 32⟩
 
 repeat refine D8 ?_
 refine cH (by exact congrArg Value.bool hc1) ?_;refine M6 ?_;refine rG ?_;refine A3 (Sj (α:=A6) (enc:=C2) H pD aW (by decide) (fun b2 w H U5=>?_));replace H:Hp _ w _ ([.own (some b2) 0 0 ((([]:List A6)).flatMap C2) 36 32]):=H
 refine B8 ?_;refine A3 (HI (enc:=C2) (s:=r) (l':=r.l) (len':=r.len) rfl (J5 _) H (i:=0) rfl pD Tryz.underlying181 rfl rfl (hr.up H) (by decide) (fun c _=>uP c) zO (by decide) (fun a3 c4 w H=>?_));replace H:Hp _ w _ ([.own a3 r.len c4 ((r.l).flatMap C2) 36 32]):=H
 refine aZ ?_;refine eN ?_
 refine o8 ?_
 refine w9 (v:=.slice (hd a3) r.len c4) Tryz.results195 rfl ?_
 refine⟨_,rfl,?_⟩
 rw[hr.ln]
 exact⟨_,_,rfl,H.sub (.cons_cons _ (P4 _))⟩
theorem Ab{F:A6->Option RO}{x:A6}(h:(F x).isSome=true):F x=some ((F x).getD D3):=by
 obtain⟨v,hv⟩:=iF.1 h
 rw[hv];rfl
theorem Ac(w0:World)(g:Gl Ob)(hg:g.ok uQ 33 w0)(ho:∀o∈g.l,o.data.ok w0/\o.data.len<=1048576)(hgm:g.len<=65536)(r:Gl A6)(hr:r.ok C2 32 w0)(hrm:r.len<=65536)(hT:HT g.l w0):
 Ret Tryz.prog 172 [g.v,r.v] w0 fun v w'=>∃b M c F,v=.map (some b)/\MIs g9 M F/\MOk M c/\FD g.l F/\Hp w0 w' [] [.obj b (B7 kA M c)]:=by
 refine T7 Tryz.func172 rfl Tryz.ntmps172 (by simp) ?_
 have H:=Hp.refl w0 []
 have hgl:=hg.ln
 have rN:=hr.ln
 refine rG ?_;refine aZ ?_;refine eN ?_
 refine rG ?_;refine A3 (So kA H (fun b1 w H P8=>?_));replace H:Hp _ w _ ([.obj b1 (B7 kA ([]:List (A6×Value×Nat)) 0)]):=H
 refine aZ ?_;refine eN ?_
 refine rG ?_;refine B8 ?_;refine lV (aC QJ rfl) ?_;refine B8 ?_;refine eN ?_
 refine qB ?_;repeat refine D8 ?_
 refine WH (fun(i:Nat) (M:List (A6×Value×Nat)) (c:Nat) (F:A6->Option RO)=>[(1,r.v),(5,.map (some b1)),(19,g.v),(20,VI (g.len:Int)),(21,VI (i:Int))])
  (fun(i:Nat) (M:List (A6×Value×Nat)) (c:Nat) (F:A6->Option RO) w=>(i<=g.len/\MIs g9 M F/\MOk M c/\F=cW (g.l.take i))/\Hp w0 w [] ([.obj b1 (B7 kA M c)]))
  (fun(i:Nat) (M:List (A6×Value×Nat)) (c:Nat) (F:A6->Option RO)=>g.len-i) 0 ([]) 0 (fun _=>none) ⟨rfl,rfl,rfl,rfl,rfl,zT⟩ ⟨⟨L8 _,MIs.nil,MOk.nil,rfl⟩,H⟩ ?_
 clear H
 rintro i M c F τ w ⟨⟨hil,hF,hM,hFd⟩,H⟩
 refine rG ?_;refine lV (D1 (a:=(i:Int)) (b:=(g.len:Int)) rfl rfl (fun _=>aB)) ?_;refine eN ?_
 by_cases W4:(i:Int)<(g.len:Int)
 ·
  repeat refine D8 ?_
  refine cG (by exact bT W4) ?_;refine M6 ?_;refine qB ?_;refine rG ?_;have iQ:=((hg.up H)).addr (by decide) (by first|omega|(dsimp only;omega))
  obtain⟨ab3,ao4,iQ⟩:=iQ
  refine lV (kY i rfl rfl QJ iQ zO (by (try simp only[Sl.cut]);omega)) ?_;have sB:∃c,g.l[i]? =some c:=⟨_,B6 (by have:=((hg.up H)).ln;(try dsimp only at this ⊢);omega)⟩
  obtain⟨e6,sB⟩:=sB
  have hez8:=((hg.up H)).sz e6 (E3 sB)
  have hod_e6:=(ho e6 (E3 sB)).1
  have hodl_e6:=(ho e6 (E3 sB)).2
  refine lV (NQ (s:=g) (k:=i) (hg.up H) iQ rfl Et (by decide) sB) ?_;refine A3 (W9 H Ew (fun b9 w H hb9=>?_));replace H:Hp _ w _ ([_,.blk b9 ((replicate 32 (0:UInt8)).map V8++(([.slice none 0 0]:List Value))) 234]):=H
  refine A3 (HH (C':=(e6.of.1).map V8++(([e6.data.v]:List Value))) H (i:=1) rfl rfl rfl Eu (by first|(simp[V8,Value.oneCell',Sl.v,Gl.v,vJ,vK];done)|(simp only[vJ,vB,List.all_nil,vK];simp[Value.oneCell',Function.comp_def])) (by simp only[C6,J7,G8,M3,(show(replicate 32 (0:UInt8)).length=32 from(jV ..))]) (by simp only[C6,J7,G8,M3,(show(e6.of.1).length=32 from e6.of.2)]) (fun w H=>?_));replace H:Hp _ w _ ([_,.blk b9 ((e6.of.1).map V8++(([e6.data.v]:List Value))) 234]):=H
  refine eN ?_
  refine rG ?_;refine B8 ?_;refine lV (eW rfl QK) ?_;refine lV (NU H (i:=1) rfl rfl aV (show Cut3 ((e6.of.1).map V8++(([e6.data.v]:List Value))) (([]:List Value)) ((e6.of.1).map V8) (([e6.data.v]:List Value)) 0 32 from⟨(show(e6.of.1).map V8++(([e6.data.v]:List Value))=([]:List Value)++(((e6.of.1).map V8)++(([e6.data.v]:List Value))) from by simp only[H9,v6,Y5]),(by rfl),(by simp only[C6,J7,G8,M3,(show(e6.of.1).length=32 from e6.of.2)])⟩)) ?_;refine lV (XY (k:=e6.of) D3 hF H (i:=0) rfl Tryz.underlying241 CI OJ rfl rfl) ?_;refine B8 ?_;refine lV (cO rfl rfl) ?_;refine lV (cO rfl rfl) ?_;refine A3 (W9 H KO (fun b10 w H hb10=>?_));replace H:Hp _ w _ ([_,_,.blk b10 (([.slice none 0 0,.bool false]:List Value)) 262]):=H
  refine A3 (HH (C':=([(((F e6.of).getD D3).data).v,.bool (((F e6.of).getD D3).hit)]:List Value)) H (i:=2) rfl rfl rfl QR (by first|(simp[V8,Value.oneCell',Sl.v,Gl.v,vJ,vK];done)|(simp only[vJ,vB,List.all_nil,vK];simp[Value.oneCell',Function.comp_def])) (by rfl) (by rfl) (fun w H=>?_));replace H:Hp _ w _ ([_,_,.blk b10 (([(((F e6.of).getD D3).data).v,.bool (((F e6.of).getD D3).hit)]:List Value)) 262]):=H
  refine aZ ?_;refine eN ?_
  refine rG ?_;refine B8 ?_;refine lV (AF rfl) ?_;refine eN ?_
  have hc110:=JL ((F e6.of).isSome)
  rcases hc110 with hc11|hc11
  ·
   repeat refine D8 ?_
   refine cH (by exact congrArg Value.bool (congrArg not hc11)) ?_;refine M6 ?_;refine rG ?_;refine lV (D1 (a:=(i:Int)) (b:=1) rfl rfl (fun _=>Z9 zO zO)) ?_;refine B8 ?_;refine eN ?_
   refine U7 (i+1,M,c,F) ?_ ?_ ?_
   ·exact⟨rfl,rfl,rfl,rfl,show VI ((i:Int)+1)=VI ((i+1:Nat):Int) from congrArg VI zO,zT⟩
   ·refine⟨?_,?_⟩
    ·try dsimp only
     exact⟨zO,hF,hM,by rw[OK sB,hFd]at *;exact Vu hc11⟩
    exact H.sub (.cons_cons _ (P4 _))
   show g.len-(i+1:Nat)<g.len-i;omega
  
  repeat refine D8 ?_
  refine cG (by exact congrArg Value.bool (congrArg not hc11)) ?_;refine rG ?_;refine B8 ?_;refine lV (eW rfl QK) ?_;refine lV (NU H (i:=1) rfl rfl aV (show Cut3 ((e6.of.1).map V8++(([e6.data.v]:List Value))) (([]:List Value)) ((e6.of.1).map V8) (([e6.data.v]:List Value)) 0 32 from⟨(show(e6.of.1).map V8++(([e6.data.v]:List Value))=([]:List Value)++(((e6.of.1).map V8)++(([e6.data.v]:List Value))) from by simp only[H9,v6,Y5]),(by rfl),(by simp only[C6,J7,G8,M3,(show(e6.of.1).length=32 from e6.of.2)])⟩)) ?_;refine lV (eW rfl Ex) ?_;refine lV (NT (v:=e6.data.v) H (i:=1) rfl rfl EI (show Cut3 ((e6.of.1).map V8++(([e6.data.v]:List Value))) ((e6.of.1).map V8) (([e6.data.v]:List Value)) (([]:List Value)) 32 1 from⟨(show(e6.of.1).map V8++(([e6.data.v]:List Value))=((e6.of.1).map V8)++((([e6.data.v]:List Value))++(([]:List Value))) from by simp only[H9,v6,Y5]),(by simp only[C6,J7,G8,M3,(show(e6.of.1).length=32 from e6.of.2)]),(by rfl)⟩)) ?_;refine lV (Sv (Z:=([.slice none 0 0,.bool false]:List Value)) (E:=([e6.data.v,.bool false]:List Value)) (pv:=[(0,e6.data.v)]) Fg rfl rfl (.cons (A:=([]:List Value)) (B:=([.slice none 0 0]:List Value)) (D:=([.bool false]:List Value)) (V:=([e6.data.v]:List Value)) (a:=0) (b:=1) rfl (show Cut3 (([.slice none 0 0,.bool false]:List Value)) (([]:List Value)) (([.slice none 0 0]:List Value)) (([.bool false]:List Value)) 0 1 from⟨(show([.slice none 0 0,.bool false]:List Value)=([]:List Value)++((([.slice none 0 0]:List Value))++(([.bool false]:List Value))) from by simp only[H9,v6,Y5]),(by rfl),(by rfl)⟩) (by rfl) (by rfl) ((show([e6.data.v,.bool false]:List Value)=([]:List Value)++((([e6.data.v]:List Value))++(([.bool false]:List Value))) from by simp only[H9,v6,Y5])▸.nil _))) ?_;refine A3 (XX (kv:=kA) (k:=e6.of) (v:=g9 (⟨e6.data,false⟩:RO)) H (i:=0) rfl Tryz.underlying241 CI rfl rfl rfl (fun w H=>?_));replace H:Hp _ w _ ([.obj b1 (B7 kA (K7 e6.of (g9 (⟨e6.data,false⟩:RO)) c M) (f9 M e6.of c)),_,_]):=H
  refine eN ?_
  refine rG ?_;refine lV (D1 (a:=(i:Int)) (b:=1) rfl rfl (fun _=>Z9 zO zO)) ?_;refine B8 ?_;refine eN ?_
  refine U7 (i+1,K7 e6.of (g9 (⟨e6.data,false⟩:RO)) c M,f9 M e6.of c,bH F e6.of (⟨e6.data,false⟩:RO)) ?_ ?_ ?_
  ·exact⟨rfl,rfl,rfl,rfl,show VI ((i:Int)+1)=VI ((i+1:Nat):Int) from congrArg VI zO,zT⟩
  ·refine⟨?_,?_⟩
   ·try dsimp only
    exact⟨zO,(hF.put e6.of (⟨e6.data,false⟩:RO) c),(hM.put e6.of (g9 (⟨e6.data,false⟩:RO))),by rw[OK sB,hFd]at *;exact Vt hc11⟩
   exact H.sub (.cons_cons _ (P4 _))
  show g.len-(i+1:Nat)<g.len-i;omega
 
 repeat refine D8 ?_
 refine cH (by exact bF W4) ?_;refine W8 ?_;refine rG ?_;refine B8 ?_;refine A3 (N4 Tryz.func195 rfl rfl rfl (Vy _ r (hr.up H) (by (try dsimp only);omega)) ?_);rintro _ w ⟨a12,c13,rfl,Hc⟩
 replace H:Hp _ w _ ([_,.own a12 r.l.length c13 ((r.l).flatMap C2) 36 32]):=H.call Hc
 clear Hc
 refine aZ ?_;refine eN ?_
 refine qB ?_;repeat refine D8 ?_
 refine Sn (fun(t:List A6) (M:List (A6×Value×Nat)) (c:Nat) (F:A6->Option RO) (a:Option Nat) (k:Nat)=>[(5,.map (some b1)),(10,.slice (hd a) t.length k)])
  (fun(t:List A6) (M:List (A6×Value×Nat)) (c:Nat) (F:A6->Option RO) (a:Option Nat) (k:Nat) w=>(MIs g9 M F/\MOk M c/\FD g.l F/\t.length+64*unh g.l F<=r.len+64*g.len)/\Hp w0 w [] ([.obj b1 (B7 kA M c),.own a t.length k ((t).flatMap C2) 36 32]))
  (fun(t:List A6) (M:List (A6×Value×Nat)) (c:Nat) (F:A6->Option RO) (a:Option Nat) (k:Nat)=>65*unh g.l F+t.length) r.l M c F a12 c13 ⟨rfl,rfl,zT⟩ ⟨⟨hF,hM,by rw[hFd,V9 zO];exact FD.start,by have:=List.length_filter_le (eF F) g.l;rw[hr.ln];simp only[unh];omega⟩,(H.sub (.cons_cons _ (.cons_cons _ (P4 _))))⟩ ?_
 clear H
 rintro t M c F a k τ w ⟨⟨hF,hM,wP,htb⟩,H⟩
 have hFd:=fun k=>Vv wP ho k
 refine rG ?_;refine B8 ?_;refine lV (aC AI rfl) ?_;refine lV (D1 (a:=(t.length:Int)) (b:=0) rfl rfl (fun _=>zY)) ?_;refine eN ?_
 by_cases hc14:0<(t.length:Int)
 ·
  repeat refine D8 ?_
  refine cG (by exact bT hc14) ?_;refine M6 ?_;refine qB ?_;refine rG ?_;refine B8 ?_;refine B8 ?_;refine lV (aC AI rfl) ?_;refine lV (D1 (a:=(t.length:Int)) (b:=1) rfl rfl (fun _=>gE zO zO)) ?_;have ah16:=H.ownAddr (i:=1) rfl zO
  obtain⟨ab15,ah16⟩:=ah16
  refine lV (kY (((t.length:Int)-1).toNat) rfl rfl AI ah16 zO (by (try simp only[Sl.cut]);omega)) ?_;have he18:∃c,(t)[((t.length:Int)-1).toNat]? =some c:=⟨_,B6 (by have:=((H.glOwn (i:=1) rfl (by decide) (fun c _=>aI c))).ln;(try dsimp only at this ⊢);omega)⟩
  obtain⟨C7,he18⟩:=he18
  have hez19:=((H.glOwn (i:=1) rfl (by decide) (fun c _=>aI c))).sz C7 (E3 he18)
  refine lV (NQ (s:=(⟨hd a,t.length,k,t⟩:Gl A6)) (k:=((t.length:Int)-1).toNat) (H.glOwn (i:=1) rfl (by decide) (fun c _=>aI c)) ah16 rfl aV (by decide) he18) ?_;refine A3 (W9 H aW (fun oO w H hb20=>?_));replace H:Hp _ w _ ([_,_,.blk oO ((replicate 32 (0:UInt8)).map V8) 36]):=H
  refine A3 (nC (l':=C7.1) H (i:=2) rfl rfl rfl jC (show(replicate 32 (0:UInt8)).length=32 from(jV ..)) (show(C7.1).length=32 from C7.2) (fun w H=>?_));replace H:Hp _ w _ ([_,_,.blk oO ((C7.1).map V8) 36]):=H
  refine eN ?_
  have gA:=Vx he18
  have htl:(t.take (t.length-1)).length=t.length-1:=by rw[F7];omega
  refine rG ?_;refine B8 ?_;refine B8 ?_;refine lV (aC AI rfl) ?_;refine lV (D1 (a:=(t.length:Int)) (b:=1) rfl rfl (fun _=>gE zO zO)) ?_;have hol21:=(H.ownLen (i:=1) rfl).2.1
  refine lV (Qo (h:=(t.take (t.length-1)).length) (m:=k) (hv:=some (VI ((t.length:Int)-1))) rfl AI rfl rfl rfl (fun w=>by exact Qp (t.take (t.length-1)).length zO zO w)) ?_;refine aZ ?_;refine eN ?_
  have Hs:=H.shrink (i:=1) (t.length-1) rfl aI zO
  replace H:Hp w0 w [] [.obj b1 (B7 kA M c),.own a ((t.take (t.length-1)).length) k ((t.take (t.length-1)).flatMap C2) 36 32,.blk oO ((C7.1).map V8) 36]:=by rw[htl];exact Hs
  clear Hs
  replace H:Hp _ w _ ([_,.own a ((t.take (t.length-1)).length) k ((t.take (t.length-1)).flatMap C2) 36 32,_]):=H
  refine rG ?_;refine B8 ?_;refine lV (uF (l:=C7.1) H (i:=2) rfl rfl aV (show(C7.1).length=32 from C7.2)) ?_;refine lV (XY (k:=C7) D3 hF H (i:=0) rfl Tryz.underlying241 CI OJ rfl rfl) ?_;refine B8 ?_;refine lV (cO rfl rfl) ?_;refine lV (cO rfl rfl) ?_;refine A3 (W9 H KO (fun oP w H hb22=>?_));replace H:Hp _ w _ ([_,_,_,.blk oP (([.slice none 0 0,.bool false]:List Value)) 262]):=H
  refine A3 (HH (C':=([(((F C7).getD D3).data).v,.bool (((F C7).getD D3).hit)]:List Value)) H (i:=3) rfl rfl rfl QR (by first|(simp[V8,Value.oneCell',Sl.v,Gl.v,vJ,vK];done)|(simp only[vJ,vB,List.all_nil,vK];simp[Value.oneCell',Function.comp_def])) (by rfl) (by rfl) (fun w H=>?_));replace H:Hp _ w _ ([_,_,_,.blk oP (([(((F C7).getD D3).data).v,.bool (((F C7).getD D3).hit)]:List Value)) 262]):=H
  refine aZ ?_;refine eN ?_
  refine rG ?_;refine B8 ?_;refine lV (AF rfl) ?_;refine B8 ?_;have hc230:=JL ((F C7).isSome)
  rcases hc230 with hc23|hc23
  ·
   refine cE rfl rfl (by exact congrArg Value.bool (congrArg not hc23)) (G5 (eW rfl QS) ?_);refine cE rfl rfl (by exact congrArg Value.bool (congrArg not hc23)) (G5 (NT (v:=.bool (((F C7).getD D3).hit)) H (i:=3) rfl rfl EG (show Cut3 (([(((F C7).getD D3).data).v,.bool (((F C7).getD D3).hit)]:List Value)) (([(((F C7).getD D3).data).v]:List Value)) (([.bool (((F C7).getD D3).hit)]:List Value)) (([]:List Value)) 1 1 from⟨(show([(((F C7).getD D3).data).v,.bool (((F C7).getD D3).hit)]:List Value)=([(((F C7).getD D3).data).v]:List Value)++((([.bool (((F C7).getD D3).hit)]:List Value))++(([]:List Value))) from by simp only[H9,v6,Y5]),(by rfl),(by rfl)⟩)) ?_);refine lV (wY (b:=false) (congrArg Value.bool (congrArg not hc23))) ?_;refine eN ?_
   have hc240:=JL (((F C7).getD D3).hit)
   rcases hc240 with hc24|hc24
   ·
    repeat refine D8 ?_
    refine cG (by exact congrArg Value.bool hc24) ?_;refine W8 ?_;refine U7 (t.take (t.length-1),M,c,F,a,k) ?_ ?_ ?_
    ·exact⟨rfl,rfl,zT⟩
    ·refine⟨?_,?_⟩
     ·try dsimp only
      exact⟨hF,hM,wP,by rw[F7];omega⟩
     exact H.sub (.cons_cons _ (.cons_cons _ (P4 _)))
    show 65*unh g.l F+(t.take (t.length-1)).length<65*unh g.l F+t.length;rw[F7];omega
   
   repeat refine D8 ?_
   refine cH (by exact congrArg Value.bool hc24) ?_;refine M6 ?_;refine rG ?_;refine lV (eW rfl QS) ?_;refine A3 (Sx (u:=.bool true) H (i:=3) rfl rfl rfl Ek rfl (show Cut3 (([(((F C7).getD D3).data).v,.bool (((F C7).getD D3).hit)]:List Value)) (([(((F C7).getD D3).data).v]:List Value)) (([.bool (((F C7).getD D3).hit)]:List Value)) (([]:List Value)) 1 1 from⟨(show([(((F C7).getD D3).data).v,.bool (((F C7).getD D3).hit)]:List Value)=([(((F C7).getD D3).data).v]:List Value)++((([.bool (((F C7).getD D3).hit)]:List Value))++(([]:List Value))) from by simp only[H9,v6,Y5]),(by rfl),(by rfl)⟩) (fun w H=>?_))
   rw[show([(((F C7).getD D3).data).v]:List Value)++(([.bool true]:List Value)++(([]:List Value)))=([(((F C7).getD D3).data).v,.bool true]:List Value) from by simp only[H9,v6,Y5]]at H
   replace H:Hp _ w _ ([_,_,_,.blk oP (([(((F C7).getD D3).data).v,.bool true]:List Value)) 262]):=H
   refine eN ?_
   refine rG ?_;refine B8 ?_;refine lV (uF (l:=C7.1) H (i:=2) rfl rfl aV (show(C7.1).length=32 from C7.2)) ?_;refine lV (VZ (C:=([(((F C7).getD D3).data).v,.bool true]:List Value)) H (i:=3) rfl rfl Fd (by rfl)) ?_;refine A3 (XX (kv:=kA) (k:=C7) (v:=g9 (⟨(((F C7).getD D3).data),true⟩:RO)) H (i:=0) rfl Tryz.underlying241 CI rfl rfl rfl (fun w H=>?_));replace H:Hp _ w _ ([.obj b1 (B7 kA (K7 C7 (g9 (⟨(((F C7).getD D3).data),true⟩:RO)) c M) (f9 M C7 c)),_,_,_]):=H
   refine eN ?_
   refine rG ?_;refine lV (eW rfl Fe) ?_;refine lV (NT (v:=(((F C7).getD D3).data).v) H (i:=3) rfl rfl EI (show Cut3 (([(((F C7).getD D3).data).v,.bool true]:List Value)) (([]:List Value)) (([(((F C7).getD D3).data).v]:List Value)) (([.bool true]:List Value)) 0 1 from⟨(show([(((F C7).getD D3).data).v,.bool true]:List Value)=([]:List Value)++((([(((F C7).getD D3).data).v]:List Value))++(([.bool true]:List Value))) from by simp only[H9,v6,Y5]),(by rfl),(by rfl)⟩)) ?_;refine A3 (N4 Tryz.func185 rfl rfl rfl (Vw hT wP hc23 H) ?_);rintro _ w ⟨I25,e26,T27,rfl,hIn28,hIl29,hIo30,Hc⟩
   replace H:Hp _ w _ (Ch.obj b1 (B7 kA (K7 C7 (g9 (⟨(((F C7).getD D3).data),true⟩:RO)) c M) (f9 M C7 c))::Ch.own a ((t.take (t.length-1)).length) k ((t.take (t.length-1)).flatMap C2) 36 32::Ch.blk oO ((C7.1).map V8) 36::Ch.blk oP (([(((F C7).getD D3).data).v,.bool true]:List Value)) 262::T27):=H.call Hc
   clear Hc
   refine B8 ?_;refine lV (cO rfl rfl) ?_;refine lV (cO rfl rfl) ?_;refine aZ ?_;refine aZ ?_;refine eN ?_
   refine rG ?_;refine B8 ?_;refine lV (aC QH rfl) ?_;refine B8 ?_;refine eN ?_
   refine qB ?_;repeat refine D8 ?_
   refine WH (fun(j:Nat) (u:List A6) (a2:Option Nat) (k2:Nat)=>[(5,.map (some b1)),(10,.slice (hd a2) u.length k2),(79,I25.v),(80,VI (I25.len:Int)),(81,VI (j:Int))])
    (fun(j:Nat) (u:List A6) (a2:Option Nat) (k2:Nat) w=>(j<=I25.len/\u.length=t.length-1+j)/\Hp w0 w [] (Ch.obj b1 (B7 kA (K7 C7 (g9 (⟨(((F C7).getD D3).data),true⟩:RO)) c M) (f9 M C7 c))::Ch.own a2 u.length k2 ((u).flatMap C2) 36 32::Ch.blk oO ((C7.1).map V8) 36::Ch.blk oP (([(((F C7).getD D3).data).v,.bool true]:List Value)) 262::T27))
    (fun(j:Nat) (u:List A6) (a2:Option Nat) (k2:Nat)=>I25.len-j) 0 (t.take (t.length-1)) a k ⟨rfl,rfl,rfl,rfl,rfl,zT⟩ ⟨⟨L8 _,by rw[F7];omega⟩,H⟩ ?_
   clear H
   rintro j u a2 k2 τ w ⟨⟨hj,hu⟩,H⟩
   refine rG ?_;refine lV (D1 (a:=(j:Int)) (b:=(I25.len:Int)) rfl rfl (fun _=>aB)) ?_;refine eN ?_
   by_cases hc31:(j:Int)<(I25.len:Int)
   ·
    repeat refine D8 ?_
    refine cG (by exact bT hc31) ?_;refine M6 ?_;refine qB ?_;refine rG ?_;have ah34:=((IJ hIo30 H)).addr (by decide) (by first|omega|(dsimp only;omega))
    obtain⟨ab32,ao33,ah34⟩:=ah34
    refine lV (kY j rfl rfl QH ah34 zO (by (try simp only[Sl.cut]);omega)) ?_;have he36:∃c,I25.l[j]? =some c:=⟨_,B6 (by have:=((IJ hIo30 H)).ln;(try dsimp only at this ⊢);omega)⟩
    obtain⟨I5,he36⟩:=he36
    have hez37:=((IJ hIo30 H)).sz I5 (E3 he36)
    refine lV (NQ (s:=I25) (k:=j) (IJ hIo30 H) ah34 rfl Em (by decide) he36) ?_;refine A3 (W9 H Eo (fun b38 w H hb38=>?_));replace H:=H.rot
    replace H:Hp _ w _ (Ch.blk b38 (([.string ⟨(([]:List UInt8)).toArray⟩,VI 0]:List Value)++((replicate 32 (0:UInt8)).map V8++(([VI 0]:List Value)))) 156::Ch.obj b1 (B7 kA (K7 C7 (g9 (⟨(((F C7).getD D3).data),true⟩:RO)) c M) (f9 M C7 c))::Ch.own a2 u.length k2 ((u).flatMap C2) 36 32::Ch.blk oO ((C7.1).map V8) 36::Ch.blk oP (([(((F C7).getD D3).data).v,.bool true]:List Value)) 262::T27):=H
    refine A3 (HH (C':=([.string ⟨(I5.name).toArray⟩,VI I5.kind]:List Value)++((I5.of.1).map V8++(([VI I5.size]:List Value)))) H (i:=0) rfl rfl rfl En (by first|(simp[V8,Value.oneCell',Sl.v,Gl.v,vJ,vK];done)|(simp only[vJ,vB,List.all_nil,vK];simp[Value.oneCell',Function.comp_def])) (by simp only[C6,J7,G8,M3,(show(replicate 32 (0:UInt8)).length=32 from(jV ..))]) (by simp only[C6,J7,G8,M3,(show(I5.of.1).length=32 from I5.of.2)]) (fun w H=>?_));replace H:Hp _ w _ (Ch.blk b38 (([.string ⟨(I5.name).toArray⟩,VI I5.kind]:List Value)++((I5.of.1).map V8++(([VI I5.size]:List Value)))) 156::Ch.obj b1 (B7 kA (K7 C7 (g9 (⟨(((F C7).getD D3).data),true⟩:RO)) c M) (f9 M C7 c))::Ch.own a2 u.length k2 ((u).flatMap C2) 36 32::Ch.blk oO ((C7.1).map V8) 36::Ch.blk oP (([(((F C7).getD D3).data).v,.bool true]:List Value)) 262::T27):=H
    refine eN ?_
    refine rG ?_;refine B8 ?_;refine lV (eW rfl Ep) ?_;refine lV (NU H (i:=0) rfl rfl aV (show Cut3 (([.string ⟨(I5.name).toArray⟩,VI I5.kind]:List Value)++((I5.of.1).map V8++(([VI I5.size]:List Value)))) (([.string ⟨(I5.name).toArray⟩,VI I5.kind]:List Value)) ((I5.of.1).map V8) (([VI I5.size]:List Value)) 2 32 from⟨(show([.string ⟨(I5.name).toArray⟩,VI I5.kind]:List Value)++((I5.of.1).map V8++(([VI I5.size]:List Value)))=([.string ⟨(I5.name).toArray⟩,VI I5.kind]:List Value)++(((I5.of.1).map V8)++(([VI I5.size]:List Value))) from by simp only[H9,v6,Y5]),(by rfl),(by simp only[C6,J7,G8,M3,(show(I5.of.1).length=32 from I5.of.2)])⟩)) ?_;refine A3 (NR (enc:=C2) (I5.of) H pD aW (by rfl) (by decide) (by decide) rfl (aI _) (fun b39 w H hb39=>?_));replace H:=H.rot
    replace H:Hp _ w _ (Ch.own (some b39) 1 1 (([I5.of]).flatMap C2) 36 32::Ch.blk b38 (([.string ⟨(I5.name).toArray⟩,VI I5.kind]:List Value)++((I5.of.1).map V8++(([VI I5.size]:List Value)))) 156::Ch.obj b1 (B7 kA (K7 C7 (g9 (⟨(((F C7).getD D3).data),true⟩:RO)) c M) (f9 M C7 c))::Ch.own a2 u.length k2 ((u).flatMap C2) 36 32::Ch.blk oO ((C7.1).map V8) 36::Ch.blk oP (([(((F C7).getD D3).data).v,.bool true]:List Value)) 262::T27):=H
    have hu1:(u++([I5.of])).length=u.length+1:=by rw[C6];rfl
    refine A3 (HI (enc:=C2) (s:=⟨hd (some b39),1,1,[I5.of]⟩) (l':=u++([I5.of])) (len':=(u++([I5.of])).length) rfl (by rw[C6];rfl) H (i:=3) rfl pD Tryz.underlying181 rfl rfl (H.glOwn (i:=0) rfl (by decide) (fun c _=>aI c)) (by decide) (fun c _=>uP c) zO (by decide) (fun a40 c41 w H=>?_));replace H:Hp _ w _ (Ch.own (some b39) 1 1 (([I5.of]).flatMap C2) 36 32::Ch.blk b38 (([.string ⟨(I5.name).toArray⟩,VI I5.kind]:List Value)++((I5.of.1).map V8++(([VI I5.size]:List Value)))) 156::Ch.obj b1 (B7 kA (K7 C7 (g9 (⟨(((F C7).getD D3).data),true⟩:RO)) c M) (f9 M C7 c))::Ch.own a40 ((u++([I5.of])).length) c41 ((u++([I5.of])).flatMap C2) 36 32::Ch.blk oO ((C7.1).map V8) 36::Ch.blk oP (([(((F C7).getD D3).data).v,.bool true]:List Value)) 262::T27):=H
    refine aZ ?_;refine eN ?_
    refine rG ?_;refine lV (D1 (a:=(j:Int)) (b:=1) rfl rfl (fun _=>Z9 zO zO)) ?_;refine B8 ?_;refine eN ?_
    refine U7 (j+1,u++([I5.of]),a40,c41) ?_ ?_ ?_
    ·exact⟨rfl,rfl,rfl,rfl,show VI ((j:Int)+1)=VI ((j+1:Nat):Int) from congrArg VI zO,zT⟩
    ·refine⟨?_,?_⟩
     ·try dsimp only
      exact⟨zO,by rw[C6];simp only[G8,M3];omega⟩
     exact H.sub (.cons _ (.cons _ (.cons_cons _ (.cons_cons _ (.cons_cons _ (.cons_cons _ (rA _)))))))
    show I25.len-(j+1:Nat)<I25.len-j;omega
   
   repeat refine D8 ?_
   refine cH (by exact bF hc31) ?_;refine W8 ?_;have hfx:=Ab hc23
   have lU:=Ut wP hfx hc24
   refine U7 (u,K7 C7 (g9 (⟨(((F C7).getD D3).data),true⟩:RO)) c M,f9 M C7 c,bH F C7 (⟨(((F C7).getD D3).data),true⟩:RO),a2,k2) ?_ ?_ ?_
   ·exact⟨rfl,rfl,zT⟩
   ·refine⟨?_,?_⟩
    ·try dsimp only
     exact⟨(hF.put C7 (⟨(((F C7).getD D3).data),true⟩:RO) c),(hM.put C7 (g9 (⟨(((F C7).getD D3).data),true⟩:RO))),wP.hit hfx,zO⟩
    exact H.sub (.cons_cons _ (.cons_cons _ (P4 _)))
   show 65*unh g.l (bH F C7 (⟨(((F C7).getD D3).data),true⟩:RO))+u.length<65*unh g.l F+t.length;omega
  
  refine oR rfl rfl (by exact congrArg Value.bool (congrArg not hc23)) rfl ?_;refine oR rfl rfl (by exact congrArg Value.bool (congrArg not hc23)) rfl ?_;refine lV (wY (b:=true) (congrArg Value.bool (congrArg not hc23))) ?_;refine eN ?_
  refine qY ?_;refine W8 ?_;refine U7 (t.take (t.length-1),M,c,F,a,k) ?_ ?_ ?_
  ·exact⟨rfl,rfl,zT⟩
  ·refine⟨?_,?_⟩
   ·try dsimp only
    exact⟨hF,hM,wP,by rw[F7];omega⟩
   exact H.sub (.cons_cons _ (.cons_cons _ (P4 _)))
  show 65*unh g.l F+(t.take (t.length-1)).length<65*unh g.l F+t.length;rw[F7];omega
 
 repeat refine D8 ?_
 refine cH (by exact bF hc14) ?_;refine W8 ?_;refine rG ?_;refine B8 ?_;refine aZ ?_;refine eN ?_
 refine o8 ?_
 refine w9 (v:=.map (some b1)) Tryz.results172 rfl ?_
 refine⟨_,rfl,?_⟩
 have n9:t=[]:=List.eq_nil_of_length_eq_zero zO
 subst n9
 exact⟨_,M,c,F,rfl,hF,hM,wP,H.sub (.cons_cons _ (P4 _))⟩
section
variable {n:Nat} {σ:Nat->Value} {ty:TypeId} {pos:String} {aft:Array Edge} {g:Option (Nat×Bool)} {d:Nat} {t:TypeId} {x:Operand}
theorem Vz{f:FuncId}{xs:Array Operand}(hx:sI n σ xs.toList=vs):(execOp (ev n σ) ⟨some d,.makeFunc (.func f) #[] xs,ty,pos,aft,g⟩).run P w=.ok (.value (.func (.func f) #[] vs.toArray)) w:=by
 have h:xs.map (ev n σ)=vs.toArray:=by apply U2;rw[<-hx,zW];simp
 simp[execOp,h,Instr.makeFunc]
end
def F1(F:A6->Option RO)(r:Bool)(k:A6):Bool:=((F k).getD D3).hit==r
def RisA(l:List A6):Prop:=l.Pairwise fun x y=>x.1<y.1
theorem Ad{l:List A6}(hn:l.Nodup):RisA (sortA l)/\∀x,x∈sortA l↔x∈l:=by
 have hp:(sortA l).Perm l:=List.mergeSort_perm _ _
 refine⟨?_,fun x=>hp.mem_iff⟩
 have B1:∀x y:A6,(!(decide (cX y x<0)))=true↔¬ y.1<x.1:=fun x y=>by
  rw[lH,decide_eq_false_iff_not]
  exact not_congr (OH _ _)
 have hs:(sortA l).Pairwise fun x y=>(!(decide (cX y x<0)))=true:=List.pairwise_mergeSort (fun x y z h1 h2=>by
   rw[B1] at*
   exact nO.2 (List.le_trans (nO.1 h1) (nO.1 h2))) (fun x y=>by
   rw[DH,B1,B1]
   by_cases h:y.1<x.1
   ·right;intro h2;exact ZM _ (ZO h h2)
   exact .inl h) l
 have iH:(sortA l).Nodup:=hp.nodup_iff.2 hn
 refine(List.pairwise_and_iff.2 ⟨hs,iH⟩).imp fun {x y} h=>?_
 obtain⟨h1,h2⟩:=h
 rw[B1]at h1
 exact Decidable.byContradiction fun h3=>h2 (Subtype.ext (ZN h3 h1))
theorem Ae(F:A6->Option RO)(r:Bool)(A4:List A6)(k:A6):(A4++[k]).filter (F1 F r)=A4.filter (F1 F r)++(if F1 F r k then [k] else []):=by
 rw[List.filter_append];congr 1
 by_cases h:F1 F r k=true
 ·rw[if_pos h,PM h];rfl
 rw[if_neg h,PL h];rfl
def OL(F:A6->Option RO)(r:Bool)(R:List A6):Prop:=RisA R/\∀k,k∈R↔∃v,F k=some v/\v.hit=r
theorem Wa{F:A6->Option RO}{r:Bool}{A4:List A6}(hn:A4.Nodup)(hv:∀k,k∈A4↔(F k).isSome=true):OL F r (sortA (A4.filter (F1 F r))):=by
 obtain⟨h1,h2⟩:=Ad (hn.filter (F1 F r))
 refine⟨h1,fun k=>?_⟩
 rw[h2,zP,hv]
 constructor
 ·rintro⟨h3,h4⟩
  exact⟨_,Ab h3,by simpa [F1] using h4⟩
 rintro⟨v,h3,h4⟩
 exact⟨by rw[h3];rfl,by rw[F1,h3];simp[h4]⟩
theorem IK(l:List A6):(sortA l).length=l.length:=List.length_mergeSort _
theorem Wb(w0:World)(b:Nat):
  Ret Tryz.prog 193 [.map (some b)] w0 fun v w'=>∃bb,v=.func (.func 215) #[] #[.pointer (some ⟨bb,0,none⟩)]/\Hp w0 w' [] [.blk bb [.map (some b)] 241]:=by
 refine T7 Tryz.func193 rfl Tryz.ntmps193 (by simp) ?_
 have H:=Hp.refl w0 []
 refine rG ?_;refine A3 (AD (v:=.map (some b)) H rfl (fun b1 w H P8=>?_));replace H:Hp _ w _ ([.blk b1 ([.map (some b)]) 241]):=H
 refine aZ ?_;refine eN ?_
 refine rG ?_;refine lV (Vz (vs:=[.pointer (some ⟨b1,0,none⟩)]) rfl) ?_;refine aZ ?_;refine eN ?_
 refine o8 ?_
 refine w9 (v:=.func (.func 215) #[] #[.pointer (some ⟨b1,0,none⟩)]) Tryz.results193 rfl ?_
 refine⟨_,rfl,?_⟩
 exact⟨_,rfl,H⟩
theorem Af(w0:World)(b c:Nat)(M:List (A6×Value×Nat))(F:A6->Option RO)(r:Bool)(hF:MIs g9 M F)(hM:MOk M c)(Z6:(Ch.obj b (B7 kA M c)).ok w0)(mD:∀l:List A6,l.Nodup->(∀j∈l,(F j).isSome=true)->l.length<=65536):
 Ret Tryz.prog 171 [.map (some b),.bool r] w0 fun v w'=>∃a k R,OL F r R/\v=.slice (hd a) R.length k/\Hp w0 w' [b] [.obj b (B7 kA M c),.own a R.length k (R.flatMap C2) 36 32]:=by
 refine ZX Tryz.func171 rfl Tryz.ntmps171 (by simp) ?_
 have H:=Hp.start w0 (.obj b (B7 kA M c)) b Z6 rfl
 refine rG ?_;refine A3 (AD (v:=.map (some b)) H rfl (fun b1 w H P8=>?_));replace H:Hp _ w _ ([.obj b (B7 kA M c),.blk b1 ([.map (some b)]) 241]):=H
 refine A3 (AD (v:=.bool r) H rfl (fun b2 w H U5=>?_));replace H:Hp _ w _ ([_,_,.blk b2 ([.bool r]) 4]):=H
 refine aZ ?_;refine eN ?_
 refine rG ?_;refine A3 (W9 H Er (fun b3 w H z6=>?_));replace H:Hp _ w _ ([_,_,_,.blk b3 ([.slice none 0 0]) 181]):=H
 refine eN ?_
 refine rG ?_;refine lV (Q9 H (i:=1) rfl rfl KN rfl) ?_;refine A3 (N4 Tryz.func193 rfl rfl rfl (Wb _ b) ?_);rintro _ w ⟨eQ,rfl,Hc⟩
 replace H:Hp _ w _ ([_,_,_,_,.blk eQ ([.map (some b)]) 241]):=H.call Hc
 clear Hc
 refine eN ?_
 refine qB ?_;replace H:=H.nilEnd 36 32
 refine Aa (FX:=[.blk eQ ([.map (some b)]) 241,.obj b (B7 kA M c)]) (Got:=fun kk aa=>F kk=some aa) (All:=fun A4=>A4.Nodup/\∀j,j∈A4↔(F j).isSome=true) (I:=fun(A4:List A6) (x:List A6×Option Nat×Nat)=>match x with|(B0,a,k)=>B0=A4/\B0.Nodup/\(∀j∈B0,(F j).isSome=true)) (x0:=([],none,0)) (itC:=fun it A4=>Ch.obj it (T9 b M c A4)) (kv:=kA) Tryz.func215 rfl rfl (fun Lv l w1 H1 hY=>(Vl hM hF Lv (fun(A4:List A6) (x:List A6×Option Nat×Nat)=>match x with|(B0,a,k)=>B0=A4/\B0.Nodup/\(∀j∈B0,(F j).isSome=true)) ([],none,0) ⟨rfl,List.nodup_nil,fun _ h=>(by cases h)⟩ H1 (fun it A4 x kk aa W hI hf hk _ _ HW=>hY it A4 x kk aa W hI hf hk HW)).mono (fun _ _ ⟨A4,x,h1,h2,h3,h4⟩=>⟨A4,x,h1,⟨h2,h3⟩,h4⟩)) rfl (fun x:List A6×Option Nat×Nat=>match x with|(B0,a,k)=>[.blk b3 ([.slice (hd a) ((B0.filter (F1 F r)).length) k]) 181,.own a ((B0.filter (F1 F r)).length) k ((B0.filter (F1 F r)).flatMap C2) 36 32,.blk b2 ([.bool r]) 4,.blk b1 ([.map (some b)]) 241]) (H.permL ((yS (j:=4) rfl).trans (.cons _ ((yS (j:=0) rfl).trans (.cons _ ((yS (j:=2) rfl).trans (.cons _ ((yS (j:=2) rfl).trans (.cons _ ((yS (j:=1) rfl).trans (.cons _ (.refl _)))))))))))) ?_ ?_
 ·
  rintro l T A4 x kk aa w hI hgot hk H
  obtain⟨B0,a,k⟩:=x
  replace hI:B0=A4/\B0.Nodup/\(∀j∈B0,(F j).isSome=true):=hI
  replace H:Hp w0 w [b] (Ch.blk eQ ([.map (some b)]) 241::Ch.obj b (B7 kA M c)::Ch.blk b3 ([.slice (hd a) ((B0.filter (F1 F r)).length) k]) 181::Ch.own a ((B0.filter (F1 F r)).length) k ((B0.filter (F1 F r)).flatMap C2) 36 32::Ch.blk b2 ([.bool r]) 4::Ch.blk b1 ([.map (some b)]) 241::T):=H
  repeat refine wpIn_seq ?_
  refine IG (by rfl) (by rintro⟨_,_,h⟩;first|exact(show False from h)|cases (And.left h:Exit.outgrown=Exit.normal)) ?_;refine A3 (W9 H aW (fun b5 w H hb5=>?_));replace H:=H.rot
  replace H:Hp _ w _ (Ch.blk b5 ((replicate 32 (0:UInt8)).map V8) 36::Ch.blk eQ ([.map (some b)]) 241::Ch.obj b (B7 kA M c)::Ch.blk b3 ([.slice (hd a) ((B0.filter (F1 F r)).length) k]) 181::Ch.own a ((B0.filter (F1 F r)).length) k ((B0.filter (F1 F r)).flatMap C2) 36 32::Ch.blk b2 ([.bool r]) 4::Ch.blk b1 ([.map (some b)]) 241::T):=H
  refine A3 (nC (l':=kk.1) H (i:=0) rfl rfl rfl jC (show(replicate 32 (0:UInt8)).length=32 from(jV ..)) (show(kk.1).length=32 from kk.2) (fun w H=>?_));replace H:Hp _ w _ (Ch.blk b5 ((kk.1).map V8) 36::Ch.blk eQ ([.map (some b)]) 241::Ch.obj b (B7 kA M c)::Ch.blk b3 ([.slice (hd a) ((B0.filter (F1 F r)).length) k]) 181::Ch.own a ((B0.filter (F1 F r)).length) k ((B0.filter (F1 F r)).flatMap C2) 36 32::Ch.blk b2 ([.bool r]) 4::Ch.blk b1 ([.map (some b)]) 241::T):=H
  first|refine IH ?_|refine zX ?_
  try dsimp only[Exit.then,Exit.inBlock]
  refine⟨[.blk b5 ((kk.1).map V8) 36,.blk eQ ([.map (some b)]) 241,.obj b (B7 kA M c),.blk b3 ([.slice (hd a) ((B0.filter (F1 F r)).length) k]) 181,.own a ((B0.filter (F1 F r)).length) k ((B0.filter (F1 F r)).flatMap C2) 36 32,.blk b2 ([.bool r]) 4,.blk b1 ([.map (some b)]) 241],H,?_⟩
  intro T w H
  replace H:Hp w0 w [b] (Ch.blk b5 ((kk.1).map V8) 36::Ch.blk eQ ([.map (some b)]) 241::Ch.obj b (B7 kA M c)::Ch.blk b3 ([.slice (hd a) ((B0.filter (F1 F r)).length) k]) 181::Ch.own a ((B0.filter (F1 F r)).length) k ((B0.filter (F1 F r)).flatMap C2) 36 32::Ch.blk b2 ([.bool r]) 4::Ch.blk b1 ([.map (some b)]) 241::T):=H
  repeat refine wpIn_seq ?_
  refine ZY ?_;obtain⟨z8,aT,oQ⟩:=hI
  subst z8
  have Y0:=HK aT oQ hgot hk
  have hnv:B0.length<=65536:=mD B0 aT oQ
  have dG:=List.length_filter_le (F1 F r) B0
  repeat refine wpIn_seq ?_
  refine Vj (fun w=>Hp w0 w [b] [.blk b5 ((kk.1).map V8) 36,.blk eQ ([.map (some b)]) 241,.obj b (B7 kA M c),.blk b3 ([.slice (hd a) ((B0.filter (F1 F r)).length) k]) 181,.own a ((B0.filter (F1 F r)).length) k ((B0.filter (F1 F r)).flatMap C2) 36 32,.blk b2 ([.bool r]) 4,.blk b1 ([.map (some b)]) 241]) mixed (by rfl) (by rintro⟨_,_,h⟩;first|exact(show False from h)|cases (And.left h:Exit.outgrown=Exit.normal)) ?_;replace H:=H.drew
  have HS:=H.sub (.cons_cons _ (.cons_cons _ (.cons_cons _ (.cons_cons _ (.cons_cons _ (.cons_cons _ (.cons_cons _ (P4 _))))))))
  refine eX 0 rfl (fun w HS=>Q9 HS (i:=6) rfl rfl KN rfl) HS ?_;refine eX 1 rfl (fun w HS=>uF (l:=kk.1) HS (i:=0) rfl rfl aV (show(kk.1).length=32 from kk.2)) HS ?_;refine eX 2 rfl (fun w HS=>Sr (k:=kk) D3 hF HS (i:=2) rfl Tryz.underlying241 CI OJ rfl rfl) HS ?_;refine eX 3 rfl (fun w HS=>Sw (v:=.bool (((F kk).getD D3).hit)) Tryz.underlying262 rfl EG rfl (show Cut3 (([(((F kk).getD D3).data).v,.bool (((F kk).getD D3).hit)]:List Value)) (([(((F kk).getD D3).data).v]:List Value)) (([.bool (((F kk).getD D3).hit)]:List Value)) (([]:List Value)) 1 1 from⟨(show([(((F kk).getD D3).data).v,.bool (((F kk).getD D3).hit)]:List Value)=([(((F kk).getD D3).data).v]:List Value)++((([.bool (((F kk).getD D3).hit)]:List Value))++(([]:List Value))) from by simp only[H9,v6,Y5]),(by rfl),(by rfl)⟩)) HS ?_;refine eX 4 rfl (fun w HS=>Q9 HS (i:=5) rfl rfl EG rfl) HS ?_;refine eX 5 rfl (fun w HS=>QD Tryz.underlying4 rfl rfl) HS ?_;refine QF zK ?_
  clear HS
  have hc60:=JL ((((F kk).getD D3).hit)==r)
  rcases hc60 with hc6|hc6
  ·
   repeat refine wpIn_seq ?_
   refine Vo (by exact congrArg Value.bool hc6) ?_;repeat refine wpIn_seq ?_
   refine IG (by rfl) (by rintro⟨_,_,h⟩;first|exact(show False from h)|cases (And.left h:Exit.outgrown=Exit.normal)) ?_;refine lV (Q9 H (i:=3) rfl rfl AH rfl) ?_;refine lV (uF (l:=kk.1) H (i:=0) rfl rfl aV (show(kk.1).length=32 from kk.2)) ?_;refine A3 (NR (enc:=C2) (kk) H pD aW (by rfl) (by decide) (by decide) rfl (aI _) (fun b7 w H hb7=>?_));replace H:=H.rot
   replace H:Hp _ w _ (Ch.own (some b7) 1 1 (([kk]).flatMap C2) 36 32::Ch.blk b5 ((kk.1).map V8) 36::Ch.blk eQ ([.map (some b)]) 241::Ch.obj b (B7 kA M c)::Ch.blk b3 ([.slice (hd a) ((B0.filter (F1 F r)).length) k]) 181::Ch.own a ((B0.filter (F1 F r)).length) k ((B0.filter (F1 F r)).flatMap C2) 36 32::Ch.blk b2 ([.bool r]) 4::Ch.blk b1 ([.map (some b)]) 241::T):=H
   refine A3 (HI (enc:=C2) (s:=⟨hd (some b7),1,1,[kk]⟩) (l':=B0.filter (F1 F r)++([kk])) (len':=(B0.filter (F1 F r)).length+1) rfl rfl H (i:=5) rfl pD Tryz.underlying181 rfl rfl (H.glOwn (i:=0) rfl (by decide) (fun c _=>aI c)) (by decide) (fun c _=>uP c) zO (by decide) (fun a8 c9 w H=>?_));replace H:Hp _ w _ (Ch.own (some b7) 1 1 (([kk]).flatMap C2) 36 32::Ch.blk b5 ((kk.1).map V8) 36::Ch.blk eQ ([.map (some b)]) 241::Ch.obj b (B7 kA M c)::Ch.blk b3 ([.slice (hd a) ((B0.filter (F1 F r)).length) k]) 181::Ch.own a8 ((B0.filter (F1 F r)).length+1) c9 ((B0.filter (F1 F r)++([kk])).flatMap C2) 36 32::Ch.blk b2 ([.bool r]) 4::Ch.blk b1 ([.map (some b)]) 241::T):=H
   refine A3 (oW (v:=.slice (hd a8) ((B0.filter (F1 F r)).length+1) c9) H (i:=4) rfl rfl rfl QI rfl (by first|decide|simp) (fun w H=>?_));replace H:Hp _ w _ (Ch.own (some b7) 1 1 (([kk]).flatMap C2) 36 32::Ch.blk b5 ((kk.1).map V8) 36::Ch.blk eQ ([.map (some b)]) 241::Ch.obj b (B7 kA M c)::Ch.blk b3 ([.slice (hd a8) ((B0.filter (F1 F r)).length+1) c9]) 181::Ch.own a8 ((B0.filter (F1 F r)).length+1) c9 ((B0.filter (F1 F r)++([kk])).flatMap C2) 36 32::Ch.blk b2 ([.bool r]) 4::Ch.blk b1 ([.map (some b)]) 241::T):=H
   first|refine IH ?_|refine zX ?_
   try dsimp only[Exit.then,Exit.inBlock]
   have Y8:=Ae F r B0 kk
   rw[show F1 F r kk=true from by rw[F1];exact hc6]at Y8
   replace Y8:(B0++[kk]).filter (F1 F r)=B0.filter (F1 F r)++[kk]:=Y8
   have hfl2:(B0.filter (F1 F r)).length+1=((B0++[kk]).filter (F1 F r)).length:=by rw[Y8,C6];rfl
   rw[hfl2, <-Y8]at H
   exact⟨rfl,(B0++[kk],a8,c9),⟨rfl,Y0.1,fun j hj=>Y0.2 j hj⟩,H.sub (.cons _ (.cons _ (.cons_cons _ (.cons_cons _ (.cons_cons _ (.cons_cons _ (.cons_cons _ (.cons_cons _ (rA _)))))))))⟩
  
  repeat refine wpIn_seq ?_
  refine Vp (by exact congrArg Value.bool hc6) ?_;refine Vq ?_;try dsimp only[Exit.then,Exit.inBlock]
  have Y8:=Ae F r B0 kk
  rw[show F1 F r kk=false from by rw[F1];exact hc6]at Y8
  replace Y8:(B0++[kk]).filter (F1 F r)=B0.filter (F1 F r):=by rw[Y8];simp
  rw[<-Y8]at H
  exact⟨rfl,(B0++[kk],a,k),⟨rfl,Y0.1,fun j hj=>Y0.2 j hj⟩,H.sub (.cons _ (.cons_cons _ (.cons_cons _ (.cons_cons _ (.cons_cons _ (.cons_cons _ (.cons_cons _ (rA _))))))))⟩
 
 rintro D A4 x w hI hA H
 obtain⟨B0,a,k⟩:=x
 replace hI:B0=A4/\B0.Nodup/\(∀j∈B0,(F j).isSome=true):=hI
 replace H:Hp w0 w [b] ([.obj D (.deferred (some [])),.blk eQ ([.map (some b)]) 241,.obj b (B7 kA M c),.blk b3 ([.slice (hd a) ((B0.filter (F1 F r)).length) k]) 181,.own a ((B0.filter (F1 F r)).length) k ((B0.filter (F1 F r)).flatMap C2) 36 32,.blk b2 ([.bool r]) 4,.blk b1 ([.map (some b)]) 241]):=H
 obtain⟨z8,aT,oQ⟩:=hI
 subst z8
 have hnv:B0.length<=65536:=mD B0 aT oQ
 have dG:=List.length_filter_le (F1 F r) B0
 refine rG ?_;refine A3 (CK (Q9 H (i:=3) rfl rfl AH rfl) ?_);refine A3 (Vm Tryz.func188 rfl rfl rfl (Vd H (i:=4) rfl rfl zO) ?_);rintro _ w ⟨rfl,Hc⟩
 clear H
 have H:=Hc;clear Hc
 replace H:Hp _ w _ ([.obj D (.deferred (some [])),.blk eQ ([.map (some b)]) 241,.obj b (B7 kA M c),.blk b3 ([.slice (hd a) ((B0.filter (F1 F r)).length) k]) 181,.own a ((B0.filter (F1 F r)).length) k ((sortA (B0.filter (F1 F r))).flatMap C2) 36 32,.blk b2 ([.bool r]) 4,.blk b1 ([.map (some b)]) 241]):=H
 refine eN ?_
 refine rG ?_;refine A3 (CK (Q9 H (i:=3) rfl rfl AH rfl) ?_);refine A3 (CK (eT) ?_);refine eN ?_
 refine o8 ?_
 refine ZZ (v:=.slice (hd a) ((B0.filter (F1 F r)).length) k) Tryz.results171 rfl H (i:=0) rfl ?_
 intro w H
 replace H:Hp w0 w [b] ([.blk eQ ([.map (some b)]) 241,.obj b (B7 kA M c),.blk b3 ([.slice (hd a) ((B0.filter (F1 F r)).length) k]) 181,.own a ((B0.filter (F1 F r)).length) k ((sortA (B0.filter (F1 F r))).flatMap C2) 36 32,.blk b2 ([.bool r]) 4,.blk b1 ([.map (some b)]) 241]):=H
 refine⟨_,rfl,?_⟩
 refine⟨a,k,_,Wa hA.1 hA.2,?_,?_⟩
 ·rw[IK]
 rw[IK];exact H.sub (.cons _ (.cons_cons _ (.cons _ (.cons_cons _ (P4 _)))))
def zB(O:Go.Obj)(o:Nat)(v:Value):Prop:=∃C T fr,O=.cells C T fr/\C[o]? =some v
theorem Wc{n:Nat}{σ:Nat->Value}{ty:TypeId}{pos:String}{aft:Array Edge}{g:Option (Nat×Bool)}{d:Nat}{t:TypeId}{x:Operand}{b:Nat}{O:Go.Obj}{v:Value}(H:Hp w0 w S L)(hi:L[i]? =some (.obj b O))(hx:ev n σ x=.pointer (some ⟨b,o,none⟩))(ht:O5 P t=true)(hv:zB O o v):
  (execOp (ev n σ) ⟨some d,.load t x,ty,pos,aft,g⟩).run P w=.ok (.value v) w:=by
 obtain⟨C,T,fr,rfl,hv⟩:=hv
 have hb:w.heap[b]? =some (.cells C T fr):=H.has _ (E3 hi)
 have hc:w.cell? ⟨b,o,none⟩=some v:=by simp[World.cell?, hb,hv]
 simp[execOp,hx,sS ht hc]
theorem We{ι α:Type}{w1:World}{bb b l ob:Nat}{OB:Go.Obj}(hB:zB OB ob (.map (some b))){enc:α->Value}{M:List (A6×Value×Nat)}{F:A6->Option α}(hM:MOk M c)(hF:MIs enc M F)(Lv:ι->List Ch)(I:List A6->ι->Prop)(x0:ι)(h0:I [] x0)(H0:Hp w0 w1 S (Ch.obj bb OB::Ch.obj b (B7 kA M c)::Lv x0))(hY:∀(it:Nat) (A4:List A6) (x:ι) (k:A6) (a:α) (W:World),I A4 x->F k=some a->k∉A4->(∀j∈A4,(F j).isSome=true)->A4.Nodup->Hp w0 W S (Ch.obj it (T9 b M c (A4++[k]))::Ch.obj bb OB::Ch.obj b (B7 kA M c)::Lv x)->YieldAt Fence.wide 0 Tryz.prog l #[kA k] W fun e W'=>e=.returned (.bool true)/\∃x',I (A4++[k]) x'/\Hp w0 W' S (Ch.obj it (T9 b M c (A4++[k]))::Ch.obj bb OB::Ch.obj b (B7 kA M c)::Lv x')):
 Ret Tryz.prog 189 [.func (.yield l) #[] #[],.pointer (some ⟨bb,ob,none⟩)] w1 fun v w'=>∃A4 x,I A4 x/\A4.Nodup/\(∀k,k∈A4↔(F k).isSome=true)/\Hp w0 w' S (Ch.obj bb OB::Ch.obj b (B7 kA M c)::Lv x):=by
 refine T7 Tryz.func189 rfl Tryz.ntmps189 (by simp) ?_
 have H:=H0
 refine rG ?_;refine lV (Wc H (i:=0) rfl rfl Es hB) ?_;refine A3 (XZ (kv:=kA) H (i:=1) rfl Tryz.underlying201 rfl (fun b1 w H P8=>?_));replace H:=H.rot
 replace H:Hp _ w _ (Ch.obj b1 (T9 b M c ([]))::Ch.obj bb OB::Ch.obj b (B7 kA M c)::Lv x0):=H
 refine eN ?_
 refine qB ?_;repeat refine D8 ?_
 refine NF (fun(A4:List A6) (x:ι)=>[(0,.func (.yield l) #[] #[]),(5,.pointer (some ⟨b1,0,none⟩))])
  (fun(A4:List A6) (x:ι) w=>(A4.Nodup/\(∀k∈A4,(F k).isSome=true)/\I A4 x)/\Hp w0 w S (Ch.obj b1 (T9 b M c A4)::Ch.obj bb OB::Ch.obj b (B7 kA M c)::Lv x))
  (fun(A4:List A6) (x:ι)=>M.length-A4.length) ([]) x0 ⟨rfl,rfl,zT⟩ ⟨⟨List.nodup_nil,fun _ h=>(by cases h),h0⟩,H⟩ ?_
 clear H
 rintro A4 x τ w ⟨⟨aT,hv,hI⟩,H⟩
 refine rG ?_;refine A3 (YA (kv:=kA) (enc:=enc) H (i:=2) (j:=0) rfl rfl hM hF hv rfl (fun hall2 w H=>?_) (fun R7 va4 wO hkn6 w H=>?_))
 ·
  refine lV (cO rfl rfl) ?_;refine eN ?_
  refine qN ?_;refine W8 ?_;refine eZ ?_;refine DO Tryz.results189 ?_
  refine⟨_,rfl,?_⟩
  exact⟨A4,x,hI,aT,fun k=>⟨hv k,hall2 k⟩,H.sub (.cons _ (.cons_cons _ (.cons_cons _ (rA _))))⟩
 
 replace H:Hp _ w _ (Ch.obj b1 (T9 b M c (A4++[R7]))::Ch.obj bb OB::Ch.obj b (B7 kA M c)::Lv x):=H
 refine lV (cO rfl rfl) ?_;refine eN ?_
 refine qY ?_;refine M6 ?_;refine qB ?_;refine rG ?_;refine lV (YB (kv:=kA) (enc:=enc) H (i:=2) (j:=0) rfl rfl hM hF wO rfl) ?_;refine lV (cO rfl rfl) ?_;refine A3 (W9 H aW (fun b7 w H hb7=>?_));replace H:=H.rot
 replace H:Hp _ w _ (Ch.blk b7 ((replicate 32 (0:UInt8)).map V8) 36::Ch.obj b1 (T9 b M c (A4++[R7]))::Ch.obj bb OB::Ch.obj b (B7 kA M c)::Lv x):=H
 refine A3 (nC (l':=R7.1) H (i:=0) rfl rfl rfl jC (show(replicate 32 (0:UInt8)).length=32 from(jV ..)) (show(R7.1).length=32 from R7.2) (fun w H=>?_));replace H:Hp _ w _ (Ch.blk b7 ((R7.1).map V8) 36::Ch.obj b1 (T9 b M c (A4++[R7]))::Ch.obj bb OB::Ch.obj b (B7 kA M c)::Lv x):=H
 refine eN ?_
 repeat refine D8 ?_
 have Y0:=HK aT hv wO hkn6
 have nU:=YC hF Y0.1 Y0.2
 rw[C6,u7]at nU
 refine(wpIn_wide (n:=1)).1 ?_;refine wpIn_region_lit ?_;refine yZ (G5 L4 ?_);refine yZ (G5 (uF (l:=R7.1) H (i:=0) rfl rfl aV (show(R7.1).length=32 from R7.2)) ?_);have H1:=H.sub (.cons _ (.cons_cons _ (.cons_cons _ (.cons_cons _ (rA _)))))
 have hy:=hY _ A4 x R7 va4 _ hI wO hkn6 hv aT H1
 refine ZU (v:=kA R7) (b:=true) rfl (fun f e=>by cases e) rfl hy ?_;rintro w ⟨x',rC,H2⟩
 clear H H1 hy;have H:=H2;clear H2
 refine yZ (G5 (AF rfl) ?_);refine ZT ?_;refine qN ?_;refine M6 ?_;refine U7 (A4++[R7],x') ?_ ?_ ?_
 ·exact⟨rfl,rfl,zT⟩
 ·refine⟨?_,?_⟩
  ·try dsimp only
   exact⟨Y0.1,Y0.2,rC⟩
  exact H
 show M.length-(A4++[R7]).length<M.length-A4.length;rw[C6,u7];omega
theorem Wf(w0:World)(bb b c ob:Nat)(OB:Go.Obj)(hB:zB OB ob (.map (some b)))(M:List (A6×Value×Nat))(F:A6->Option Int)(hF:MIs VI M F)(hM:MOk M c)(hO:Own w0 [.obj bb OB,.obj b (B7 kA M c)])(mD:∀l:List A6,l.Nodup->(∀j∈l,(F j).isSome=true)->l.length<=65536):
 Ret Tryz.prog 206 [.slice none 0 0,.func (.func 189) #[] #[.pointer (some ⟨bb,ob,none⟩)]] w0 fun v w'=>∃(a:Option Nat) (k:Nat) (R:List A6),(R.Nodup/\∀k,k∈R↔(F k).isSome=true)/\v=.slice (hd a) R.length k/\Hp w0 w' (keys [.obj bb OB,.obj b (B7 kA M c)]) [.obj bb OB,.obj b (B7 kA M c),.own a R.length k (R.flatMap C2) 36 32]:=by
 refine ZX Tryz.func206 rfl Tryz.ntmps206 (by simp) ?_
 have H:=hO.start
 refine rG ?_;refine A3 (AD (v:=.slice none 0 0) H rfl (fun b1 w H P8=>?_));replace H:Hp _ w _ ([.obj bb OB,.obj b (B7 kA M c),.blk b1 ([.slice none 0 0]) 181]):=H
 refine aZ ?_;refine eN ?_
 refine rG ?_;refine B8 ?_;refine eN ?_
 refine qB ?_;replace H:=H.nilEnd 36 32
 refine Aa (FX:=[.obj bb OB,.obj b (B7 kA M c)]) (Got:=fun kk aa=>F kk=some aa) (All:=fun A4=>A4.Nodup/\∀j,j∈A4↔(F j).isSome=true) (I:=fun(A4:List A6) (x:List A6×Option Nat×Nat)=>match x with|(B0,a,k)=>B0=A4/\B0.Nodup/\(∀j∈B0,(F j).isSome=true)) (x0:=([],none,0)) (itC:=fun it A4=>Ch.obj it (T9 b M c A4)) (kv:=kA) Tryz.func189 rfl rfl (fun Lv l w1 H1 hY=>(We hB hM hF Lv (fun(A4:List A6) (x:List A6×Option Nat×Nat)=>match x with|(B0,a,k)=>B0=A4/\B0.Nodup/\(∀j∈B0,(F j).isSome=true)) ([],none,0) ⟨rfl,List.nodup_nil,fun _ h=>(by cases h)⟩ H1 (fun it A4 x kk aa W hI hf hk _ _ HW=>hY it A4 x kk aa W hI hf hk HW)).mono (fun _ _ ⟨A4,x,h1,h2,h3,h4⟩=>⟨A4,x,h1,⟨h2,h3⟩,h4⟩)) rfl (fun x:List A6×Option Nat×Nat=>match x with|(B0,a,k)=>[.blk b1 ([.slice (hd a) B0.length k]) 181,.own a B0.length k ((B0).flatMap C2) 36 32]) H ?_ ?_
 ·
  rintro l T A4 x kk aa w hI hgot hk H
  obtain⟨B0,a,k⟩:=x
  replace hI:B0=A4/\B0.Nodup/\(∀j∈B0,(F j).isSome=true):=hI
  replace H:Hp w0 w (keys [.obj bb OB,.obj b (B7 kA M c)]) (Ch.obj bb OB::Ch.obj b (B7 kA M c)::Ch.blk b1 ([.slice (hd a) B0.length k]) 181::Ch.own a B0.length k ((B0).flatMap C2) 36 32::T):=H
  repeat refine wpIn_seq ?_
  refine IG (by rfl) (by rintro⟨_,_,h⟩;first|exact(show False from h)|cases (And.left h:Exit.outgrown=Exit.normal)) ?_;refine A3 (W9 H aW (fun b2 w H U5=>?_));replace H:=H.rot
  replace H:Hp _ w _ (Ch.blk b2 ((replicate 32 (0:UInt8)).map V8) 36::Ch.obj bb OB::Ch.obj b (B7 kA M c)::Ch.blk b1 ([.slice (hd a) B0.length k]) 181::Ch.own a B0.length k ((B0).flatMap C2) 36 32::T):=H
  refine A3 (nC (l':=kk.1) H (i:=0) rfl rfl rfl jC (show(replicate 32 (0:UInt8)).length=32 from(jV ..)) (show(kk.1).length=32 from kk.2) (fun w H=>?_));replace H:Hp _ w _ (Ch.blk b2 ((kk.1).map V8) 36::Ch.obj bb OB::Ch.obj b (B7 kA M c)::Ch.blk b1 ([.slice (hd a) B0.length k]) 181::Ch.own a B0.length k ((B0).flatMap C2) 36 32::T):=H
  first|refine IH ?_|refine zX ?_
  try dsimp only[Exit.then,Exit.inBlock]
  refine⟨[.blk b2 ((kk.1).map V8) 36,.obj bb OB,.obj b (B7 kA M c),.blk b1 ([.slice (hd a) B0.length k]) 181,.own a B0.length k ((B0).flatMap C2) 36 32],H,?_⟩
  intro T w H
  replace H:Hp w0 w (keys [.obj bb OB,.obj b (B7 kA M c)]) (Ch.blk b2 ((kk.1).map V8) 36::Ch.obj bb OB::Ch.obj b (B7 kA M c)::Ch.blk b1 ([.slice (hd a) B0.length k]) 181::Ch.own a B0.length k ((B0).flatMap C2) 36 32::T):=H
  repeat refine wpIn_seq ?_
  refine ZY ?_;obtain⟨z8,aT,oQ⟩:=hI
  subst z8
  have Y0:=HK aT oQ hgot hk
  have hnv:B0.length<=65536:=mD B0 aT oQ
  repeat refine wpIn_seq ?_
  refine IG (by rfl) (by rintro⟨_,_,h⟩;first|exact(show False from h)|cases (And.left h:Exit.outgrown=Exit.normal)) ?_;refine lV (Q9 H (i:=3) rfl rfl AH rfl) ?_;refine lV (uF (l:=kk.1) H (i:=0) rfl rfl aV (show(kk.1).length=32 from kk.2)) ?_;refine A3 (NR (enc:=C2) (kk) H pD aW (by rfl) (by decide) (by decide) rfl (aI _) (fun b3 w H z6=>?_));replace H:=H.rot
  replace H:Hp _ w _ (Ch.own (some b3) 1 1 (([kk]).flatMap C2) 36 32::Ch.blk b2 ((kk.1).map V8) 36::Ch.obj bb OB::Ch.obj b (B7 kA M c)::Ch.blk b1 ([.slice (hd a) B0.length k]) 181::Ch.own a B0.length k ((B0).flatMap C2) 36 32::T):=H
  refine A3 (HI (enc:=C2) (s:=⟨hd (some b3),1,1,[kk]⟩) (l':=B0++([kk])) (len':=B0.length+1) rfl rfl H (i:=5) rfl pD Tryz.underlying181 rfl rfl (H.glOwn (i:=0) rfl (by decide) (fun c _=>aI c)) (by decide) (fun c _=>uP c) zO (by decide) (fun a4 c5 w H=>?_));replace H:Hp _ w _ (Ch.own (some b3) 1 1 (([kk]).flatMap C2) 36 32::Ch.blk b2 ((kk.1).map V8) 36::Ch.obj bb OB::Ch.obj b (B7 kA M c)::Ch.blk b1 ([.slice (hd a) B0.length k]) 181::Ch.own a4 (B0.length+1) c5 ((B0++([kk])).flatMap C2) 36 32::T):=H
  refine A3 (oW (v:=.slice (hd a4) (B0.length+1) c5) H (i:=4) rfl rfl rfl QI rfl (by first|decide|simp) (fun w H=>?_));replace H:Hp _ w _ (Ch.own (some b3) 1 1 (([kk]).flatMap C2) 36 32::Ch.blk b2 ((kk.1).map V8) 36::Ch.obj bb OB::Ch.obj b (B7 kA M c)::Ch.blk b1 ([.slice (hd a4) (B0.length+1) c5]) 181::Ch.own a4 (B0.length+1) c5 ((B0++([kk])).flatMap C2) 36 32::T):=H
  first|refine IH ?_|refine zX ?_
  try dsimp only[Exit.then,Exit.inBlock]
  have hfl2:B0.length+1=(B0++[kk]).length:=by rw[C6];rfl
  rw[hfl2]at H
  exact⟨rfl,(B0++[kk],a4,c5),⟨rfl,Y0.1,fun j hj=>Y0.2 j hj⟩,H.sub (.cons _ (.cons _ (.cons_cons _ (.cons_cons _ (.cons_cons _ (.cons_cons _ (rA _)))))))⟩
 
 rintro D A4 x w hI hA H
 obtain⟨B0,a,k⟩:=x
 replace hI:B0=A4/\B0.Nodup/\(∀j∈B0,(F j).isSome=true):=hI
 replace H:Hp w0 w (keys [.obj bb OB,.obj b (B7 kA M c)]) ([.obj D (.deferred (some [])),.obj bb OB,.obj b (B7 kA M c),.blk b1 ([.slice (hd a) B0.length k]) 181,.own a B0.length k ((B0).flatMap C2) 36 32]):=H
 obtain⟨z8,aT,oQ⟩:=hI
 subst z8
 have hnv:B0.length<=65536:=mD B0 aT oQ
 refine rG ?_;refine A3 (CK (Q9 H (i:=3) rfl rfl AH rfl) ?_);refine A3 (CK (eT) ?_);refine eN ?_
 refine o8 ?_
 refine ZZ (v:=.slice (hd a) B0.length k) Tryz.results206 rfl H (i:=0) rfl ?_
 intro w H
 replace H:Hp w0 w (keys [.obj bb OB,.obj b (B7 kA M c)]) ([.obj bb OB,.obj b (B7 kA M c),.blk b1 ([.slice (hd a) B0.length k]) 181,.own a B0.length k ((B0).flatMap C2) 36 32]):=H
 refine⟨_,rfl,?_⟩
 refine⟨a,k,B0,hA,rfl,H.sub (.cons_cons _ (.cons_cons _ (.cons _ (.cons_cons _ (P4 _)))))⟩
theorem Wg(w0:World)(bb b c ob:Nat)(OB:Go.Obj)(hB:zB OB ob (.map (some b)))(M:List (A6×Value×Nat))(F:A6->Option Int)(hF:MIs VI M F)(hM:MOk M c)(hO:Own w0 [.obj bb OB,.obj b (B7 kA M c)])(mD:∀l:List A6,l.Nodup->(∀j∈l,(F j).isSome=true)->l.length<=65536):
  Ret Tryz.prog 187 [.func (.func 189) #[] #[.pointer (some ⟨bb,ob,none⟩)]] w0 fun v w'=>∃(a:Option Nat) (k:Nat) (R:List A6),(R.Nodup/\∀k,k∈R↔(F k).isSome=true)/\v=.slice (hd a) R.length k/\Hp w0 w' (keys [.obj bb OB,.obj b (B7 kA M c)]) [.obj bb OB,.obj b (B7 kA M c),.own a R.length k (R.flatMap C2) 36 32]:=by
 refine T7 Tryz.func187 rfl Tryz.ntmps187 (by simp) ?_
 have H:=hO.start
 refine rG ?_;refine aZ ?_;refine eN ?_
 refine rG ?_;refine B8 ?_;refine A3 (N4 Tryz.func206 rfl rfl rfl (Wf _ bb b c ob OB hB M F hF hM (H.ownP (.refl _) rfl) mD) ?_);rintro _ w ⟨a1,k2,R3,hsq4,rfl,Hc⟩
 replace H:=H.callP (.refl _) rfl Hc (.refl _)
 clear Hc
 replace H:Hp _ w _ ([.obj bb OB,.obj b (B7 kA M c),.own a1 R3.length k2 ((R3).flatMap C2) 36 32]):=H
 refine aZ ?_;refine eN ?_
 refine o8 ?_
 refine w9 (v:=.slice (hd a1) R3.length k2) Tryz.results187 rfl ?_
 refine⟨_,rfl,?_⟩
 exact⟨_,_,_,hsq4,rfl,H.sub (.cons_cons _ (.cons_cons _ (.cons_cons _ (P4 _))))⟩
theorem Wh(w0:World)(bb b c ob:Nat)(OB:Go.Obj)(hB:zB OB ob (.map (some b)))(M:List (A6×Value×Nat))(F:A6->Option Int)(hF:MIs VI M F)(hM:MOk M c)(hO:Own w0 [.obj bb OB,.obj b (B7 kA M c)])(mD:∀l:List A6,l.Nodup->(∀j∈l,(F j).isSome=true)->l.length<=65536):
  Ret Tryz.prog 163 [.func (.func 189) #[] #[.pointer (some ⟨bb,ob,none⟩)],.func (.func 165) #[] #[]] w0 fun v w'=>∃(a:Option Nat) (k:Nat) (R:List A6),(RisA R/\∀k,k∈R↔(F k).isSome=true)/\v=.slice (hd a) R.length k/\Hp w0 w' (keys [.obj bb OB,.obj b (B7 kA M c)]) [.obj bb OB,.obj b (B7 kA M c),.own a R.length k (R.flatMap C2) 36 32]:=by
 refine T7 Tryz.func163 rfl Tryz.ntmps163 (by simp) ?_
 have H:=hO.start
 refine rG ?_;refine aZ ?_;refine eN ?_
 refine rG ?_;refine B8 ?_;refine A3 (N4 Tryz.func187 rfl rfl rfl (Wg _ bb b c ob OB hB M F hF hM (H.ownP (.refl _) rfl) mD) ?_);rintro _ w ⟨a1,k2,R3,hsq4,rfl,Hc⟩
 replace H:=H.callP (.refl _) rfl Hc (.refl _)
 clear Hc
 replace H:Hp _ w _ ([.obj bb OB,.obj b (B7 kA M c),.own a1 R3.length k2 ((R3).flatMap C2) 36 32]):=H
 refine aZ ?_;refine eN ?_
 have bQ:=mD R3 hsq4.1 (fun j hj=>(hsq4.2 j).1 hj)
 refine rG ?_;refine B8 ?_;refine B8 ?_;refine A3 (N4 Tryz.func188 rfl rfl rfl (Vf H (i:=2) rfl rfl zO) ?_);rintro _ w ⟨rfl,Hc⟩
 clear H
 have H:=Hc;clear Hc
 replace H:Hp _ w _ ([_,_,.own a1 R3.length k2 ((sortA R3).flatMap C2) 36 32]):=H
 refine eN ?_
 refine rG ?_;refine B8 ?_;refine aZ ?_;refine eN ?_
 refine o8 ?_
 refine w9 (v:=.slice (hd a1) R3.length k2) Tryz.results163 rfl ?_
 refine⟨_,rfl,?_⟩
 have hs:=Ad hsq4.1
 refine⟨a1,k2,sortA R3,⟨hs.1,fun k=>(hs.2 k).trans (hsq4.2 k)⟩,?_,?_⟩
 ·rw[IK]
 rw[IK];exact H.sub (.cons_cons _ (.cons_cons _ (.cons_cons _ (P4 _))))
def Cx.rowX(X:Cx)(nm:Nat)(a:Option Nat)(cs:List Value)(M:Nat):Cx:=⟨fun b i=>if some b=a then (match cs[i]? with|some x=>.fz x|none=>if i<M then .tp nm else .no) else X.G b i,X.ρ,X.Φ,X.κ,X.ν,X.wr⟩
theorem uR{nm:Nat}{a:Option Nat}{b:Nat}(h:¬ some b=a):(X.rowX nm a cs M).G b i=X.G b i:=by
 show(if some b=a then _ else _)=_
 rw[if_neg h]
theorem OM{nm b:Nat} :(X.rowX nm (some b) cs M).G b i=(match cs[i]? with|some x=>.fz x|none=>if i<M then .tp nm else .no):=by
 show(if some b=some b then _ else _)=_
 rw[if_pos rfl]
theorem Wi{hh:Nat->Nat->V}{nm:Nat}{a:Option Nat}{cs:List Value}(H:Wd X0 X hh lv 16 w w)(hf:∀b,b<w.heap.size->w'.heap[b]? =w.heap[b]?)(hos:w'.os=w.os)(hou:w'.output=w.output)(ht:w'.tape=w.tape)(hs:w.heap.size<=w'.heap.size)
 (ha:∀b,a=some b->w.heap.size<=b/\∃C T,w'.heap[b]? =some (.cells C T (0,0))/\C.size=M/\∀(i:Nat) x,cs[i]? =some x->C[i]? =some x)(ho:∀x∈cs,x.oneCell'=true)(hn:X0.κ<=nm)(hn2:2<=nm/\nm<64):Wd X0 (X.rowX nm a cs M) h0 [nm] 64 w w':=by
 have old:∀b,b<w.heap.size->¬ some b=a:=fun b hb e=>by have:=(ha b e.symm).1;omega
 have oldG:∀b i,X.G b i≠ .no->¬ some b=a:=fun b i h=>old b (H.ex b i h)
 have fzk:∀b i x,X.G b i=.fz x->(X.rowX nm a cs M).G b i=.fz x:=fun b i x h=>by rw[uR (oldG b i (by rw[h];simp))];exact h
 have cell:∀b i,b<w.heap.size->w'.cell? (ad b i)=w.cell? (ad b i):=fun b i hb=>by unfold World.cell?; rw[hf b hb]
 have frz:∀b i,b<w.heap.size->w'.frozen? (ad b i)=w.frozen? (ad b i):=fun b i hb=>by unfold World.frozen?; rw[hf b hb]
 have mine:∀b i,some b=a->(X.rowX nm a cs M).G b i≠ .no->∃C T,w'.heap[b]? =some (.cells C T (0,0))/\C.size=M/\((∃x,cs[i]? =some x/\C[i]? =some x/\(X.rowX nm a cs M).G b i=.fz x)\/(cs[i]? =none/\i<M/\(X.rowX nm a cs M).G b i=.tp nm)):=fun b i e h=>by
  subst e
  obtain⟨_,C,T,h1,h2,h3⟩:=ha b rfl
  refine⟨C,T,h1,h2,?_⟩
  rw[OM]at h ⊢
  cases hc:cs[i]? with
 |some x=>exact .inl ⟨x,rfl,h3 i x hc,rfl⟩
 |none=>
   rw[hc]at h
   by_cases hi:i<M
   ·exact .inr ⟨rfl,hi,by simp only[hi,if_true]⟩
   simp only[hi,if_false]at h;exact absurd rfl h
 have cellA:∀(b i:Nat) (C:Array Value) T x,w'.heap[b]? =some (.cells C T (0,0))->C[i]? =some x->w'.cell? (ad b i)=some x:=fun b i C T x h1 h2=>by simp[World.cell?, h1,h2]
 have ex':∀b i,(X.rowX nm a cs M).G b i≠ .no->b<w'.heap.size:=fun b i h=>by
  by_cases e:some b=a
  ·obtain⟨C,T,h1,_⟩:=mine b i e h;exact(Z4.1 h1).1
  rw[uR e]at h;exact X7 (H.ex b i h) hs
 exact { kb:=⟨hos.trans H.kb.1,hou.trans H.kb.2.1,fun i hi=>by rw[hf i hi];exact H.kb.2.2 i hi⟩
         tape:=ht.trans H.tape
         fz0:=fun b i x h=>fzk b i x (H.fz0 b i x h)
         no0:=fun b i hb h=>by rw[uR (old b hb)];exact H.no0 b i hb h
         mp0:=fun b t hb h=>by rw[uR (old b hb)]at h;exact H.mp0 b t hb h
         ρ0:=H.ρ0,ex:=ex'
         fz:=fun b i x h=>by
          by_cases e:some b=a
          ·obtain⟨C,T,h1,h2,⟨y,h3,h4,h5⟩|⟨_,_,h5⟩⟩:=mine b i e (by rw[h];simp)
           ·rw[h5]at h
            have h7:y=x:=by injection h
            subst h7
            have h6:=ho y (E3 h3)
            exact⟨fun _=>cellA b i C T y h1 h4,fun t e'=>(pF (by rw[<-e'];exact h6)).elim,.inl h6⟩
           rw[h5]at h;cases h
          rw[uR e]at h
          have hb:=H.ex b i (by rw[h];simp)
          exact(H.fz b i x h).move fzk (cell b i hb) (fun _ _ hm=>by rw[hf b hb];exact hm)
         tp:=fun b i t h=>by
          by_cases e:some b=a
          ·obtain⟨C,T,h1,h2,⟨y,h3,h4,h5⟩|⟨h3,h4,h5⟩⟩:=mine b i e (by rw[h];simp)
           ·rw[h5]at h;cases h
           refine⟨by rw[cellA b i C T _ h1 (zR zO)];rfl,?_⟩
           simp[World.frozen?, h1]
          rw[uR e]at h
          have hb:=H.ex b i (by rw[h];simp)
          rw[cell b i hb,frz b i hb];exact H.tp b i t h
         rt:=fun _ _ _ _ _ _=>trivial
         c2:=by omega
         lvc:=fun t ht'=>by simp only[O8]at ht';omega
         ρc:=fun r j p h=>X7 (H.ρc r j p h) zO
         inv:=H.imo _ _ _ _ _ _ ⟨fzk,fun b i t h1 h2 _=>by simp only[O8]at h1;omega,fun t h1 h2=>by simp only[O8]at h1;omega,fun _ _ _ _ _ h=>h⟩ H.inv
         imo:=H.imo,κc:=J2 H.κc zO,νe:=H.νe,we:=H.we,gz:=H.gz,ν0:=H.ν0,νs:=J2 H.νs hs
         nf:=fun b hb ⟨i,hi⟩ C T fr he=>by
          by_cases e:some b=a
          ·obtain⟨_,C',T',h1,_⟩:=ha b e.symm
           rw[h1]at he;cases he;exact .inl rfl
          rw[uR e]at hi
          rw[hf b (H.ex b i hi)]at he;exact H.nf b hb ⟨i,hi⟩ C T fr he}
theorem Wj(R:List A6):(R.flatMap C2).length=R.length*32:=by
 induction R with
|nil=>rfl
|cons x R ih=>rw[iG,C6,ih,aI,G8,G7];omega
theorem Ag:∀(R:List A6) (i:Nat) (x:A6),R[i]? =some x->∀(k:Nat) v,(C2 x)[k]? =some v->(R.flatMap C2)[i*32+k]? =some v
|[],i,x,h=>by simp at h
|y::R,0,x,h=>fun k v hk=>by
  simp only[PK,F2]at h
  subst h
  have:=(N1.1 hk).1
  rw[iG,Nat.zero_mul,J5,N5 zO];exact hk
|y::R,i+1,x,h=>fun k v hk=>by
  rw[DC]at h
  rw[iG,L7 (by rw[aI,G7];omega),aI,show(i+1)*32+k-32=i*32+k by rw[G7];omega]
  exact Ag R i x h k v hk
theorem Ah{hh:Nat->Nat->V}{nm:Nat}{S:List Nat}{a:Option Nat}{R:List A6}(H:Wd X0 X hh lv 16 w w)(Hk:Hp w w' S (.own a R.length cap (R.flatMap C2) 36 32::L))(hS:∀s∈S,s<w.heap.size/\∃O,.obj s O∈L/\w.heap[s]? =some O)(hn:X0.κ<=nm)(hn2:2<=nm/\nm<64):
  ∃X',repv X' [nm] 64 (B3 nm 32 eI (R.map (·.1))) (.slice (hd a) R.length cap)/\Wd X0 X' h0 [nm] 64 w w':=by
 have hf:∀b,b<w.heap.size->w'.heap[b]? =w.heap[b]? :=fun b hb=>by
  by_cases hs:b∈S
  ·obtain⟨_,O,h1,h2⟩:=hS b hs
   have h3:w'.heap[b]? =some O:=Hk.has _ (R5 _ h1)
   rw[h2,h3]
  exact Hk.frame b hb hs
 have M4:=Hk.has _ (X9 ..)
 have kE:∀b,a=some b->w.heap.size<=b:=fun b e=>by
  subst e
  rcases Hk.fresh _ (X9 ..) b rfl with h|h
  ·obtain⟨_,O,h1,_⟩:=hS b h
   have:=(List.pairwise_cons.1 Hk.nd).1 _ h1 b rfl
   exact absurd rfl this
  exact h
 have D7:R.length*32<=cap*32/\cap<=maxLen:=by
  cases a with
 |none=>obtain⟨h1,h2,_⟩:=M4;rw[h1,h2];exact⟨zO,by decide⟩
 |some b=>obtain⟨_,h2,h3,_⟩:=M4;exact⟨zO,h3⟩
 have W:=Wi (nm:=nm) (a:=a) (cs:=R.flatMap C2) (M:=cap*32) H hf Hk.os Hk.output Hk.tape Hk.size (fun b e=>by
  subst e
  obtain⟨h1,h2,h3,rest,h4,h5⟩:=M4
  refine⟨kE b rfl,_,_,h4,by simpa using h5,fun i x hx=>?_⟩
  rw[fQ,N5 (N1.1 hx).1];exact hx) (fun x hx=>by
  obtain⟨y,_,h2⟩:=List.mem_flatMap.1 hx
  exact P5.1 (uP y) x h2) hn hn2
 refine⟨_,?_,W⟩
 refine⟨by decide,hd a,cap,by rw[J7],by rw[J7];omega,D7.2,zO,fun e=>by omega,?_⟩
 cases a with
|none=>obtain⟨_,h2,_⟩:=M4;exact .inl ⟨.inl rfl,h2⟩
|some b=>
  refine .inr ⟨b,0,rfl,fun i hi=>?_,fun _ i h1 h2=>?_⟩
  ·rw[J7]at hi
   have hx:R[i]? =some R[i]:=B6 hi
   refine⟨C2 R[i],⟨?_,?_⟩,aI _,rfl,fun k v hk=>?_⟩
   ·show((R.map fun x:A6=>x.1).getD i default).length=32
    rw[l6,Y6,hx];exact R[i].2
   ·show C2 R[i]=((R.map fun x:A6=>x.1).getD i default).map E9
    rw[l6,Y6,hx];rfl
   rw[J5,OM,Ag R i _ hx k v hk]
  rw[J7]at h1
  rw[J5,OM,V6 (by rw[Wj];omega)]
  simp only[h2,if_true]
theorem Ai(X:Cx)(K:List By)(s c:Nat):∀es:List MapEntry,(∀e∈es,e.born<c/\(∃k:List UInt8,k.length=32/\e.key=F9 k/\k∈K)/\∃v,X4 s v=true/\repv X [] 2 v e.val)->
  ∃M:List (A6×Value×Nat),M.map (S9 kA)=es/\∀x∈M,x.2.2<c/\x.1.1∈K/\∃v,X4 s v=true/\repv X [] 2 v x.2.1
|[],_=>⟨[],rfl,fun _ h=>by cases h⟩
|e::es,h=>by
  obtain⟨M,h1,h2⟩:=Ai X K s c es fun e' he=>h e' (R5 _ he)
  obtain⟨hb,⟨k,k1,k2,k3⟩,hv⟩:=h e (X9 ..)
  refine⟨(⟨k,k1⟩,e.val,e.born)::M,?_,fun x hx=>?_⟩
  ·rw[U1,h1]
   congr 1
   obtain⟨ek,ev,eb⟩:=e
   simp only at k2
   subst k2;rfl
  rcases K8.1 hx with rfl|hx
  ·exact⟨hb,k3,hv⟩
  exact h2 x hx
theorem Wl{b:Nat}{t:MS}(h:MapC X w b 0 t):∃(M:List (A6×Value×Nat)) (c:Nat),w.heap[b]? =some (B7 kA M c)/\MOk M c/\∀x∈M,x.1.1∈t.K/\∃v,X4 t.s v=true/\repv X [] 2 v x.2.1:=by
 obtain⟨es,c,h1,h2,h3,h4⟩:=h
 obtain⟨M,m1,m2⟩:=Ai X t.K t.s c es.toList h4
 refine⟨M,c,?_,⟨?_,?_,fun x hx=>(m2 x hx).1⟩,fun x hx=>(m2 x hx).2⟩
 ·rw[h1,B7,m1]
 ·rw[<-m1,List.map_map]at h2
  exact List.Pairwise.of_map (S:=fun x y=>x≠y) kA (fun a b h e=>h (by rw[e])) (by rw[List.map_map];exact h2)
 rw[<-m1,List.map_map]at h3;exact h3
theorem Wm{enc:α->Value}{M:List (A6×Value×Nat)}{K:List By}(h:∀x∈M,x.1.1∈K/\∃a,enc a=x.2.1):∃F:A6->Option α,MIs enc M F/\∀k,(F k).isSome=true->k.1∈K:=by
 have one:∀k:A6,∃o:Option α,O2 M k=o.map enc/\(o.isSome=true->k.1∈K):=fun k=>by
  cases e:O2 M k with
 |none=>exact⟨none,rfl,fun h=>by cases h⟩
 |some v=>
   obtain⟨x,x1,rfl,rfl,_⟩:=BX e
   obtain⟨h1,a,h2⟩:=h x x1
   exact⟨some a,by rw[X8,h2],fun _=>h1⟩
 exact⟨fun k=>(one k).choose,fun k=>(one k).choose_spec.1,fun k=>(one k).choose_spec.2⟩
theorem Aj{F:A6->Option α}{K:List By}(h:∀k,(F k).isSome=true->k.1∈K)(hK:K.length<=65536)(l:List A6)(hn:l.Nodup)(hl:∀j∈l,(F j).isSome=true):l.length<=K.length/\l.length<=65536:=by
 have hn':(l.map (·.1)).Nodup:=hn.map _ fun a b h e=>h (Subtype.ext e)
 have:=BY hn' (m:=K) fun x hx=>by
  obtain⟨y,hy,rfl⟩:=J6.1 hx
  exact h y (hl y hy)
 rw[J7]at this
 omega
theorem Wn{v:V}(h:X4 0 v=true):∃n,v=.i .i64 n:=by
 unfold X4 at h
 split at h<;>first|exact⟨_,rfl⟩|(rename_i h0;first|cases h0|cases h)|cases h
theorem RisA.nd{l:List A6}(h:RisA l):l.Nodup:=List.Pairwise.imp (fun {a b} h e=>by subst e;exact List.lt_irrefl _ h) h
theorem Wo{b:Nat}{v:Value}(h:w.cell? (ad b o)=some v):∃O,w.heap[b]? =some O/\zB O o v:=by
 unfold World.cell? at h
 cases e:w.heap[b]? with
|none=>simp[e]at h
|some O=>
  cases O with
 |cells C T fr=>exact⟨_,rfl,C,T,fr,rfl,by simpa [e] using h⟩
 |_=>simp[e]at h
theorem Wp(K:List By)(b:Nat)(hK:K.length<=65536):SatHM Tryz.prog false 163 [mY 189 [.pr 2 0 []],mY 165 []] [] [(2,.mp b 0 ⟨0,K⟩)] (fun out ho A0=>(∃l:List By,out=B3 16 32 eI l/\l.length<=K.length/\∀x∈l,x∈K)/\ho=[]/\A0=[16]):=fun X w vs D7 aS H _=>by
 match vs,D7 with
|[x0,x1],_=>
 have r0:=aS 0 _ _ rfl rfl
 have r1:=aS 1 _ _ rfl rfl
 obtain⟨vs0,f1,f2,f3⟩:=r0
 obtain⟨y,f4,f5⟩:=f3 0 (by decide)
 obtain⟨_,bb,o,N,e1,e2,_⟩:=f5
 obtain⟨vs1,g1,g2,_⟩:=r1
 have z8:vs0=[.pointer (some ⟨bb,o,none⟩)]:=by
  match vs0,f2,f4 with
 |[z],_,f4=>
   simp only[PK,F2]at f4
   subst f4
   rw[e2];rfl
 have hv1:vs1=[]:=l4.1 g2
 subst z8 hv1
 have hx0:x0=.func (.func 189) #[] #[.pointer (some ⟨bb,o,none⟩)]:=by simpa using f1
 have hx1:x1=.func (.func 165) #[] #[]:=by simpa using g1
 subst hx0 hx1
 have hR:RtR X [] 16 w 2 0 bb o N (.mp b 0 ⟨0,K⟩):=H.rt 2 0 bb o N e1
 obtain⟨cs,c1,c2,c3,c4⟩:=hR
 have w4:cs.length=1:=X3 (v:=.mp b 0 ⟨0,K⟩) rfl c1
 obtain⟨x,hx⟩:∃x,cs=[x]:=List.length_eq_one_iff.1 w4
 subst hx
 obtain⟨e0,hg,_⟩:=BR (q:=0) H c1 rfl
 have hm:MapC X w b 0 ⟨0,K⟩:=(H.fz b 0 _ hg).m _ rfl
 obtain⟨M,c,m1,m2,m3⟩:=Wl hm
 obtain⟨F,f1,f2⟩:=Wm (enc:=VI) (M:=M) (K:=K) fun x hx=>⟨(m3 x hx).1,by
  obtain⟨_,v,v1,v2⟩:=m3 x hx
  obtain⟨n,rfl⟩:=Wn v1
  exact⟨n,(M0 v2).1.symm⟩⟩
 subst e0
 obtain⟨OB,o1,o2⟩:=Wo (c4 0 _ rfl).2.1
 have D5:bb≠b:=fun e=>by
  subst e
  obtain⟨C,T,fr,rfl,_⟩:=o2
  rw[o1]at m1;cases m1
 have hO:Own w [.obj bb OB,.obj b (B7 kA M c)]:=⟨fun d hd=>by
  simp only[K8,List.not_mem_nil,or_false]at hd
  rcases hd with rfl|rfl
  ·exact o1
  ·exact m1,.cons (fun d hd q hq=>by
  simp only[O8]at hd
  subst hd
  intro h
  simp only[Ch.key,F2]at hq h
  omega) (.cons (fun _ h=>by cases h) .nil)⟩
 refine(Wh w bb b c (o+0) OB o2 M F f1 m2 hO fun l h1 h2=>(Aj f2 hK l h1 h2).2).mono fun v w' ⟨a,k,R,h1,h2,Hk⟩=>?_
 obtain⟨X',q1,q2⟩:=Ah (nm:=16) H (Hk.perm (L':=[.own a R.length k (R.flatMap C2) 36 32,.obj bb OB,.obj b (B7 kA M c)]) (PH (Ch.own a R.length k (R.flatMap C2) 36 32) [Ch.obj bb OB,Ch.obj b (B7 kA M c)])) (fun s hs=>by
  simp only[keys,List.filterMap_cons,Ch.key,List.filterMap_nil,K8,List.not_mem_nil,or_false]at hs
  rcases hs with rfl|rfl
  ·exact⟨(Z4.1 o1).1,_,X9 ..,o1⟩
  exact⟨(Z4.1 m1).1,_,R5 _ (O8.2 rfl),m1⟩) (B2 _) zO
 subst h2
 have W3:∀k∈R,(F k).isSome=true:=fun k hk=>(h1.2 k).1 hk
 exact⟨X',[],[16],_,⟨⟨R.map (·.1),rfl,by rw[J7];exact(Aj f2 hK R h1.1.nd W3).1,fun x hx=>by
  obtain⟨y,hy,rfl⟩:=J6.1 hx
  exact f2 y (W3 y hy)⟩,rfl,rfl⟩,q1,by
  have e:S6 ([]:List (Nat×V))=h0:=by funext r j;cases j<;>rfl
  rw[e];exact q2⟩
theorem ON:∀(n:Nat) (R6:Int),1<=R6->R6+n=9->YV R6
|0,R6,h1,h2=>fun K a b c tl l e x t hc he hl ht mC=>YW K a b c tl l e x t R6 ⟨h1,zO⟩ (fun h=>absurd h zO) hc he hl ht mC
|n+1,R6,h1,h2=>fun K a b c tl l e x t hc he hl ht mC=>YW K a b c tl l e x t R6 ⟨h1,zO⟩ (fun _ d hd=>hd▸ON n (R6+1) zO zO) hc he hl ht mC
theorem Wq(K:List By)(b:Nat):SatM Tryz.prog false 164 [.mp b 0 ⟨0,K⟩] [] (fun out ho A0=>out=mY 189 [.pr 2 0 []]/\ho=[(2,.mp b 0 ⟨0,K⟩)]/\A0=[]):=by
 refine fM false Tryz.func164 fun X0 w0 hX hm=>?_
 exact xW hX (mY 189 [.pr 2 0 []]) ⟨rfl,rfl,rfl⟩
theorem Wr(n:Nat)(g:Nat->Obj)(r:By)(hn:n<=65536)(hd:∀i,i<n->(g i).data.length<=100000):SatM Tryz.prog true 117 [.sl 0 33 n fun i=>C3 (g i),.bs 32 r] [] (fun out ho A0=>∃(l:List By) (e:Int),out=A2 [B3 2 32 eI l,.i .i64 e]/\A0=[2]/\l.length<=n/\ho=[]):=by
 refine fM true Tryz.func117 fun X0 w0 hX hm=>?_
 refine kM (fun _=>hm rfl) [] (YU n (fun i=>(g i)) false zO hd) ?_;rintro out ho A0 ⟨ba0,bb0,rfl,rfl,rfl⟩
 refine gV (fun _=>hm rfl) [(274,2),(275,3)] [274] (ON 8 1 zO rfl ((List.range n).map fun i=>((fun i=>(g i)) i).of) ba0 bb0 0 false [] 0 r [] bd rfl bd bd (fun h=>absurd h zO)) ?_;rintro out ho A0 ⟨gc1,IY,wQ,rfl,rfl,hgc1,hgf1⟩
 refine cB (wQ≠0) ?_ ?_<;>intro h1
 ·exact xW hX (A2 [B3 2 32 eI [],.i .i64 wQ]) ⟨_,_,rfl,rfl,by first|(simp;done)|(simp only[J7,DL]at *;omega),rfl⟩ (hv:=vT (u:=A2 [.sl 2 32 0 fun _=>.un,.i .i64 wQ]) (F5 ⟨vN,.rfl _,zT⟩))
 refine kO [] (Wq ((List.range n).map fun i=>((fun i=>(g i)) i).of) bb0) ?_
 rintro out ho A0 ⟨rfl,rfl,rfl⟩
 refine kH [(1170,2)] [1170] (Wp ((List.range n).map fun i=>((fun i=>(g i)) i).of) bb0 (by first|assumption|(simp only[J7,DL];omega))) ?_;rintro out ho A0 ⟨⟨sl2,rfl,hsl2,hsk2⟩,rfl,rfl⟩
 exact xW hX (A2 [B3 2 32 eI sl2,.i .i64 0]) ⟨_,_,rfl,rfl,by first|(simp;done)|(simp only[J7,DL]at *;omega),rfl⟩
theorem Ak(n:Nat)(g:Nat->Obj)(r:By)(hn:n<=65536)(hd:∀i,i<n->(g i).data.length<=100000):SatM Tryz.prog true 125 [.sl 0 33 n fun i=>C3 (g i),.bs 32 r] [] (fun out ho A0=>∃(l:List Fil) (e:Int),out=A2 [B3 2 3 O6 l,.i .i64 e]/\A0=[2]/\l.length<=1024/\FOk l/\ho=[]):=by
 refine fM true Tryz.func125 fun X0 w0 hX hm=>?_
 refine kM (fun _=>hm rfl) [] (YU n (fun i=>(g i)) true zO hd) ?_;rintro out ho A0 ⟨ba0,bb0,rfl,rfl,rfl⟩
 refine gV (fun _=>hm rfl) [(274,2),(275,3)] [274] (ON 8 1 zO rfl ((List.range n).map fun i=>((fun i=>(g i)) i).of) ba0 bb0 0 true [] 0 r [] bd rfl bd bd (fun h=>absurd h zO)) ?_;rintro out ho A0 ⟨gc1,IY,wQ,rfl,rfl,hgc1,hgf1⟩
 refine cB (wQ≠0) ?_ ?_<;>intro h1
 ·exact xW hX (A2 [B3 2 3 O6 [],.i .i64 wQ]) ⟨_,_,rfl,rfl,by first|(simp;done)|(simp only[J7,DL]at *;omega),FOk.nil,rfl⟩ (hv:=vT (u:=A2 [.sl 2 3 0 fun _=>.un,.i .i64 wQ]) (F5 ⟨vN,.rfl _,zT⟩))
 exact xW hX (A2 [B3 2 3 O6 IY,.i .i64 0]) ⟨_,_,rfl,rfl,by first|(simp;done)|(simp only[J7,DL]at *;omega),hgf1 FOk.nil,rfl⟩
end Go.Proofs.YtgohjiegkhfpmaaGreatDoor
