/- cofferlaw28.ModelCharges: over any story nobody is charged more than its quota, and the charge goes up by just what is added, and down by what is swept. Conditions: none; the listed package variables are tied to the program. -/
import Derived.Test.YtgohjiegkhfpmaaGreatDoorModelChargesG7
import Derived.LaidHandle
import Derived.LaidSub
import Derived.SevenTiedAt
import Derived.Test.YtgohjiegkhfpmaaGreatDoorCards
import Derived.Test.YtgohjiegkhfpmaaGreatDoorTie
set_option maxRecDepth 100000
set_option linter.all false
namespace Go.Proofs.YtgohjiegkhfpmaaGreatDoor
open Go
open Go.IntKind (i64 u64 u8 u32)
open List (replicate)
open Nat (beq blt)
open BitVec (ofInt)
section
open Go Go.ChangeShapes Go.WideShapes Go.ChangeAt Go.RowKit Go.ChangeMaps
def a1y:DataW Unit->Array Value
|.agg l=>(l.map fun|.lit (.int k n)=>Value.int k n|_=>.int .i64 0).toArray
|_=> #[]
def a1z(g:Nat)(d:DataW Unit)(h:Array Go.Obj):Array Go.Obj:=h.modify g fun
|.cells _ t frozen=>.cells (a1y d) t frozen
|o=>o
noncomputable def Cj (os:Os):World:=
 let w:=World.holding Tryz.prog os ⟨#[], #[],[]⟩
 { w with heap:=Rows.modelChargesRow.laid.foldl (fun h x=>a1z ((Tryz.prog.globalNamed x.1).getD 0) x.2 h) w.heap}
set_option maxRecDepth 100000 in
theorem a2a(os:Os)(args:Array Value):laidMetH Tryz.prog Rows.modelChargesRow.laid ((Cj os).forCall (fun _ _=>0) ⟨#[],args,[]⟩).memory:=
 laidMetH_of_parts (laidMet_of_run' 8 zK zK) zK
set_option maxRecDepth 100000 in
theorem a2b{W:World}(h:laidMetH Tryz.prog Rows.modelChargesRow.laid W):Lib.TabIs Tryz.prog W "internal/strconv.uint64pow10" .u64 Lib.pow10Tab:=by
 have h1:=h.filter (fun x=>x.1 == "internal/strconv.uint64pow10")
 have e:Rows.modelChargesRow.laid.filter (fun x=>x.1 == "internal/strconv.uint64pow10")=[("internal/strconv.uint64pow10",Lib.tabData .u64 Lib.pow10Tab)]:=by
  simp[Rows.modelChargesRow,List.filter];rfl
 rw[e]at h1
 have h2:laidMet Tryz.prog [("internal/strconv.uint64pow10",Lib.tabData .u64 Lib.pow10Tab)] W:=h1
 obtain⟨ps,⟨g,t,cs,fuel,p,q,hg,ht,hvar,hd,h5,h6⟩,h7⟩:=h2
 have hG:(Tryz.prog.globalNamed "internal/strconv.uint64pow10").bind (fun g=>(Tryz.prog.globals[g]?).map (·.type))=some 300:=by kernel_rfl
 rw[hg]at hG
 have lS:t=300:=by rw[DA,ht]at hG;exact qR hG
 subst lS
 unfold Lib.TabIs
 rw[hvar, <-Lib.cells_of_tab Tryz.underlying300 Tryz.underlying37 zK zK hd]
set_option maxRecDepth 100000 in
theorem a2c(os:Os)(started:os.Started)(H:Type)(enc:TypeId×Value->H):
  ReturnsInHanded {} Tryz.checked os 3 .any (fun w args=>(Rows.modelChargesSpec.pre enc Tryz.prog Tryz.f3 Rows.modelChargesRow.domain false w args/\laidMetH Tryz.prog Rows.modelChargesRow.laid w)/\sizedMet enc Tryz.prog Tryz.f3 (OpenSpec.ofChange Rows.modelChargesSpec) false w args) (Rows.modelChargesSpec.post enc Tryz.prog Tryz.f3 false true false false):=by
 refine returnsInHanded_of_change_and (C:=Tryz.checked) (X:=fun w _=>laidMetH Tryz.prog Rows.modelChargesRow.laid w) (fun _ _ _ hh h=>h.of_heap hh) Tryz.own started zK Tryz.func3
  (ChangeSpec.witness_at (enc:=enc) (C:=Tryz.checked) (os:=os) (X:=fun w _=>laidMetH Tryz.prog Rows.modelChargesRow.laid w) false (Cj os) #[.int .i64 0,.slice none 0 0] 8 rfl zK zK zK zK zK (a2a os _)) ?_
 intro W P2 args ds gs before hval0 hW _ _ _ _
 have hval:∀(j:Nat) t v,Tryz.f3.params[j]? =some t->args[j]? =some v->Value.okWide Tryz.prog W .any P2 t v:=hval0
 have hW0:DataW.Whole enc Tryz.prog Tryz.f3.params.toList Rows.modelChargesSpec.vars false W args.toList ds gs before:=hW
 obtain⟨p,q,hA0,_⟩:=id hW0
 have hA:DataW.TrodAll enc Tryz.prog W 0 (fun _=>true) true Tryz.f3.params.toList args.toList ds p:=hA0
 rw[Tryz.params3]at hA hval
 obtain⟨v0,v1,d0,d1,p0,p1,rfl,rfl,hps,h0,h1⟩:=trodAll_two hA
 obtain⟨n0,rfl,rfl,_,wn0⟩:=open_int Tryz.underlying2 (hval 0 2 v0 rfl rfl) h0
 have wb0:=bounds_i64 wn0
 obtain⟨n1,g1,hn1,hr1⟩:=a1x (hval 1 22 v1 rfl rfl) h1
 exact Hd (tb:=4) Tryz.laidOut (Hf zK) hW0 rfl rfl zK Tryz.underlying4 (a1s (a1m a1p n0 n1 g1 hn1) (a2b (by assumption)) rfl fun i v x q1 q2=>match i,q1,q2 with|0,q1,q2=>by cases q1;cases q2;exact⟨rfl,I8 ⟨zO,zO⟩⟩|1,q1,q2=>by cases q1;cases q2;exact hr1)
theorem modelCharges_holds:Rows.ModelChargesSaid:=
 OpenClaim.holds_of_wide 3 Tryz.f3 rfl rfl rfl rfl rfl rfl rfl ⟨rfl,rfl,rfl,rfl,rfl⟩ rfl rfl rfl rfl rfl zK Tryz.func3 (Hm Tryz.prog _ _ _ _ Tryz.laidOut Tryz.mapsRowed Tryz.stops Tryz.stopKnobs Tryz.stopsHeard Tryz.mayEnter Tryz.liftsFinal Tryz.make false Tryz.plainKeys zK zK)
  (of_decide_eq_true zK) (by unfold Func.isWrapper;first|(rw[if_pos (by decide +kernel)];kernel_rfl)|(rw[if_neg (by decide +kernel)];exact⟨rfl,rfl⟩))
  (fun os started H enc _=>a2c os started H enc)
theorem a2d:∀(j:Nat) (t:TypeId),Tryz.f3.params[j]? =some t->Tryz.prog.wantsStandIn t=false:=by
 intro j t ht
 rw[Tryz.params3]at ht
 have h:(#[2,22]:Array TypeId).all (fun t=> !Tryz.prog.wantsStandIn t)=true:=by kernel_rfl
 have hm:=(Array.all_eq_true_iff_forall_mem.1 h) t (Array.mem_of_getElem? ht)
 simpa using hm
set_option maxRecDepth 100000 in
theorem modelCharges_card:Rows.ModelChargesCardSaid:=
 Claim7.holds_tied_plain_at .later [] [.data,.data,.data] true (true, "010609264451cdb671a1a475f5dbf5a72ec1d22365084cbcca6a5854be5799b0") false
  modelCharges_holds (fun _ h=>by cases h) zK (fun _ h=>by cases h) modelCharges_row_tie rfl ⟨rfl,rfl⟩ zK rfl
  (fun f fn hf hfn=>by
   obtain rfl:f=3:=qR ((show Tryz.prog.funcNamed "coffer/cofferlaw28.ModelCharges" =some 3 by kernel_rfl).symm.trans hf) |>.symm
   obtain rfl:fn=Tryz.f3:=(qR (Tryz.func3.symm.trans hfn)).symm
   exact⟨by kernel_rfl,a2d⟩)
  zK
end
end Go.Proofs.YtgohjiegkhfpmaaGreatDoor
