/-
  No cell of these rows narrows 'for every input' (looked for: loops, veiled, ifaces, maps, wideKeys, modest, calm, conditions, laid).
  DERIVED. THE GIVEN ROWS OF THIS SEAT. 5 by the template 'for every input the law returns true; each argument reads behind the call as it read before'; 0 by the template 'total and deterministic' (their statements: YtomjbabllcmodaaTotals.lean).
  GIVEN WITH THE SEED: the statements are not yours to turn. If you find one false, say at which input.
  Laid BY PROGRAM, IN A SANDBOX (cutbox-rows.mjs): the forced cells as the released guide's own fill.sh prints them over the translation cfb3e913095dcdb1… (all of the seat's roots in one cut). By AI agents, Wed Nov 11 2026. No macro, syntax, notation, axiom, sorry.
-/
import Derived.Test.YtomjbabllcmodaaChecked
import GoSem.Claim
import GoSem.ClaimJoined
import GoSem.ClaimMapViews
import Derived.JoinedTies
import Derived.KernelRfl
namespace Go.Proofs.Ytomjbabllcmodaa
/- THE CELL 'sum', in the pinned program and in every row, IS THE sha256 OF THE DUMP (.gsa) THAT YtomjbabllcmodaaProg.lean LOADS. Nothing in Lean hashes anything: it is a label: what it is worth is what the hold of that sum in a sandbox is worth. -/
noncomputable def Try.pinned : Pinned := { name := "ytomjbabllcmodaa", sum := "cfb3e913095dcdb134831c753d623355ca7f517756bd693e1c7b7b7c7714572c", checked := Try.checked }
namespace Rows
def none {H : Type} : Left H := { results := [], args := [] }

/-- 'cofferlaw18.ReachAll': WHATEVER THE INPUT: true; the input reads as it did. -/
def reachAllSpec : ChangeSpec := { name := "reachAll", fn := fun _ => fun
  | [d1, d2] => { results := [.lit (.bool true)], args := [d1, d2] }
  | _ => none }
def reachAllRow : OpenClaim := { program := "ytomjbabllcmodaa", sum := "cfb3e913095dcdb134831c753d623355ca7f517756bd693e1c7b7b7c7714572c", func := "coffer/cofferlaw18.ReachAll", spec := "reachAll", inPlace := ["internal/bytealg.IndexByteString", "internal/bytealg.IndexString", "internal/bytealg.Compare"], unfollowed := true, recurses := true, named := ["internal/bytealg.MaxLen"], plainKeys := false, apart := false }
def ReachAllSaid : Prop := reachAllRow.holds Try.pinned (OpenSpec.ofChange reachAllSpec)

/-- ITS FALSE NEIGHBOUR: 'it returns false'. Refute it at one input. -/
def reachAllWrong : ChangeSpec := { name := "reachAll", fn := fun _ => fun
  | [d1, d2] => { results := [.lit (.bool false)], args := [d1, d2] }
  | _ => none }
def ReachAllWrongFalsely : Prop := reachAllRow.holds Try.pinned (OpenSpec.ofChange reachAllWrong)

/-- 'cofferlaw18.ReachParts': WHATEVER THE INPUT: true; the input reads as it did. -/
def reachPartsSpec : ChangeSpec := { name := "reachParts", fn := fun _ => fun
  | [d1, d2, d3] => { results := [.lit (.bool true)], args := [d1, d2, d3] }
  | _ => none }
def reachPartsRow : OpenClaim := { program := "ytomjbabllcmodaa", sum := "cfb3e913095dcdb134831c753d623355ca7f517756bd693e1c7b7b7c7714572c", func := "coffer/cofferlaw18.ReachParts", spec := "reachParts", inPlace := ["internal/bytealg.IndexByteString", "internal/bytealg.IndexString", "internal/bytealg.Compare"], unfollowed := true, recurses := true, named := ["internal/bytealg.MaxLen"], plainKeys := false, apart := false }
def ReachPartsSaid : Prop := reachPartsRow.holds Try.pinned (OpenSpec.ofChange reachPartsSpec)

/-- ITS FALSE NEIGHBOUR: 'it returns false'. Refute it at one input. -/
def reachPartsWrong : ChangeSpec := { name := "reachParts", fn := fun _ => fun
  | [d1, d2, d3] => { results := [.lit (.bool false)], args := [d1, d2, d3] }
  | _ => none }
def ReachPartsWrongFalsely : Prop := reachPartsRow.holds Try.pinned (OpenSpec.ofChange reachPartsWrong)

/-- 'cofferlaw18.ReachAgain': WHATEVER THE INPUT: true; the input reads as it did. -/
def reachAgainSpec : ChangeSpec := { name := "reachAgain", fn := fun _ => fun
  | [d1, d2] => { results := [.lit (.bool true)], args := [d1, d2] }
  | _ => none }
def reachAgainRow : OpenClaim := { program := "ytomjbabllcmodaa", sum := "cfb3e913095dcdb134831c753d623355ca7f517756bd693e1c7b7b7c7714572c", func := "coffer/cofferlaw18.ReachAgain", spec := "reachAgain", inPlace := ["internal/bytealg.IndexByteString", "internal/bytealg.IndexString", "internal/bytealg.Compare"], unfollowed := true, recurses := true, named := ["internal/bytealg.MaxLen"], plainKeys := false, apart := false }
def ReachAgainSaid : Prop := reachAgainRow.holds Try.pinned (OpenSpec.ofChange reachAgainSpec)

/-- ITS FALSE NEIGHBOUR: 'it returns false'. Refute it at one input. -/
def reachAgainWrong : ChangeSpec := { name := "reachAgain", fn := fun _ => fun
  | [d1, d2] => { results := [.lit (.bool false)], args := [d1, d2] }
  | _ => none }
def ReachAgainWrongFalsely : Prop := reachAgainRow.holds Try.pinned (OpenSpec.ofChange reachAgainWrong)

/-- 'cofferlaw17.WalkAll': WHATEVER THE INPUT: true; the input reads as it did. -/
def walkAllSpec : ChangeSpec := { name := "walkAll", fn := fun _ => fun
  | [d1, d2] => { results := [.lit (.bool true)], args := [d1, d2] }
  | _ => none }
def walkAllRow : OpenClaim := { program := "ytomjbabllcmodaa", sum := "cfb3e913095dcdb134831c753d623355ca7f517756bd693e1c7b7b7c7714572c", func := "coffer/cofferlaw17.WalkAll", spec := "walkAll", inPlace := ["internal/bytealg.IndexByteString", "internal/bytealg.IndexString", "internal/bytealg.Compare"], unfollowed := true, recurses := true, named := ["internal/bytealg.MaxLen"], plainKeys := false, apart := false }
def WalkAllSaid : Prop := walkAllRow.holds Try.pinned (OpenSpec.ofChange walkAllSpec)

/-- ITS FALSE NEIGHBOUR: 'it returns false'. Refute it at one input. -/
def walkAllWrong : ChangeSpec := { name := "walkAll", fn := fun _ => fun
  | [d1, d2] => { results := [.lit (.bool false)], args := [d1, d2] }
  | _ => none }
def WalkAllWrongFalsely : Prop := walkAllRow.holds Try.pinned (OpenSpec.ofChange walkAllWrong)

/-- 'cofferlaw17.WalkWide': WHATEVER THE INPUT: true; the input reads as it did. -/
def walkWideSpec : ChangeSpec := { name := "walkWide", fn := fun _ => fun
  | [d1, d2] => { results := [.lit (.bool true)], args := [d1, d2] }
  | _ => none }
def walkWideRow : OpenClaim := { program := "ytomjbabllcmodaa", sum := "cfb3e913095dcdb134831c753d623355ca7f517756bd693e1c7b7b7c7714572c", func := "coffer/cofferlaw17.WalkWide", spec := "walkWide", inPlace := ["internal/bytealg.IndexByteString", "internal/bytealg.IndexString", "internal/bytealg.Compare"], unfollowed := true, recurses := true, named := ["internal/bytealg.MaxLen"], plainKeys := false, apart := false }
def WalkWideSaid : Prop := walkWideRow.holds Try.pinned (OpenSpec.ofChange walkWideSpec)

/-- ITS FALSE NEIGHBOUR: 'it returns false'. Refute it at one input. -/
def walkWideWrong : ChangeSpec := { name := "walkWide", fn := fun _ => fun
  | [d1, d2] => { results := [.lit (.bool false)], args := [d1, d2] }
  | _ => none }
def WalkWideWrongFalsely : Prop := walkWideRow.holds Try.pinned (OpenSpec.ofChange walkWideWrong)

/- THE SECOND FORM. 'bulk': how many values and letters a reading holds, each counted each time it is reached (what is shared counts as often as it is met; a slice's spare places count too). A statement '..UptoSaid' is the law's where the arguments, and the package variables that the reading takes, are together of bulk at most 1048576: NARROWER than '..Said'. Prove '..Said' where nothing that the law and all that it calls make is longer than what came in: it says more and counts as full. Else prove '..UptoSaid'. A law counts once. -/
mutual
def uptoBulk {H : Type} : DataW H → Nat
  | .lit (.string bytes) => bytes.length + 1
  | .lit _ => 1
  | .nil => 1
  | .ptr d => uptoBulk d + 1
  | .slice elems spare => uptoBulkAll elems + uptoBulkAll spare + 1
  | .agg parts => uptoBulkAll parts + 1
  | .iface _ d => uptoBulk d + 1
  | .map entries => uptoBulkEntries entries + 1
  | .held _ => 1
def uptoBulkAll {H : Type} : List (DataW H) → Nat
  | [] => 0
  | d :: r => uptoBulk d + uptoBulkAll r
def uptoBulkEntries {H : Type} : List (Lit × DataW H) → Nat
  | [] => 0
  | x :: r => uptoBulkEntry x + uptoBulkEntries r
def uptoBulkEntry {H : Type} : Lit × DataW H → Nat
  | (.string bytes, d) => bytes.length + uptoBulk d + 1
  | (_, d) => uptoBulk d + 1
 end
def uptoSmall : (H : Type) → List (DataW H) → Bool := fun _ ds => decide (uptoBulkAll ds ≤ 1048576)
def OpenSpec.upto (s : _root_.Go.ChangeSpec) : _root_.Go.OpenSpec := { _root_.Go.OpenSpec.ofChange s with cond := some uptoSmall }

/-- 'cofferlaw18.ReachAll', WHERE WHAT IT READS IS OF BULK AT MOST 1048576: true; the input reads as it did. -/
def reachAllUptoRow : OpenClaim := { program := "ytomjbabllcmodaa", sum := "cfb3e913095dcdb134831c753d623355ca7f517756bd693e1c7b7b7c7714572c", func := "coffer/cofferlaw18.ReachAll", spec := "reachAll", inPlace := ["internal/bytealg.IndexByteString", "internal/bytealg.IndexString", "internal/bytealg.Compare"], unfollowed := true, recurses := true, named := ["internal/bytealg.MaxLen"], plainKeys := false, apart := false, narrowed := true }
def ReachAllUptoSaid : Prop := reachAllUptoRow.holds Try.pinned (OpenSpec.upto reachAllSpec)

/-- 'cofferlaw18.ReachParts', WHERE WHAT IT READS IS OF BULK AT MOST 1048576: true; the input reads as it did. -/
def reachPartsUptoRow : OpenClaim := { program := "ytomjbabllcmodaa", sum := "cfb3e913095dcdb134831c753d623355ca7f517756bd693e1c7b7b7c7714572c", func := "coffer/cofferlaw18.ReachParts", spec := "reachParts", inPlace := ["internal/bytealg.IndexByteString", "internal/bytealg.IndexString", "internal/bytealg.Compare"], unfollowed := true, recurses := true, named := ["internal/bytealg.MaxLen"], plainKeys := false, apart := false, narrowed := true }
def ReachPartsUptoSaid : Prop := reachPartsUptoRow.holds Try.pinned (OpenSpec.upto reachPartsSpec)

/-- 'cofferlaw18.ReachAgain', WHERE WHAT IT READS IS OF BULK AT MOST 1048576: true; the input reads as it did. -/
def reachAgainUptoRow : OpenClaim := { program := "ytomjbabllcmodaa", sum := "cfb3e913095dcdb134831c753d623355ca7f517756bd693e1c7b7b7c7714572c", func := "coffer/cofferlaw18.ReachAgain", spec := "reachAgain", inPlace := ["internal/bytealg.IndexByteString", "internal/bytealg.IndexString", "internal/bytealg.Compare"], unfollowed := true, recurses := true, named := ["internal/bytealg.MaxLen"], plainKeys := false, apart := false, narrowed := true }
def ReachAgainUptoSaid : Prop := reachAgainUptoRow.holds Try.pinned (OpenSpec.upto reachAgainSpec)

/-- 'cofferlaw17.WalkAll', WHERE WHAT IT READS IS OF BULK AT MOST 1048576: true; the input reads as it did. -/
def walkAllUptoRow : OpenClaim := { program := "ytomjbabllcmodaa", sum := "cfb3e913095dcdb134831c753d623355ca7f517756bd693e1c7b7b7c7714572c", func := "coffer/cofferlaw17.WalkAll", spec := "walkAll", inPlace := ["internal/bytealg.IndexByteString", "internal/bytealg.IndexString", "internal/bytealg.Compare"], unfollowed := true, recurses := true, named := ["internal/bytealg.MaxLen"], plainKeys := false, apart := false, narrowed := true }
def WalkAllUptoSaid : Prop := walkAllUptoRow.holds Try.pinned (OpenSpec.upto walkAllSpec)

/-- 'cofferlaw17.WalkWide', WHERE WHAT IT READS IS OF BULK AT MOST 1048576: true; the input reads as it did. -/
def walkWideUptoRow : OpenClaim := { program := "ytomjbabllcmodaa", sum := "cfb3e913095dcdb134831c753d623355ca7f517756bd693e1c7b7b7c7714572c", func := "coffer/cofferlaw17.WalkWide", spec := "walkWide", inPlace := ["internal/bytealg.IndexByteString", "internal/bytealg.IndexString", "internal/bytealg.Compare"], unfollowed := true, recurses := true, named := ["internal/bytealg.MaxLen"], plainKeys := false, apart := false, narrowed := true }
def WalkWideUptoSaid : Prop := walkWideUptoRow.holds Try.pinned (OpenSpec.upto walkWideSpec)

end Rows
end Go.Proofs.Ytomjbabllcmodaa
