/-
  No cell of these rows narrows 'for every input' (looked for: loops, veiled, ifaces, maps, wideKeys, modest, calm, conditions, laid).
  DERIVED. THE GIVEN ROWS OF THIS SEAT. 10 by the template 'for every input the law returns true; each argument reads behind the call as it read before'; 0 by the template 'total and deterministic' (their statements: YtncmcgcilijfkaaTotals.lean).
  GIVEN WITH THE SEED: the statements are not yours to turn. If you find one false, say at which input.
  Laid BY PROGRAM, IN A SANDBOX (cutbox-rows.mjs): the forced cells as the released guide's own fill.sh prints them over the translation f0b7ec7c8c9b8136… (all of the seat's roots in one cut). By AI agents, Wed Nov 11 2026. No macro, syntax, notation, axiom, sorry.
-/
import Derived.Test.YtncmcgcilijfkaaChecked
import GoSem.Claim
import GoSem.ClaimJoined
import GoSem.ClaimMapViews
import Derived.JoinedTies
import Derived.KernelRfl
namespace Go.Proofs.Ytncmcgcilijfkaa
/- THE CELL 'sum', in the pinned program and in every row, IS THE sha256 OF THE DUMP (.gsa) THAT YtncmcgcilijfkaaProg.lean LOADS. Nothing in Lean hashes anything: it is a label: what it is worth is what the hold of that sum in a sandbox is worth. -/
noncomputable def Try.pinned : Pinned := { name := "ytncmcgcilijfkaa", sum := "f0b7ec7c8c9b8136776d724795ee81e08f8c84d4546d09ad8c331eeebffdc504", checked := Try.checked }
namespace Rows
def none {H : Type} : Left H := { results := [], args := [] }

/-- 'cofferlaw19.MeterBounds': WHATEVER THE INPUT: true; the input reads as it did. -/
def meterBoundsSpec : ChangeSpec := { name := "meterBounds", fn := fun _ => fun
  | [d] => { results := [.lit (.bool true)], args := [d] }
  | _ => none }
def meterBoundsRow : OpenClaim := { program := "ytncmcgcilijfkaa", sum := "f0b7ec7c8c9b8136776d724795ee81e08f8c84d4546d09ad8c331eeebffdc504", func := "coffer/cofferlaw19.MeterBounds", spec := "meterBounds", plainKeys := false, apart := false }
def MeterBoundsSaid : Prop := meterBoundsRow.holds Try.pinned (OpenSpec.ofChange meterBoundsSpec)

/-- ITS FALSE NEIGHBOUR: 'it returns false'. Refute it at one input. -/
def meterBoundsWrong : ChangeSpec := { name := "meterBounds", fn := fun _ => fun
  | [d] => { results := [.lit (.bool false)], args := [d] }
  | _ => none }
def MeterBoundsWrongFalsely : Prop := meterBoundsRow.holds Try.pinned (OpenSpec.ofChange meterBoundsWrong)

/-- 'cofferlaw19.MeterApart': WHATEVER THE INPUT: true; the input reads as it did. -/
def meterApartSpec : ChangeSpec := { name := "meterApart", fn := fun _ => fun
  | [d1, d2] => { results := [.lit (.bool true)], args := [d1, d2] }
  | _ => none }
def meterApartRow : OpenClaim := { program := "ytncmcgcilijfkaa", sum := "f0b7ec7c8c9b8136776d724795ee81e08f8c84d4546d09ad8c331eeebffdc504", func := "coffer/cofferlaw19.MeterApart", spec := "meterApart", plainKeys := false, apart := false }
def MeterApartSaid : Prop := meterApartRow.holds Try.pinned (OpenSpec.ofChange meterApartSpec)

/-- ITS FALSE NEIGHBOUR: 'it returns false'. Refute it at one input. -/
def meterApartWrong : ChangeSpec := { name := "meterApart", fn := fun _ => fun
  | [d1, d2] => { results := [.lit (.bool false)], args := [d1, d2] }
  | _ => none }
def MeterApartWrongFalsely : Prop := meterApartRow.holds Try.pinned (OpenSpec.ofChange meterApartWrong)

/-- 'cofferlaw19.MeterAll': WHATEVER THE INPUT: true; the input reads as it did. -/
def meterAllSpec : ChangeSpec := { name := "meterAll", fn := fun _ => fun
  | [d] => { results := [.lit (.bool true)], args := [d] }
  | _ => none }
def meterAllRow : OpenClaim := { program := "ytncmcgcilijfkaa", sum := "f0b7ec7c8c9b8136776d724795ee81e08f8c84d4546d09ad8c331eeebffdc504", func := "coffer/cofferlaw19.MeterAll", spec := "meterAll", recurses := true, plainKeys := false, apart := false }
def MeterAllSaid : Prop := meterAllRow.holds Try.pinned (OpenSpec.ofChange meterAllSpec)

/-- ITS FALSE NEIGHBOUR: 'it returns false'. Refute it at one input. -/
def meterAllWrong : ChangeSpec := { name := "meterAll", fn := fun _ => fun
  | [d] => { results := [.lit (.bool false)], args := [d] }
  | _ => none }
def MeterAllWrongFalsely : Prop := meterAllRow.holds Try.pinned (OpenSpec.ofChange meterAllWrong)

/-- 'cofferlaw19.MeterNone': WHATEVER THE INPUT: true; the input reads as it did. -/
def meterNoneSpec : ChangeSpec := { name := "meterNone", fn := fun _ => fun
  | [] => { results := [.lit (.bool true)], args := [] }
  | _ => none }
def meterNoneRow : OpenClaim := { program := "ytncmcgcilijfkaa", sum := "f0b7ec7c8c9b8136776d724795ee81e08f8c84d4546d09ad8c331eeebffdc504", func := "coffer/cofferlaw19.MeterNone", spec := "meterNone", recurses := true, plainKeys := false, apart := false }
def MeterNoneSaid : Prop := meterNoneRow.holds Try.pinned (OpenSpec.ofChange meterNoneSpec)

/-- ITS FALSE NEIGHBOUR: 'it returns false'. Refute it at one input. -/
def meterNoneWrong : ChangeSpec := { name := "meterNone", fn := fun _ => fun
  | [] => { results := [.lit (.bool false)], args := [] }
  | _ => none }
def MeterNoneWrongFalsely : Prop := meterNoneRow.holds Try.pinned (OpenSpec.ofChange meterNoneWrong)

/-- 'cofferlaw5.DiskSizes': WHATEVER THE INPUT: true; the input reads as it did. -/
def diskSizesSpec : ChangeSpec := { name := "diskSizes", fn := fun _ => fun
  | [d] => { results := [.lit (.bool true)], args := [d] }
  | _ => none }
def diskSizesRow : OpenClaim := { program := "ytncmcgcilijfkaa", sum := "f0b7ec7c8c9b8136776d724795ee81e08f8c84d4546d09ad8c331eeebffdc504", func := "coffer/cofferlaw5.DiskSizes", spec := "diskSizes", unfollowed := true, recurses := true, plainKeys := false, apart := false }
def DiskSizesSaid : Prop := diskSizesRow.holds Try.pinned (OpenSpec.ofChange diskSizesSpec)

/-- ITS FALSE NEIGHBOUR: 'it returns false'. Refute it at one input. -/
def diskSizesWrong : ChangeSpec := { name := "diskSizes", fn := fun _ => fun
  | [d] => { results := [.lit (.bool false)], args := [d] }
  | _ => none }
def DiskSizesWrongFalsely : Prop := diskSizesRow.holds Try.pinned (OpenSpec.ofChange diskSizesWrong)

/-- 'cofferlaw5.DiskLasts': WHATEVER THE INPUT: true; the input reads as it did. -/
def diskLastsSpec : ChangeSpec := { name := "diskLasts", fn := fun _ => fun
  | [d1, d2, d3] => { results := [.lit (.bool true)], args := [d1, d2, d3] }
  | _ => none }
def diskLastsRow : OpenClaim := { program := "ytncmcgcilijfkaa", sum := "f0b7ec7c8c9b8136776d724795ee81e08f8c84d4546d09ad8c331eeebffdc504", func := "coffer/cofferlaw5.DiskLasts", spec := "diskLasts", unfollowed := true, recurses := true, plainKeys := false, apart := false }
def DiskLastsSaid : Prop := diskLastsRow.holds Try.pinned (OpenSpec.ofChange diskLastsSpec)

/-- ITS FALSE NEIGHBOUR: 'it returns false'. Refute it at one input. -/
def diskLastsWrong : ChangeSpec := { name := "diskLasts", fn := fun _ => fun
  | [d1, d2, d3] => { results := [.lit (.bool false)], args := [d1, d2, d3] }
  | _ => none }
def DiskLastsWrongFalsely : Prop := diskLastsRow.holds Try.pinned (OpenSpec.ofChange diskLastsWrong)

/-- 'cofferlaw5.DiskAll': WHATEVER THE INPUT: true; the input reads as it did. -/
def diskAllSpec : ChangeSpec := { name := "diskAll", fn := fun _ => fun
  | [d1, d2] => { results := [.lit (.bool true)], args := [d1, d2] }
  | _ => none }
def diskAllRow : OpenClaim := { program := "ytncmcgcilijfkaa", sum := "f0b7ec7c8c9b8136776d724795ee81e08f8c84d4546d09ad8c331eeebffdc504", func := "coffer/cofferlaw5.DiskAll", spec := "diskAll", unfollowed := true, recurses := true, plainKeys := false, apart := false }
def DiskAllSaid : Prop := diskAllRow.holds Try.pinned (OpenSpec.ofChange diskAllSpec)

/-- ITS FALSE NEIGHBOUR: 'it returns false'. Refute it at one input. -/
def diskAllWrong : ChangeSpec := { name := "diskAll", fn := fun _ => fun
  | [d1, d2] => { results := [.lit (.bool false)], args := [d1, d2] }
  | _ => none }
def DiskAllWrongFalsely : Prop := diskAllRow.holds Try.pinned (OpenSpec.ofChange diskAllWrong)

/-- 'cofferlaw5.DiskTorn': WHATEVER THE INPUT: true; the input reads as it did. -/
def diskTornSpec : ChangeSpec := { name := "diskTorn", fn := fun _ => fun
  | [d1, d2, d3, d4, d5, d6] => { results := [.lit (.bool true)], args := [d1, d2, d3, d4, d5, d6] }
  | _ => none }
def diskTornRow : OpenClaim := { program := "ytncmcgcilijfkaa", sum := "f0b7ec7c8c9b8136776d724795ee81e08f8c84d4546d09ad8c331eeebffdc504", func := "coffer/cofferlaw5.DiskTorn", spec := "diskTorn", unfollowed := true, recurses := true, plainKeys := false, apart := false }
def DiskTornSaid : Prop := diskTornRow.holds Try.pinned (OpenSpec.ofChange diskTornSpec)

/-- ITS FALSE NEIGHBOUR: 'it returns false'. Refute it at one input. -/
def diskTornWrong : ChangeSpec := { name := "diskTorn", fn := fun _ => fun
  | [d1, d2, d3, d4, d5, d6] => { results := [.lit (.bool false)], args := [d1, d2, d3, d4, d5, d6] }
  | _ => none }
def DiskTornWrongFalsely : Prop := diskTornRow.holds Try.pinned (OpenSpec.ofChange diskTornWrong)

/-- 'cofferlaw5.DiskCopies': WHATEVER THE INPUT: true; the input reads as it did. -/
def diskCopiesSpec : ChangeSpec := { name := "diskCopies", fn := fun _ => fun
  | [d1, d2] => { results := [.lit (.bool true)], args := [d1, d2] }
  | _ => none }
def diskCopiesRow : OpenClaim := { program := "ytncmcgcilijfkaa", sum := "f0b7ec7c8c9b8136776d724795ee81e08f8c84d4546d09ad8c331eeebffdc504", func := "coffer/cofferlaw5.DiskCopies", spec := "diskCopies", inPlace := ["maps.clone"], unfollowed := true, recurses := true, plainKeys := false, apart := false }
def DiskCopiesSaid : Prop := diskCopiesRow.holds Try.pinned (OpenSpec.ofChange diskCopiesSpec)

/-- ITS FALSE NEIGHBOUR: 'it returns false'. Refute it at one input. -/
def diskCopiesWrong : ChangeSpec := { name := "diskCopies", fn := fun _ => fun
  | [d1, d2] => { results := [.lit (.bool false)], args := [d1, d2] }
  | _ => none }
def DiskCopiesWrongFalsely : Prop := diskCopiesRow.holds Try.pinned (OpenSpec.ofChange diskCopiesWrong)

/-- 'cofferlaw5.DiskNone': WHATEVER THE INPUT: true; the input reads as it did. -/
def diskNoneSpec : ChangeSpec := { name := "diskNone", fn := fun _ => fun
  | [] => { results := [.lit (.bool true)], args := [] }
  | _ => none }
def diskNoneRow : OpenClaim := { program := "ytncmcgcilijfkaa", sum := "f0b7ec7c8c9b8136776d724795ee81e08f8c84d4546d09ad8c331eeebffdc504", func := "coffer/cofferlaw5.DiskNone", spec := "diskNone", inPlace := ["maps.clone"], unfollowed := true, recurses := true, plainKeys := false, apart := false }
def DiskNoneSaid : Prop := diskNoneRow.holds Try.pinned (OpenSpec.ofChange diskNoneSpec)

/-- ITS FALSE NEIGHBOUR: 'it returns false'. Refute it at one input. -/
def diskNoneWrong : ChangeSpec := { name := "diskNone", fn := fun _ => fun
  | [] => { results := [.lit (.bool false)], args := [] }
  | _ => none }
def DiskNoneWrongFalsely : Prop := diskNoneRow.holds Try.pinned (OpenSpec.ofChange diskNoneWrong)

/- THE SECOND FORM. 'bulk': how many values and letters a reading holds, each counted each time it is reached (what is shared counts as often as it is met; a slice's spare places count too). A statement '..UptoSaid' is the law's where the arguments, and the package variables that the reading takes, are together of bulk at most 1048576: NARROWER than '..Said'. Prove '..Said' where nothing that the law and all that it calls make is longer than what came in: it says more and counts as full. Else prove '..UptoSaid'. A law counts once. -/
mutual
def uptoBulk {H : Type} : DataW H → Nat
  | .lit (.string bytes) => bytes.length + 1
  | .lit _ => 1
  | .nil => 1
  | .ptr d => uptoBulk d + 1
  | .slice elems spare => uptoBulkAll elems + uptoBulkAll spare + 1
  | .agg parts => uptoBulkAll parts + 1
  | .iface _ d => uptoBulk d + 1
  | .map entries => uptoBulkEntries entries + 1
  | .held _ => 1
def uptoBulkAll {H : Type} : List (DataW H) → Nat
  | [] => 0
  | d :: r => uptoBulk d + uptoBulkAll r
def uptoBulkEntries {H : Type} : List (Lit × DataW H) → Nat
  | [] => 0
  | x :: r => uptoBulkEntry x + uptoBulkEntries r
def uptoBulkEntry {H : Type} : Lit × DataW H → Nat
  | (.string bytes, d) => bytes.length + uptoBulk d + 1
  | (_, d) => uptoBulk d + 1
 end
def uptoSmall : (H : Type) → List (DataW H) → Bool := fun _ ds => decide (uptoBulkAll ds ≤ 1048576)
def OpenSpec.upto (s : _root_.Go.ChangeSpec) : _root_.Go.OpenSpec := { _root_.Go.OpenSpec.ofChange s with cond := some uptoSmall }

/-- 'cofferlaw19.MeterBounds', WHERE WHAT IT READS IS OF BULK AT MOST 1048576: true; the input reads as it did. -/
def meterBoundsUptoRow : OpenClaim := { program := "ytncmcgcilijfkaa", sum := "f0b7ec7c8c9b8136776d724795ee81e08f8c84d4546d09ad8c331eeebffdc504", func := "coffer/cofferlaw19.MeterBounds", spec := "meterBounds", plainKeys := false, apart := false, narrowed := true }
def MeterBoundsUptoSaid : Prop := meterBoundsUptoRow.holds Try.pinned (OpenSpec.upto meterBoundsSpec)

/-- 'cofferlaw19.MeterApart', WHERE WHAT IT READS IS OF BULK AT MOST 1048576: true; the input reads as it did. -/
def meterApartUptoRow : OpenClaim := { program := "ytncmcgcilijfkaa", sum := "f0b7ec7c8c9b8136776d724795ee81e08f8c84d4546d09ad8c331eeebffdc504", func := "coffer/cofferlaw19.MeterApart", spec := "meterApart", plainKeys := false, apart := false, narrowed := true }
def MeterApartUptoSaid : Prop := meterApartUptoRow.holds Try.pinned (OpenSpec.upto meterApartSpec)

/-- 'cofferlaw19.MeterAll', WHERE WHAT IT READS IS OF BULK AT MOST 1048576: true; the input reads as it did. -/
def meterAllUptoRow : OpenClaim := { program := "ytncmcgcilijfkaa", sum := "f0b7ec7c8c9b8136776d724795ee81e08f8c84d4546d09ad8c331eeebffdc504", func := "coffer/cofferlaw19.MeterAll", spec := "meterAll", recurses := true, plainKeys := false, apart := false, narrowed := true }
def MeterAllUptoSaid : Prop := meterAllUptoRow.holds Try.pinned (OpenSpec.upto meterAllSpec)

/-- 'cofferlaw19.MeterNone', WHERE WHAT IT READS IS OF BULK AT MOST 1048576: true; the input reads as it did. -/
def meterNoneUptoRow : OpenClaim := { program := "ytncmcgcilijfkaa", sum := "f0b7ec7c8c9b8136776d724795ee81e08f8c84d4546d09ad8c331eeebffdc504", func := "coffer/cofferlaw19.MeterNone", spec := "meterNone", recurses := true, plainKeys := false, apart := false, narrowed := true }
def MeterNoneUptoSaid : Prop := meterNoneUptoRow.holds Try.pinned (OpenSpec.upto meterNoneSpec)

/-- 'cofferlaw5.DiskSizes', WHERE WHAT IT READS IS OF BULK AT MOST 1048576: true; the input reads as it did. -/
def diskSizesUptoRow : OpenClaim := { program := "ytncmcgcilijfkaa", sum := "f0b7ec7c8c9b8136776d724795ee81e08f8c84d4546d09ad8c331eeebffdc504", func := "coffer/cofferlaw5.DiskSizes", spec := "diskSizes", unfollowed := true, recurses := true, plainKeys := false, apart := false, narrowed := true }
def DiskSizesUptoSaid : Prop := diskSizesUptoRow.holds Try.pinned (OpenSpec.upto diskSizesSpec)

/-- 'cofferlaw5.DiskLasts', WHERE WHAT IT READS IS OF BULK AT MOST 1048576: true; the input reads as it did. -/
def diskLastsUptoRow : OpenClaim := { program := "ytncmcgcilijfkaa", sum := "f0b7ec7c8c9b8136776d724795ee81e08f8c84d4546d09ad8c331eeebffdc504", func := "coffer/cofferlaw5.DiskLasts", spec := "diskLasts", unfollowed := true, recurses := true, plainKeys := false, apart := false, narrowed := true }
def DiskLastsUptoSaid : Prop := diskLastsUptoRow.holds Try.pinned (OpenSpec.upto diskLastsSpec)

/-- 'cofferlaw5.DiskAll', WHERE WHAT IT READS IS OF BULK AT MOST 1048576: true; the input reads as it did. -/
def diskAllUptoRow : OpenClaim := { program := "ytncmcgcilijfkaa", sum := "f0b7ec7c8c9b8136776d724795ee81e08f8c84d4546d09ad8c331eeebffdc504", func := "coffer/cofferlaw5.DiskAll", spec := "diskAll", unfollowed := true, recurses := true, plainKeys := false, apart := false, narrowed := true }
def DiskAllUptoSaid : Prop := diskAllUptoRow.holds Try.pinned (OpenSpec.upto diskAllSpec)

/-- 'cofferlaw5.DiskTorn', WHERE WHAT IT READS IS OF BULK AT MOST 1048576: true; the input reads as it did. -/
def diskTornUptoRow : OpenClaim := { program := "ytncmcgcilijfkaa", sum := "f0b7ec7c8c9b8136776d724795ee81e08f8c84d4546d09ad8c331eeebffdc504", func := "coffer/cofferlaw5.DiskTorn", spec := "diskTorn", unfollowed := true, recurses := true, plainKeys := false, apart := false, narrowed := true }
def DiskTornUptoSaid : Prop := diskTornUptoRow.holds Try.pinned (OpenSpec.upto diskTornSpec)

/-- 'cofferlaw5.DiskCopies', WHERE WHAT IT READS IS OF BULK AT MOST 1048576: true; the input reads as it did. -/
def diskCopiesUptoRow : OpenClaim := { program := "ytncmcgcilijfkaa", sum := "f0b7ec7c8c9b8136776d724795ee81e08f8c84d4546d09ad8c331eeebffdc504", func := "coffer/cofferlaw5.DiskCopies", spec := "diskCopies", inPlace := ["maps.clone"], unfollowed := true, recurses := true, plainKeys := false, apart := false, narrowed := true }
def DiskCopiesUptoSaid : Prop := diskCopiesUptoRow.holds Try.pinned (OpenSpec.upto diskCopiesSpec)

/-- 'cofferlaw5.DiskNone', WHERE WHAT IT READS IS OF BULK AT MOST 1048576: true; the input reads as it did. -/
def diskNoneUptoRow : OpenClaim := { program := "ytncmcgcilijfkaa", sum := "f0b7ec7c8c9b8136776d724795ee81e08f8c84d4546d09ad8c331eeebffdc504", func := "coffer/cofferlaw5.DiskNone", spec := "diskNone", inPlace := ["maps.clone"], unfollowed := true, recurses := true, plainKeys := false, apart := false, narrowed := true }
def DiskNoneUptoSaid : Prop := diskNoneUptoRow.holds Try.pinned (OpenSpec.upto diskNoneSpec)

end Rows
end Go.Proofs.Ytncmcgcilijfkaa
