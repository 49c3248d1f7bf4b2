/-
  No cell of these rows narrows 'for every input' (looked for: loops, veiled, ifaces, maps, wideKeys, modest, calm, conditions, laid).
  DERIVED. THE GIVEN ROWS OF THIS SEAT. 28 by the template 'for every input the law returns true; each argument reads behind the call as it read before'; 0 by the template 'total and deterministic' (their statements: YtjmbbhnpfmblpaaTotals.lean).
  GIVEN WITH THE SEED: the statements are not yours to turn. If you find one false, say at which input.
  Laid BY PROGRAM, IN A SANDBOX (cutbox-rows.mjs): the forced cells as the released guide's own fill.sh prints them over the translation d65083f4cde51153… (all of the seat's roots in one cut). By AI agents, Wed Nov 11 2026. No macro, syntax, notation, axiom, sorry.
-/
import Derived.Test.YtjmbbhnpfmblpaaChecked
import GoSem.Claim
import GoSem.ClaimJoined
import GoSem.ClaimMapViews
import Derived.JoinedTies
import Derived.KernelRfl
namespace Go.Proofs.Ytjmbbhnpfmblpaa
/- THE CELL 'sum', in the pinned program and in every row, IS THE sha256 OF THE DUMP (.gsa) THAT YtjmbbhnpfmblpaaProg.lean LOADS. Nothing in Lean hashes anything: it is a label: what it is worth is what the hold of that sum in a sandbox is worth. -/
noncomputable def Try.pinned : Pinned := { name := "ytjmbbhnpfmblpaa", sum := "d65083f4cde51153df0710d5735cbb34c9cc30f04cb400611ba10934affffa4c", checked := Try.checked }
namespace Rows
def none {H : Type} : Left H := { results := [], args := [] }

/-- 'cofferlaw2.ShaAll': WHATEVER THE INPUT: true; the input reads as it did. -/
def shaAllSpec : ChangeSpec := { name := "shaAll", fn := fun _ => fun
  | [d] => { results := [.lit (.bool true)], args := [d] }
  | _ => none }
def shaAllRow : OpenClaim := { program := "ytjmbbhnpfmblpaa", sum := "d65083f4cde51153df0710d5735cbb34c9cc30f04cb400611ba10934affffa4c", func := "coffer/cofferlaw2.ShaAll", spec := "shaAll", apart := false }
def ShaAllSaid : Prop := shaAllRow.holds Try.pinned (OpenSpec.ofChange shaAllSpec)

/-- ITS FALSE NEIGHBOUR: 'it returns false'. Refute it at one input. -/
def shaAllWrong : ChangeSpec := { name := "shaAll", fn := fun _ => fun
  | [d] => { results := [.lit (.bool false)], args := [d] }
  | _ => none }
def ShaAllWrongFalsely : Prop := shaAllRow.holds Try.pinned (OpenSpec.ofChange shaAllWrong)

/-- 'cofferlaw2.ShaCuts': WHATEVER THE INPUT: true; the input reads as it did. -/
def shaCutsSpec : ChangeSpec := { name := "shaCuts", fn := fun _ => fun
  | [d1, d2, d3] => { results := [.lit (.bool true)], args := [d1, d2, d3] }
  | _ => none }
def shaCutsRow : OpenClaim := { program := "ytjmbbhnpfmblpaa", sum := "d65083f4cde51153df0710d5735cbb34c9cc30f04cb400611ba10934affffa4c", func := "coffer/cofferlaw2.ShaCuts", spec := "shaCuts", apart := false }
def ShaCutsSaid : Prop := shaCutsRow.holds Try.pinned (OpenSpec.ofChange shaCutsSpec)

/-- ITS FALSE NEIGHBOUR: 'it returns false'. Refute it at one input. -/
def shaCutsWrong : ChangeSpec := { name := "shaCuts", fn := fun _ => fun
  | [d1, d2, d3] => { results := [.lit (.bool false)], args := [d1, d2, d3] }
  | _ => none }
def ShaCutsWrongFalsely : Prop := shaCutsRow.holds Try.pinned (OpenSpec.ofChange shaCutsWrong)

/-- 'cofferlaw2.ShaKept': WHATEVER THE INPUT: true; the input reads as it did. -/
def shaKeptSpec : ChangeSpec := { name := "shaKept", fn := fun _ => fun
  | [d1, d2] => { results := [.lit (.bool true)], args := [d1, d2] }
  | _ => none }
def shaKeptRow : OpenClaim := { program := "ytjmbbhnpfmblpaa", sum := "d65083f4cde51153df0710d5735cbb34c9cc30f04cb400611ba10934affffa4c", func := "coffer/cofferlaw2.ShaKept", spec := "shaKept", apart := false }
def ShaKeptSaid : Prop := shaKeptRow.holds Try.pinned (OpenSpec.ofChange shaKeptSpec)

/-- ITS FALSE NEIGHBOUR: 'it returns false'. Refute it at one input. -/
def shaKeptWrong : ChangeSpec := { name := "shaKept", fn := fun _ => fun
  | [d1, d2] => { results := [.lit (.bool false)], args := [d1, d2] }
  | _ => none }
def ShaKeptWrongFalsely : Prop := shaKeptRow.holds Try.pinned (OpenSpec.ofChange shaKeptWrong)

/-- 'cofferlaw2.ShaEnds': WHATEVER THE INPUT: true; the input reads as it did. -/
def shaEndsSpec : ChangeSpec := { name := "shaEnds", fn := fun _ => fun
  | [d1, d2] => { results := [.lit (.bool true)], args := [d1, d2] }
  | _ => none }
def shaEndsRow : OpenClaim := { program := "ytjmbbhnpfmblpaa", sum := "d65083f4cde51153df0710d5735cbb34c9cc30f04cb400611ba10934affffa4c", func := "coffer/cofferlaw2.ShaEnds", spec := "shaEnds", apart := false }
def ShaEndsSaid : Prop := shaEndsRow.holds Try.pinned (OpenSpec.ofChange shaEndsSpec)

/-- ITS FALSE NEIGHBOUR: 'it returns false'. Refute it at one input. -/
def shaEndsWrong : ChangeSpec := { name := "shaEnds", fn := fun _ => fun
  | [d1, d2] => { results := [.lit (.bool false)], args := [d1, d2] }
  | _ => none }
def ShaEndsWrongFalsely : Prop := shaEndsRow.holds Try.pinned (OpenSpec.ofChange shaEndsWrong)

/-- 'cofferlaw2.ShaCopies': WHATEVER THE INPUT: true; the input reads as it did. -/
def shaCopiesSpec : ChangeSpec := { name := "shaCopies", fn := fun _ => fun
  | [d1, d2, d3] => { results := [.lit (.bool true)], args := [d1, d2, d3] }
  | _ => none }
def shaCopiesRow : OpenClaim := { program := "ytjmbbhnpfmblpaa", sum := "d65083f4cde51153df0710d5735cbb34c9cc30f04cb400611ba10934affffa4c", func := "coffer/cofferlaw2.ShaCopies", spec := "shaCopies", apart := false }
def ShaCopiesSaid : Prop := shaCopiesRow.holds Try.pinned (OpenSpec.ofChange shaCopiesSpec)

/-- ITS FALSE NEIGHBOUR: 'it returns false'. Refute it at one input. -/
def shaCopiesWrong : ChangeSpec := { name := "shaCopies", fn := fun _ => fun
  | [d1, d2, d3] => { results := [.lit (.bool false)], args := [d1, d2, d3] }
  | _ => none }
def ShaCopiesWrongFalsely : Prop := shaCopiesRow.holds Try.pinned (OpenSpec.ofChange shaCopiesWrong)

/-- 'cofferlaw2.ShaNone': WHATEVER THE INPUT: true; the input reads as it did. -/
def shaNoneSpec : ChangeSpec := { name := "shaNone", fn := fun _ => fun
  | [] => { results := [.lit (.bool true)], args := [] }
  | _ => none }
def shaNoneRow : OpenClaim := { program := "ytjmbbhnpfmblpaa", sum := "d65083f4cde51153df0710d5735cbb34c9cc30f04cb400611ba10934affffa4c", func := "coffer/cofferlaw2.ShaNone", spec := "shaNone", apart := false }
def ShaNoneSaid : Prop := shaNoneRow.holds Try.pinned (OpenSpec.ofChange shaNoneSpec)

/-- ITS FALSE NEIGHBOUR: 'it returns false'. Refute it at one input. -/
def shaNoneWrong : ChangeSpec := { name := "shaNone", fn := fun _ => fun
  | [] => { results := [.lit (.bool false)], args := [] }
  | _ => none }
def ShaNoneWrongFalsely : Prop := shaNoneRow.holds Try.pinned (OpenSpec.ofChange shaNoneWrong)

/-- 'cofferlaw3.MacEqual': WHATEVER THE INPUT: true; the input reads as it did. -/
def macEqualSpec : ChangeSpec := { name := "macEqual", fn := fun _ => fun
  | [d1, d2, d3, d4] => { results := [.lit (.bool true)], args := [d1, d2, d3, d4] }
  | _ => none }
def macEqualRow : OpenClaim := { program := "ytjmbbhnpfmblpaa", sum := "d65083f4cde51153df0710d5735cbb34c9cc30f04cb400611ba10934affffa4c", func := "coffer/cofferlaw3.MacEqual", spec := "macEqual", apart := false }
def MacEqualSaid : Prop := macEqualRow.holds Try.pinned (OpenSpec.ofChange macEqualSpec)

/-- ITS FALSE NEIGHBOUR: 'it returns false'. Refute it at one input. -/
def macEqualWrong : ChangeSpec := { name := "macEqual", fn := fun _ => fun
  | [d1, d2, d3, d4] => { results := [.lit (.bool false)], args := [d1, d2, d3, d4] }
  | _ => none }
def MacEqualWrongFalsely : Prop := macEqualRow.holds Try.pinned (OpenSpec.ofChange macEqualWrong)

/-- 'cofferlaw3.MacKeys': WHATEVER THE INPUT: true; the input reads as it did. -/
def macKeysSpec : ChangeSpec := { name := "macKeys", fn := fun _ => fun
  | [d1, d2, d3] => { results := [.lit (.bool true)], args := [d1, d2, d3] }
  | _ => none }
def macKeysRow : OpenClaim := { program := "ytjmbbhnpfmblpaa", sum := "d65083f4cde51153df0710d5735cbb34c9cc30f04cb400611ba10934affffa4c", func := "coffer/cofferlaw3.MacKeys", spec := "macKeys", apart := false }
def MacKeysSaid : Prop := macKeysRow.holds Try.pinned (OpenSpec.ofChange macKeysSpec)

/-- ITS FALSE NEIGHBOUR: 'it returns false'. Refute it at one input. -/
def macKeysWrong : ChangeSpec := { name := "macKeys", fn := fun _ => fun
  | [d1, d2, d3] => { results := [.lit (.bool false)], args := [d1, d2, d3] }
  | _ => none }
def MacKeysWrongFalsely : Prop := macKeysRow.holds Try.pinned (OpenSpec.ofChange macKeysWrong)

/-- 'cofferlaw3.MacAll': WHATEVER THE INPUT: true; the input reads as it did. -/
def macAllSpec : ChangeSpec := { name := "macAll", fn := fun _ => fun
  | [d1, d2] => { results := [.lit (.bool true)], args := [d1, d2] }
  | _ => none }
def macAllRow : OpenClaim := { program := "ytjmbbhnpfmblpaa", sum := "d65083f4cde51153df0710d5735cbb34c9cc30f04cb400611ba10934affffa4c", func := "coffer/cofferlaw3.MacAll", spec := "macAll", apart := false }
def MacAllSaid : Prop := macAllRow.holds Try.pinned (OpenSpec.ofChange macAllSpec)

/-- ITS FALSE NEIGHBOUR: 'it returns false'. Refute it at one input. -/
def macAllWrong : ChangeSpec := { name := "macAll", fn := fun _ => fun
  | [d1, d2] => { results := [.lit (.bool false)], args := [d1, d2] }
  | _ => none }
def MacAllWrongFalsely : Prop := macAllRow.holds Try.pinned (OpenSpec.ofChange macAllWrong)

/-- 'cofferlaw3.MacText': WHATEVER THE INPUT: true; the input reads as it did. -/
def macTextSpec : ChangeSpec := { name := "macText", fn := fun _ => fun
  | [d1, d2] => { results := [.lit (.bool true)], args := [d1, d2] }
  | _ => none }
def macTextRow : OpenClaim := { program := "ytjmbbhnpfmblpaa", sum := "d65083f4cde51153df0710d5735cbb34c9cc30f04cb400611ba10934affffa4c", func := "coffer/cofferlaw3.MacText", spec := "macText", apart := false }
def MacTextSaid : Prop := macTextRow.holds Try.pinned (OpenSpec.ofChange macTextSpec)

/-- ITS FALSE NEIGHBOUR: 'it returns false'. Refute it at one input. -/
def macTextWrong : ChangeSpec := { name := "macText", fn := fun _ => fun
  | [d1, d2] => { results := [.lit (.bool false)], args := [d1, d2] }
  | _ => none }
def MacTextWrongFalsely : Prop := macTextRow.holds Try.pinned (OpenSpec.ofChange macTextWrong)

/-- 'cofferlaw3.MacDerives': WHATEVER THE INPUT: true; the input reads as it did. -/
def macDerivesSpec : ChangeSpec := { name := "macDerives", fn := fun _ => fun
  | [d1, d2, d3] => { results := [.lit (.bool true)], args := [d1, d2, d3] }
  | _ => none }
def macDerivesRow : OpenClaim := { program := "ytjmbbhnpfmblpaa", sum := "d65083f4cde51153df0710d5735cbb34c9cc30f04cb400611ba10934affffa4c", func := "coffer/cofferlaw3.MacDerives", spec := "macDerives", apart := false }
def MacDerivesSaid : Prop := macDerivesRow.holds Try.pinned (OpenSpec.ofChange macDerivesSpec)

/-- ITS FALSE NEIGHBOUR: 'it returns false'. Refute it at one input. -/
def macDerivesWrong : ChangeSpec := { name := "macDerives", fn := fun _ => fun
  | [d1, d2, d3] => { results := [.lit (.bool false)], args := [d1, d2, d3] }
  | _ => none }
def MacDerivesWrongFalsely : Prop := macDerivesRow.holds Try.pinned (OpenSpec.ofChange macDerivesWrong)

/-- 'cofferlaw10.FrameWrites': WHATEVER THE INPUT: true; the input reads as it did. -/
def frameWritesSpec : ChangeSpec := { name := "frameWrites", fn := fun _ => fun
  | [d1, d2, d3] => { results := [.lit (.bool true)], args := [d1, d2, d3] }
  | _ => none }
def frameWritesRow : OpenClaim := { program := "ytjmbbhnpfmblpaa", sum := "d65083f4cde51153df0710d5735cbb34c9cc30f04cb400611ba10934affffa4c", func := "coffer/cofferlaw10.FrameWrites", spec := "frameWrites", apart := false }
def FrameWritesSaid : Prop := frameWritesRow.holds Try.pinned (OpenSpec.ofChange frameWritesSpec)

/-- ITS FALSE NEIGHBOUR: 'it returns false'. Refute it at one input. -/
def frameWritesWrong : ChangeSpec := { name := "frameWrites", fn := fun _ => fun
  | [d1, d2, d3] => { results := [.lit (.bool false)], args := [d1, d2, d3] }
  | _ => none }
def FrameWritesWrongFalsely : Prop := frameWritesRow.holds Try.pinned (OpenSpec.ofChange frameWritesWrong)

/-- 'cofferlaw10.FrameReads': WHATEVER THE INPUT: true; the input reads as it did. -/
def frameReadsSpec : ChangeSpec := { name := "frameReads", fn := fun _ => fun
  | [d] => { results := [.lit (.bool true)], args := [d] }
  | _ => none }
def frameReadsRow : OpenClaim := { program := "ytjmbbhnpfmblpaa", sum := "d65083f4cde51153df0710d5735cbb34c9cc30f04cb400611ba10934affffa4c", func := "coffer/cofferlaw10.FrameReads", spec := "frameReads", apart := false }
def FrameReadsSaid : Prop := frameReadsRow.holds Try.pinned (OpenSpec.ofChange frameReadsSpec)

/-- ITS FALSE NEIGHBOUR: 'it returns false'. Refute it at one input. -/
def frameReadsWrong : ChangeSpec := { name := "frameReads", fn := fun _ => fun
  | [d] => { results := [.lit (.bool false)], args := [d] }
  | _ => none }
def FrameReadsWrongFalsely : Prop := frameReadsRow.holds Try.pinned (OpenSpec.ofChange frameReadsWrong)

/-- 'cofferlaw10.FrameBack': WHATEVER THE INPUT: true; the input reads as it did. -/
def frameBackSpec : ChangeSpec := { name := "frameBack", fn := fun _ => fun
  | [d1, d2, d3, d4] => { results := [.lit (.bool true)], args := [d1, d2, d3, d4] }
  | _ => none }
def frameBackRow : OpenClaim := { program := "ytjmbbhnpfmblpaa", sum := "d65083f4cde51153df0710d5735cbb34c9cc30f04cb400611ba10934affffa4c", func := "coffer/cofferlaw10.FrameBack", spec := "frameBack", apart := false }
def FrameBackSaid : Prop := frameBackRow.holds Try.pinned (OpenSpec.ofChange frameBackSpec)

/-- ITS FALSE NEIGHBOUR: 'it returns false'. Refute it at one input. -/
def frameBackWrong : ChangeSpec := { name := "frameBack", fn := fun _ => fun
  | [d1, d2, d3, d4] => { results := [.lit (.bool false)], args := [d1, d2, d3, d4] }
  | _ => none }
def FrameBackWrongFalsely : Prop := frameBackRow.holds Try.pinned (OpenSpec.ofChange frameBackWrong)

/-- 'cofferlaw10.FrameTurned': WHATEVER THE INPUT: true; the input reads as it did. -/
def frameTurnedSpec : ChangeSpec := { name := "frameTurned", fn := fun _ => fun
  | [d1, d2, d3, d4] => { results := [.lit (.bool true)], args := [d1, d2, d3, d4] }
  | _ => none }
def frameTurnedRow : OpenClaim := { program := "ytjmbbhnpfmblpaa", sum := "d65083f4cde51153df0710d5735cbb34c9cc30f04cb400611ba10934affffa4c", func := "coffer/cofferlaw10.FrameTurned", spec := "frameTurned", apart := false }
def FrameTurnedSaid : Prop := frameTurnedRow.holds Try.pinned (OpenSpec.ofChange frameTurnedSpec)

/-- ITS FALSE NEIGHBOUR: 'it returns false'. Refute it at one input. -/
def frameTurnedWrong : ChangeSpec := { name := "frameTurned", fn := fun _ => fun
  | [d1, d2, d3, d4] => { results := [.lit (.bool false)], args := [d1, d2, d3, d4] }
  | _ => none }
def FrameTurnedWrongFalsely : Prop := frameTurnedRow.holds Try.pinned (OpenSpec.ofChange frameTurnedWrong)

/-- 'cofferlaw14.CapAll': WHATEVER THE INPUT: true; the input reads as it did. -/
def capAllSpec : ChangeSpec := { name := "capAll", fn := fun _ => fun
  | [d1, d2, d3, d4] => { results := [.lit (.bool true)], args := [d1, d2, d3, d4] }
  | _ => none }
def capAllRow : OpenClaim := { program := "ytjmbbhnpfmblpaa", sum := "d65083f4cde51153df0710d5735cbb34c9cc30f04cb400611ba10934affffa4c", func := "coffer/cofferlaw14.CapAll", spec := "capAll", apart := false }
def CapAllSaid : Prop := capAllRow.holds Try.pinned (OpenSpec.ofChange capAllSpec)

/-- ITS FALSE NEIGHBOUR: 'it returns false'. Refute it at one input. -/
def capAllWrong : ChangeSpec := { name := "capAll", fn := fun _ => fun
  | [d1, d2, d3, d4] => { results := [.lit (.bool false)], args := [d1, d2, d3, d4] }
  | _ => none }
def CapAllWrongFalsely : Prop := capAllRow.holds Try.pinned (OpenSpec.ofChange capAllWrong)

/-- 'cofferlaw14.CapTimes': WHATEVER THE INPUT: true; the input reads as it did. -/
def capTimesSpec : ChangeSpec := { name := "capTimes", fn := fun _ => fun
  | [d1, d2, d3, d4] => { results := [.lit (.bool true)], args := [d1, d2, d3, d4] }
  | _ => none }
def capTimesRow : OpenClaim := { program := "ytjmbbhnpfmblpaa", sum := "d65083f4cde51153df0710d5735cbb34c9cc30f04cb400611ba10934affffa4c", func := "coffer/cofferlaw14.CapTimes", spec := "capTimes", apart := false }
def CapTimesSaid : Prop := capTimesRow.holds Try.pinned (OpenSpec.ofChange capTimesSpec)

/-- ITS FALSE NEIGHBOUR: 'it returns false'. Refute it at one input. -/
def capTimesWrong : ChangeSpec := { name := "capTimes", fn := fun _ => fun
  | [d1, d2, d3, d4] => { results := [.lit (.bool false)], args := [d1, d2, d3, d4] }
  | _ => none }
def CapTimesWrongFalsely : Prop := capTimesRow.holds Try.pinned (OpenSpec.ofChange capTimesWrong)

/-- 'cofferlaw14.CapLess': WHATEVER THE INPUT: true; the input reads as it did. -/
def capLessSpec : ChangeSpec := { name := "capLess", fn := fun _ => fun
  | [d1, d2, d3, d4] => { results := [.lit (.bool true)], args := [d1, d2, d3, d4] }
  | _ => none }
def capLessRow : OpenClaim := { program := "ytjmbbhnpfmblpaa", sum := "d65083f4cde51153df0710d5735cbb34c9cc30f04cb400611ba10934affffa4c", func := "coffer/cofferlaw14.CapLess", spec := "capLess", apart := false }
def CapLessSaid : Prop := capLessRow.holds Try.pinned (OpenSpec.ofChange capLessSpec)

/-- ITS FALSE NEIGHBOUR: 'it returns false'. Refute it at one input. -/
def capLessWrong : ChangeSpec := { name := "capLess", fn := fun _ => fun
  | [d1, d2, d3, d4] => { results := [.lit (.bool false)], args := [d1, d2, d3, d4] }
  | _ => none }
def CapLessWrongFalsely : Prop := capLessRow.holds Try.pinned (OpenSpec.ofChange capLessWrong)

/-- 'cofferlaw14.CapBytes': WHATEVER THE INPUT: true; the input reads as it did. -/
def capBytesSpec : ChangeSpec := { name := "capBytes", fn := fun _ => fun
  | [d] => { results := [.lit (.bool true)], args := [d] }
  | _ => none }
def capBytesRow : OpenClaim := { program := "ytjmbbhnpfmblpaa", sum := "d65083f4cde51153df0710d5735cbb34c9cc30f04cb400611ba10934affffa4c", func := "coffer/cofferlaw14.CapBytes", spec := "capBytes", apart := false }
def CapBytesSaid : Prop := capBytesRow.holds Try.pinned (OpenSpec.ofChange capBytesSpec)

/-- ITS FALSE NEIGHBOUR: 'it returns false'. Refute it at one input. -/
def capBytesWrong : ChangeSpec := { name := "capBytes", fn := fun _ => fun
  | [d] => { results := [.lit (.bool false)], args := [d] }
  | _ => none }
def CapBytesWrongFalsely : Prop := capBytesRow.holds Try.pinned (OpenSpec.ofChange capBytesWrong)

/-- 'cofferlaw20.AuditEntries': WHATEVER THE INPUT: true; the input reads as it did. -/
def auditEntriesSpec : ChangeSpec := { name := "auditEntries", fn := fun _ => fun
  | [d1, d2] => { results := [.lit (.bool true)], args := [d1, d2] }
  | _ => none }
def auditEntriesRow : OpenClaim := { program := "ytjmbbhnpfmblpaa", sum := "d65083f4cde51153df0710d5735cbb34c9cc30f04cb400611ba10934affffa4c", func := "coffer/cofferlaw20.AuditEntries", spec := "auditEntries", apart := false }
def AuditEntriesSaid : Prop := auditEntriesRow.holds Try.pinned (OpenSpec.ofChange auditEntriesSpec)

/-- ITS FALSE NEIGHBOUR: 'it returns false'. Refute it at one input. -/
def auditEntriesWrong : ChangeSpec := { name := "auditEntries", fn := fun _ => fun
  | [d1, d2] => { results := [.lit (.bool false)], args := [d1, d2] }
  | _ => none }
def AuditEntriesWrongFalsely : Prop := auditEntriesRow.holds Try.pinned (OpenSpec.ofChange auditEntriesWrong)

/-- 'cofferlaw20.AuditReads': WHATEVER THE INPUT: true; the input reads as it did. -/
def auditReadsSpec : ChangeSpec := { name := "auditReads", fn := fun _ => fun
  | [d] => { results := [.lit (.bool true)], args := [d] }
  | _ => none }
def auditReadsRow : OpenClaim := { program := "ytjmbbhnpfmblpaa", sum := "d65083f4cde51153df0710d5735cbb34c9cc30f04cb400611ba10934affffa4c", func := "coffer/cofferlaw20.AuditReads", spec := "auditReads", apart := false }
def AuditReadsSaid : Prop := auditReadsRow.holds Try.pinned (OpenSpec.ofChange auditReadsSpec)

/-- ITS FALSE NEIGHBOUR: 'it returns false'. Refute it at one input. -/
def auditReadsWrong : ChangeSpec := { name := "auditReads", fn := fun _ => fun
  | [d] => { results := [.lit (.bool false)], args := [d] }
  | _ => none }
def AuditReadsWrongFalsely : Prop := auditReadsRow.holds Try.pinned (OpenSpec.ofChange auditReadsWrong)

/-- 'cofferlaw20.AuditBack': WHATEVER THE INPUT: true; the input reads as it did. -/
def auditBackSpec : ChangeSpec := { name := "auditBack", fn := fun _ => fun
  | [d1, d2, d3] => { results := [.lit (.bool true)], args := [d1, d2, d3] }
  | _ => none }
def auditBackRow : OpenClaim := { program := "ytjmbbhnpfmblpaa", sum := "d65083f4cde51153df0710d5735cbb34c9cc30f04cb400611ba10934affffa4c", func := "coffer/cofferlaw20.AuditBack", spec := "auditBack", apart := false }
def AuditBackSaid : Prop := auditBackRow.holds Try.pinned (OpenSpec.ofChange auditBackSpec)

/-- ITS FALSE NEIGHBOUR: 'it returns false'. Refute it at one input. -/
def auditBackWrong : ChangeSpec := { name := "auditBack", fn := fun _ => fun
  | [d1, d2, d3] => { results := [.lit (.bool false)], args := [d1, d2, d3] }
  | _ => none }
def AuditBackWrongFalsely : Prop := auditBackRow.holds Try.pinned (OpenSpec.ofChange auditBackWrong)

/-- 'cofferlaw20.AuditChains': WHATEVER THE INPUT: true; the input reads as it did. -/
def auditChainsSpec : ChangeSpec := { name := "auditChains", fn := fun _ => fun
  | [d1, d2, d3] => { results := [.lit (.bool true)], args := [d1, d2, d3] }
  | _ => none }
def auditChainsRow : OpenClaim := { program := "ytjmbbhnpfmblpaa", sum := "d65083f4cde51153df0710d5735cbb34c9cc30f04cb400611ba10934affffa4c", func := "coffer/cofferlaw20.AuditChains", spec := "auditChains", apart := false }
def AuditChainsSaid : Prop := auditChainsRow.holds Try.pinned (OpenSpec.ofChange auditChainsSpec)

/-- ITS FALSE NEIGHBOUR: 'it returns false'. Refute it at one input. -/
def auditChainsWrong : ChangeSpec := { name := "auditChains", fn := fun _ => fun
  | [d1, d2, d3] => { results := [.lit (.bool false)], args := [d1, d2, d3] }
  | _ => none }
def AuditChainsWrongFalsely : Prop := auditChainsRow.holds Try.pinned (OpenSpec.ofChange auditChainsWrong)

/-- 'cofferlaw20.AuditVerifies': WHATEVER THE INPUT: true; the input reads as it did. -/
def auditVerifiesSpec : ChangeSpec := { name := "auditVerifies", fn := fun _ => fun
  | [d1, d2] => { results := [.lit (.bool true)], args := [d1, d2] }
  | _ => none }
def auditVerifiesRow : OpenClaim := { program := "ytjmbbhnpfmblpaa", sum := "d65083f4cde51153df0710d5735cbb34c9cc30f04cb400611ba10934affffa4c", func := "coffer/cofferlaw20.AuditVerifies", spec := "auditVerifies", apart := false }
def AuditVerifiesSaid : Prop := auditVerifiesRow.holds Try.pinned (OpenSpec.ofChange auditVerifiesSpec)

/-- ITS FALSE NEIGHBOUR: 'it returns false'. Refute it at one input. -/
def auditVerifiesWrong : ChangeSpec := { name := "auditVerifies", fn := fun _ => fun
  | [d1, d2] => { results := [.lit (.bool false)], args := [d1, d2] }
  | _ => none }
def AuditVerifiesWrongFalsely : Prop := auditVerifiesRow.holds Try.pinned (OpenSpec.ofChange auditVerifiesWrong)

/-- 'cofferlaw20.AuditTampered': WHATEVER THE INPUT: true; the input reads as it did. -/
def auditTamperedSpec : ChangeSpec := { name := "auditTampered", fn := fun _ => fun
  | [d1, d2, d3, d4, d5] => { results := [.lit (.bool true)], args := [d1, d2, d3, d4, d5] }
  | _ => none }
def auditTamperedRow : OpenClaim := { program := "ytjmbbhnpfmblpaa", sum := "d65083f4cde51153df0710d5735cbb34c9cc30f04cb400611ba10934affffa4c", func := "coffer/cofferlaw20.AuditTampered", spec := "auditTampered", apart := false }
def AuditTamperedSaid : Prop := auditTamperedRow.holds Try.pinned (OpenSpec.ofChange auditTamperedSpec)

/-- ITS FALSE NEIGHBOUR: 'it returns false'. Refute it at one input. -/
def auditTamperedWrong : ChangeSpec := { name := "auditTampered", fn := fun _ => fun
  | [d1, d2, d3, d4, d5] => { results := [.lit (.bool false)], args := [d1, d2, d3, d4, d5] }
  | _ => none }
def AuditTamperedWrongFalsely : Prop := auditTamperedRow.holds Try.pinned (OpenSpec.ofChange auditTamperedWrong)

/-- 'cofferlaw14.CapReads': WHATEVER THE INPUT: true; the input reads as it did. -/
def capReadsSpec : ChangeSpec := { name := "capReads", fn := fun _ => fun
  | [d] => { results := [.lit (.bool true)], args := [d] }
  | _ => none }
def capReadsRow : OpenClaim := { program := "ytjmbbhnpfmblpaa", sum := "d65083f4cde51153df0710d5735cbb34c9cc30f04cb400611ba10934affffa4c", func := "coffer/cofferlaw14.CapReads", spec := "capReads", apart := false }
def CapReadsSaid : Prop := capReadsRow.holds Try.pinned (OpenSpec.ofChange capReadsSpec)

/-- ITS FALSE NEIGHBOUR: 'it returns false'. Refute it at one input. -/
def capReadsWrong : ChangeSpec := { name := "capReads", fn := fun _ => fun
  | [d] => { results := [.lit (.bool false)], args := [d] }
  | _ => none }
def CapReadsWrongFalsely : Prop := capReadsRow.holds Try.pinned (OpenSpec.ofChange capReadsWrong)

/-- 'cofferlaw14.CapBack': WHATEVER THE INPUT: true; the input reads as it did. -/
def capBackSpec : ChangeSpec := { name := "capBack", fn := fun _ => fun
  | [d1, d2, d3] => { results := [.lit (.bool true)], args := [d1, d2, d3] }
  | _ => none }
def capBackRow : OpenClaim := { program := "ytjmbbhnpfmblpaa", sum := "d65083f4cde51153df0710d5735cbb34c9cc30f04cb400611ba10934affffa4c", func := "coffer/cofferlaw14.CapBack", spec := "capBack", apart := false }
def CapBackSaid : Prop := capBackRow.holds Try.pinned (OpenSpec.ofChange capBackSpec)

/-- ITS FALSE NEIGHBOUR: 'it returns false'. Refute it at one input. -/
def capBackWrong : ChangeSpec := { name := "capBack", fn := fun _ => fun
  | [d1, d2, d3] => { results := [.lit (.bool false)], args := [d1, d2, d3] }
  | _ => none }
def CapBackWrongFalsely : Prop := capBackRow.holds Try.pinned (OpenSpec.ofChange capBackWrong)

/-- 'cofferlaw14.CapForged': WHATEVER THE INPUT: true; the input reads as it did. -/
def capForgedSpec : ChangeSpec := { name := "capForged", fn := fun _ => fun
  | [d1, d2, d3, d4, d5] => { results := [.lit (.bool true)], args := [d1, d2, d3, d4, d5] }
  | _ => none }
def capForgedRow : OpenClaim := { program := "ytjmbbhnpfmblpaa", sum := "d65083f4cde51153df0710d5735cbb34c9cc30f04cb400611ba10934affffa4c", func := "coffer/cofferlaw14.CapForged", spec := "capForged", apart := false }
def CapForgedSaid : Prop := capForgedRow.holds Try.pinned (OpenSpec.ofChange capForgedSpec)

/-- ITS FALSE NEIGHBOUR: 'it returns false'. Refute it at one input. -/
def capForgedWrong : ChangeSpec := { name := "capForged", fn := fun _ => fun
  | [d1, d2, d3, d4, d5] => { results := [.lit (.bool false)], args := [d1, d2, d3, d4, d5] }
  | _ => none }
def CapForgedWrongFalsely : Prop := capForgedRow.holds Try.pinned (OpenSpec.ofChange capForgedWrong)

/- THE SECOND FORM. 'bulk': how many values and letters a reading holds, each counted each time it is reached (what is shared counts as often as it is met; a slice's spare places count too). A statement '..UptoSaid' is the law's where the arguments, and the package variables that the reading takes, are together of bulk at most 1048576: NARROWER than '..Said'. Prove '..Said' where nothing that the law and all that it calls make is longer than what came in: it says more and counts as full. Else prove '..UptoSaid'. A law counts once. -/
mutual
def uptoBulk {H : Type} : DataW H → Nat
  | .lit (.string bytes) => bytes.length + 1
  | .lit _ => 1
  | .nil => 1
  | .ptr d => uptoBulk d + 1
  | .slice elems spare => uptoBulkAll elems + uptoBulkAll spare + 1
  | .agg parts => uptoBulkAll parts + 1
  | .iface _ d => uptoBulk d + 1
  | .map entries => uptoBulkEntries entries + 1
  | .held _ => 1
def uptoBulkAll {H : Type} : List (DataW H) → Nat
  | [] => 0
  | d :: r => uptoBulk d + uptoBulkAll r
def uptoBulkEntries {H : Type} : List (Lit × DataW H) → Nat
  | [] => 0
  | x :: r => uptoBulkEntry x + uptoBulkEntries r
def uptoBulkEntry {H : Type} : Lit × DataW H → Nat
  | (.string bytes, d) => bytes.length + uptoBulk d + 1
  | (_, d) => uptoBulk d + 1
 end
def uptoSmall : (H : Type) → List (DataW H) → Bool := fun _ ds => decide (uptoBulkAll ds ≤ 1048576)
def OpenSpec.upto (s : _root_.Go.ChangeSpec) : _root_.Go.OpenSpec := { _root_.Go.OpenSpec.ofChange s with cond := some uptoSmall }

/-- 'cofferlaw2.ShaAll', WHERE WHAT IT READS IS OF BULK AT MOST 1048576: true; the input reads as it did. -/
def shaAllUptoRow : OpenClaim := { program := "ytjmbbhnpfmblpaa", sum := "d65083f4cde51153df0710d5735cbb34c9cc30f04cb400611ba10934affffa4c", func := "coffer/cofferlaw2.ShaAll", spec := "shaAll", apart := false, narrowed := true }
def ShaAllUptoSaid : Prop := shaAllUptoRow.holds Try.pinned (OpenSpec.upto shaAllSpec)

/-- 'cofferlaw2.ShaCuts', WHERE WHAT IT READS IS OF BULK AT MOST 1048576: true; the input reads as it did. -/
def shaCutsUptoRow : OpenClaim := { program := "ytjmbbhnpfmblpaa", sum := "d65083f4cde51153df0710d5735cbb34c9cc30f04cb400611ba10934affffa4c", func := "coffer/cofferlaw2.ShaCuts", spec := "shaCuts", apart := false, narrowed := true }
def ShaCutsUptoSaid : Prop := shaCutsUptoRow.holds Try.pinned (OpenSpec.upto shaCutsSpec)

/-- 'cofferlaw2.ShaKept', WHERE WHAT IT READS IS OF BULK AT MOST 1048576: true; the input reads as it did. -/
def shaKeptUptoRow : OpenClaim := { program := "ytjmbbhnpfmblpaa", sum := "d65083f4cde51153df0710d5735cbb34c9cc30f04cb400611ba10934affffa4c", func := "coffer/cofferlaw2.ShaKept", spec := "shaKept", apart := false, narrowed := true }
def ShaKeptUptoSaid : Prop := shaKeptUptoRow.holds Try.pinned (OpenSpec.upto shaKeptSpec)

/-- 'cofferlaw2.ShaEnds', WHERE WHAT IT READS IS OF BULK AT MOST 1048576: true; the input reads as it did. -/
def shaEndsUptoRow : OpenClaim := { program := "ytjmbbhnpfmblpaa", sum := "d65083f4cde51153df0710d5735cbb34c9cc30f04cb400611ba10934affffa4c", func := "coffer/cofferlaw2.ShaEnds", spec := "shaEnds", apart := false, narrowed := true }
def ShaEndsUptoSaid : Prop := shaEndsUptoRow.holds Try.pinned (OpenSpec.upto shaEndsSpec)

/-- 'cofferlaw2.ShaCopies', WHERE WHAT IT READS IS OF BULK AT MOST 1048576: true; the input reads as it did. -/
def shaCopiesUptoRow : OpenClaim := { program := "ytjmbbhnpfmblpaa", sum := "d65083f4cde51153df0710d5735cbb34c9cc30f04cb400611ba10934affffa4c", func := "coffer/cofferlaw2.ShaCopies", spec := "shaCopies", apart := false, narrowed := true }
def ShaCopiesUptoSaid : Prop := shaCopiesUptoRow.holds Try.pinned (OpenSpec.upto shaCopiesSpec)

/-- 'cofferlaw2.ShaNone', WHERE WHAT IT READS IS OF BULK AT MOST 1048576: true; the input reads as it did. -/
def shaNoneUptoRow : OpenClaim := { program := "ytjmbbhnpfmblpaa", sum := "d65083f4cde51153df0710d5735cbb34c9cc30f04cb400611ba10934affffa4c", func := "coffer/cofferlaw2.ShaNone", spec := "shaNone", apart := false, narrowed := true }
def ShaNoneUptoSaid : Prop := shaNoneUptoRow.holds Try.pinned (OpenSpec.upto shaNoneSpec)

/-- 'cofferlaw3.MacEqual', WHERE WHAT IT READS IS OF BULK AT MOST 1048576: true; the input reads as it did. -/
def macEqualUptoRow : OpenClaim := { program := "ytjmbbhnpfmblpaa", sum := "d65083f4cde51153df0710d5735cbb34c9cc30f04cb400611ba10934affffa4c", func := "coffer/cofferlaw3.MacEqual", spec := "macEqual", apart := false, narrowed := true }
def MacEqualUptoSaid : Prop := macEqualUptoRow.holds Try.pinned (OpenSpec.upto macEqualSpec)

/-- 'cofferlaw3.MacKeys', WHERE WHAT IT READS IS OF BULK AT MOST 1048576: true; the input reads as it did. -/
def macKeysUptoRow : OpenClaim := { program := "ytjmbbhnpfmblpaa", sum := "d65083f4cde51153df0710d5735cbb34c9cc30f04cb400611ba10934affffa4c", func := "coffer/cofferlaw3.MacKeys", spec := "macKeys", apart := false, narrowed := true }
def MacKeysUptoSaid : Prop := macKeysUptoRow.holds Try.pinned (OpenSpec.upto macKeysSpec)

/-- 'cofferlaw3.MacAll', WHERE WHAT IT READS IS OF BULK AT MOST 1048576: true; the input reads as it did. -/
def macAllUptoRow : OpenClaim := { program := "ytjmbbhnpfmblpaa", sum := "d65083f4cde51153df0710d5735cbb34c9cc30f04cb400611ba10934affffa4c", func := "coffer/cofferlaw3.MacAll", spec := "macAll", apart := false, narrowed := true }
def MacAllUptoSaid : Prop := macAllUptoRow.holds Try.pinned (OpenSpec.upto macAllSpec)

/-- 'cofferlaw3.MacText', WHERE WHAT IT READS IS OF BULK AT MOST 1048576: true; the input reads as it did. -/
def macTextUptoRow : OpenClaim := { program := "ytjmbbhnpfmblpaa", sum := "d65083f4cde51153df0710d5735cbb34c9cc30f04cb400611ba10934affffa4c", func := "coffer/cofferlaw3.MacText", spec := "macText", apart := false, narrowed := true }
def MacTextUptoSaid : Prop := macTextUptoRow.holds Try.pinned (OpenSpec.upto macTextSpec)

/-- 'cofferlaw3.MacDerives', WHERE WHAT IT READS IS OF BULK AT MOST 1048576: true; the input reads as it did. -/
def macDerivesUptoRow : OpenClaim := { program := "ytjmbbhnpfmblpaa", sum := "d65083f4cde51153df0710d5735cbb34c9cc30f04cb400611ba10934affffa4c", func := "coffer/cofferlaw3.MacDerives", spec := "macDerives", apart := false, narrowed := true }
def MacDerivesUptoSaid : Prop := macDerivesUptoRow.holds Try.pinned (OpenSpec.upto macDerivesSpec)

/-- 'cofferlaw10.FrameWrites', WHERE WHAT IT READS IS OF BULK AT MOST 1048576: true; the input reads as it did. -/
def frameWritesUptoRow : OpenClaim := { program := "ytjmbbhnpfmblpaa", sum := "d65083f4cde51153df0710d5735cbb34c9cc30f04cb400611ba10934affffa4c", func := "coffer/cofferlaw10.FrameWrites", spec := "frameWrites", apart := false, narrowed := true }
def FrameWritesUptoSaid : Prop := frameWritesUptoRow.holds Try.pinned (OpenSpec.upto frameWritesSpec)

/-- 'cofferlaw10.FrameReads', WHERE WHAT IT READS IS OF BULK AT MOST 1048576: true; the input reads as it did. -/
def frameReadsUptoRow : OpenClaim := { program := "ytjmbbhnpfmblpaa", sum := "d65083f4cde51153df0710d5735cbb34c9cc30f04cb400611ba10934affffa4c", func := "coffer/cofferlaw10.FrameReads", spec := "frameReads", apart := false, narrowed := true }
def FrameReadsUptoSaid : Prop := frameReadsUptoRow.holds Try.pinned (OpenSpec.upto frameReadsSpec)

/-- 'cofferlaw10.FrameBack', WHERE WHAT IT READS IS OF BULK AT MOST 1048576: true; the input reads as it did. -/
def frameBackUptoRow : OpenClaim := { program := "ytjmbbhnpfmblpaa", sum := "d65083f4cde51153df0710d5735cbb34c9cc30f04cb400611ba10934affffa4c", func := "coffer/cofferlaw10.FrameBack", spec := "frameBack", apart := false, narrowed := true }
def FrameBackUptoSaid : Prop := frameBackUptoRow.holds Try.pinned (OpenSpec.upto frameBackSpec)

/-- 'cofferlaw10.FrameTurned', WHERE WHAT IT READS IS OF BULK AT MOST 1048576: true; the input reads as it did. -/
def frameTurnedUptoRow : OpenClaim := { program := "ytjmbbhnpfmblpaa", sum := "d65083f4cde51153df0710d5735cbb34c9cc30f04cb400611ba10934affffa4c", func := "coffer/cofferlaw10.FrameTurned", spec := "frameTurned", apart := false, narrowed := true }
def FrameTurnedUptoSaid : Prop := frameTurnedUptoRow.holds Try.pinned (OpenSpec.upto frameTurnedSpec)

/-- 'cofferlaw14.CapAll', WHERE WHAT IT READS IS OF BULK AT MOST 1048576: true; the input reads as it did. -/
def capAllUptoRow : OpenClaim := { program := "ytjmbbhnpfmblpaa", sum := "d65083f4cde51153df0710d5735cbb34c9cc30f04cb400611ba10934affffa4c", func := "coffer/cofferlaw14.CapAll", spec := "capAll", apart := false, narrowed := true }
def CapAllUptoSaid : Prop := capAllUptoRow.holds Try.pinned (OpenSpec.upto capAllSpec)

/-- 'cofferlaw14.CapTimes', WHERE WHAT IT READS IS OF BULK AT MOST 1048576: true; the input reads as it did. -/
def capTimesUptoRow : OpenClaim := { program := "ytjmbbhnpfmblpaa", sum := "d65083f4cde51153df0710d5735cbb34c9cc30f04cb400611ba10934affffa4c", func := "coffer/cofferlaw14.CapTimes", spec := "capTimes", apart := false, narrowed := true }
def CapTimesUptoSaid : Prop := capTimesUptoRow.holds Try.pinned (OpenSpec.upto capTimesSpec)

/-- 'cofferlaw14.CapLess', WHERE WHAT IT READS IS OF BULK AT MOST 1048576: true; the input reads as it did. -/
def capLessUptoRow : OpenClaim := { program := "ytjmbbhnpfmblpaa", sum := "d65083f4cde51153df0710d5735cbb34c9cc30f04cb400611ba10934affffa4c", func := "coffer/cofferlaw14.CapLess", spec := "capLess", apart := false, narrowed := true }
def CapLessUptoSaid : Prop := capLessUptoRow.holds Try.pinned (OpenSpec.upto capLessSpec)

/-- 'cofferlaw14.CapBytes', WHERE WHAT IT READS IS OF BULK AT MOST 1048576: true; the input reads as it did. -/
def capBytesUptoRow : OpenClaim := { program := "ytjmbbhnpfmblpaa", sum := "d65083f4cde51153df0710d5735cbb34c9cc30f04cb400611ba10934affffa4c", func := "coffer/cofferlaw14.CapBytes", spec := "capBytes", apart := false, narrowed := true }
def CapBytesUptoSaid : Prop := capBytesUptoRow.holds Try.pinned (OpenSpec.upto capBytesSpec)

/-- 'cofferlaw20.AuditEntries', WHERE WHAT IT READS IS OF BULK AT MOST 1048576: true; the input reads as it did. -/
def auditEntriesUptoRow : OpenClaim := { program := "ytjmbbhnpfmblpaa", sum := "d65083f4cde51153df0710d5735cbb34c9cc30f04cb400611ba10934affffa4c", func := "coffer/cofferlaw20.AuditEntries", spec := "auditEntries", apart := false, narrowed := true }
def AuditEntriesUptoSaid : Prop := auditEntriesUptoRow.holds Try.pinned (OpenSpec.upto auditEntriesSpec)

/-- 'cofferlaw20.AuditReads', WHERE WHAT IT READS IS OF BULK AT MOST 1048576: true; the input reads as it did. -/
def auditReadsUptoRow : OpenClaim := { program := "ytjmbbhnpfmblpaa", sum := "d65083f4cde51153df0710d5735cbb34c9cc30f04cb400611ba10934affffa4c", func := "coffer/cofferlaw20.AuditReads", spec := "auditReads", apart := false, narrowed := true }
def AuditReadsUptoSaid : Prop := auditReadsUptoRow.holds Try.pinned (OpenSpec.upto auditReadsSpec)

/-- 'cofferlaw20.AuditBack', WHERE WHAT IT READS IS OF BULK AT MOST 1048576: true; the input reads as it did. -/
def auditBackUptoRow : OpenClaim := { program := "ytjmbbhnpfmblpaa", sum := "d65083f4cde51153df0710d5735cbb34c9cc30f04cb400611ba10934affffa4c", func := "coffer/cofferlaw20.AuditBack", spec := "auditBack", apart := false, narrowed := true }
def AuditBackUptoSaid : Prop := auditBackUptoRow.holds Try.pinned (OpenSpec.upto auditBackSpec)

/-- 'cofferlaw20.AuditChains', WHERE WHAT IT READS IS OF BULK AT MOST 1048576: true; the input reads as it did. -/
def auditChainsUptoRow : OpenClaim := { program := "ytjmbbhnpfmblpaa", sum := "d65083f4cde51153df0710d5735cbb34c9cc30f04cb400611ba10934affffa4c", func := "coffer/cofferlaw20.AuditChains", spec := "auditChains", apart := false, narrowed := true }
def AuditChainsUptoSaid : Prop := auditChainsUptoRow.holds Try.pinned (OpenSpec.upto auditChainsSpec)

/-- 'cofferlaw20.AuditVerifies', WHERE WHAT IT READS IS OF BULK AT MOST 1048576: true; the input reads as it did. -/
def auditVerifiesUptoRow : OpenClaim := { program := "ytjmbbhnpfmblpaa", sum := "d65083f4cde51153df0710d5735cbb34c9cc30f04cb400611ba10934affffa4c", func := "coffer/cofferlaw20.AuditVerifies", spec := "auditVerifies", apart := false, narrowed := true }
def AuditVerifiesUptoSaid : Prop := auditVerifiesUptoRow.holds Try.pinned (OpenSpec.upto auditVerifiesSpec)

/-- 'cofferlaw20.AuditTampered', WHERE WHAT IT READS IS OF BULK AT MOST 1048576: true; the input reads as it did. -/
def auditTamperedUptoRow : OpenClaim := { program := "ytjmbbhnpfmblpaa", sum := "d65083f4cde51153df0710d5735cbb34c9cc30f04cb400611ba10934affffa4c", func := "coffer/cofferlaw20.AuditTampered", spec := "auditTampered", apart := false, narrowed := true }
def AuditTamperedUptoSaid : Prop := auditTamperedUptoRow.holds Try.pinned (OpenSpec.upto auditTamperedSpec)

/-- 'cofferlaw14.CapReads', WHERE WHAT IT READS IS OF BULK AT MOST 1048576: true; the input reads as it did. -/
def capReadsUptoRow : OpenClaim := { program := "ytjmbbhnpfmblpaa", sum := "d65083f4cde51153df0710d5735cbb34c9cc30f04cb400611ba10934affffa4c", func := "coffer/cofferlaw14.CapReads", spec := "capReads", apart := false, narrowed := true }
def CapReadsUptoSaid : Prop := capReadsUptoRow.holds Try.pinned (OpenSpec.upto capReadsSpec)

/-- 'cofferlaw14.CapBack', WHERE WHAT IT READS IS OF BULK AT MOST 1048576: true; the input reads as it did. -/
def capBackUptoRow : OpenClaim := { program := "ytjmbbhnpfmblpaa", sum := "d65083f4cde51153df0710d5735cbb34c9cc30f04cb400611ba10934affffa4c", func := "coffer/cofferlaw14.CapBack", spec := "capBack", apart := false, narrowed := true }
def CapBackUptoSaid : Prop := capBackUptoRow.holds Try.pinned (OpenSpec.upto capBackSpec)

/-- 'cofferlaw14.CapForged', WHERE WHAT IT READS IS OF BULK AT MOST 1048576: true; the input reads as it did. -/
def capForgedUptoRow : OpenClaim := { program := "ytjmbbhnpfmblpaa", sum := "d65083f4cde51153df0710d5735cbb34c9cc30f04cb400611ba10934affffa4c", func := "coffer/cofferlaw14.CapForged", spec := "capForged", apart := false, narrowed := true }
def CapForgedUptoSaid : Prop := capForgedUptoRow.holds Try.pinned (OpenSpec.upto capForgedSpec)

end Rows
end Go.Proofs.Ytjmbbhnpfmblpaa
