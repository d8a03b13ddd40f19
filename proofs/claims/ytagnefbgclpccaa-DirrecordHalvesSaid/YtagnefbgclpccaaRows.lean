/-
  No cell of these rows narrows 'for every input' (looked for: loops, veiled, ifaces, maps, wideKeys, modest, calm, conditions, laid).
  DERIVED. THE GIVEN ROWS OF THIS SEAT. 7 by the template 'for every input the law returns true; each argument reads behind the call as it read before'; 0 by the template 'total and deterministic' (their statements: YtagnefbgclpccaaTotals.lean).
  GIVEN WITH THE SEED: the statements are not yours to turn. If you find one false, say at which input.
  Laid BY PROGRAM, IN A SANDBOX (cutbox-rows.mjs): the forced cells as the released guide's own fill.sh prints them over the translation d5de1896e491660b… (all of the seat's roots in one cut). By AI agents, Wed Nov 11 2026. No macro, syntax, notation, axiom, sorry.
-/
import Derived.Test.YtagnefbgclpccaaChecked
import GoSem.Claim
import GoSem.ClaimJoined
import GoSem.ClaimMapViews
import Derived.JoinedTies
import Derived.KernelRfl
namespace Go.Proofs.Ytagnefbgclpccaa
/- THE CELL 'sum', in the pinned program and in every row, IS THE sha256 OF THE DUMP (.gsa) THAT YtagnefbgclpccaaProg.lean LOADS. Nothing in Lean hashes anything: it is a label: what it is worth is what the hold of that sum in a sandbox is worth. -/
noncomputable def Try.pinned : Pinned := { name := "ytagnefbgclpccaa", sum := "d5de1896e491660b5ae9c7ea27a79c3284f9f242d6d7ebb88e7d1f667184365f", checked := Try.checked }
namespace Rows
def none {H : Type} : Left H := { results := [], args := [] }

/-- 'masterdisclaw20.DirrecordEncodes': WHATEVER THE INPUT: true; the input reads as it did. -/
def dirrecordEncodesSpec : ChangeSpec := { name := "dirrecordEncodes", fn := fun _ => fun
  | [d1, d2, d3] => { results := [.lit (.bool true)], args := [d1, d2, d3] }
  | _ => none }
def dirrecordEncodesRow : OpenClaim := { program := "ytagnefbgclpccaa", sum := "d5de1896e491660b5ae9c7ea27a79c3284f9f242d6d7ebb88e7d1f667184365f", func := "masterdisc/masterdisclaw20.DirrecordEncodes", spec := "dirrecordEncodes", inPlace := ["internal/abi.NoEscape"], unfollowed := true, recurses := true, apart := false }
def DirrecordEncodesSaid : Prop := dirrecordEncodesRow.holds Try.pinned (OpenSpec.ofChange dirrecordEncodesSpec)

/-- ITS FALSE NEIGHBOUR: 'it returns false'. Refute it at one input. -/
def dirrecordEncodesWrong : ChangeSpec := { name := "dirrecordEncodes", fn := fun _ => fun
  | [d1, d2, d3] => { results := [.lit (.bool false)], args := [d1, d2, d3] }
  | _ => none }
def DirrecordEncodesWrongFalsely : Prop := dirrecordEncodesRow.holds Try.pinned (OpenSpec.ofChange dirrecordEncodesWrong)

/-- 'masterdisclaw20.DirrecordDecodes': WHATEVER THE INPUT: true; the input reads as it did. -/
def dirrecordDecodesSpec : ChangeSpec := { name := "dirrecordDecodes", fn := fun _ => fun
  | [d] => { results := [.lit (.bool true)], args := [d] }
  | _ => none }
def dirrecordDecodesRow : OpenClaim := { program := "ytagnefbgclpccaa", sum := "d5de1896e491660b5ae9c7ea27a79c3284f9f242d6d7ebb88e7d1f667184365f", func := "masterdisc/masterdisclaw20.DirrecordDecodes", spec := "dirrecordDecodes", inPlace := ["internal/abi.NoEscape"], unfollowed := true, recurses := true, apart := false }
def DirrecordDecodesSaid : Prop := dirrecordDecodesRow.holds Try.pinned (OpenSpec.ofChange dirrecordDecodesSpec)

/-- ITS FALSE NEIGHBOUR: 'it returns false'. Refute it at one input. -/
def dirrecordDecodesWrong : ChangeSpec := { name := "dirrecordDecodes", fn := fun _ => fun
  | [d] => { results := [.lit (.bool false)], args := [d] }
  | _ => none }
def DirrecordDecodesWrongFalsely : Prop := dirrecordDecodesRow.holds Try.pinned (OpenSpec.ofChange dirrecordDecodesWrong)

/-- 'masterdisclaw20.DirrecordReturns': WHATEVER THE INPUT: true; the input reads as it did. -/
def dirrecordReturnsSpec : ChangeSpec := { name := "dirrecordReturns", fn := fun _ => fun
  | [d1, d2] => { results := [.lit (.bool true)], args := [d1, d2] }
  | _ => none }
def dirrecordReturnsRow : OpenClaim := { program := "ytagnefbgclpccaa", sum := "d5de1896e491660b5ae9c7ea27a79c3284f9f242d6d7ebb88e7d1f667184365f", func := "masterdisc/masterdisclaw20.DirrecordReturns", spec := "dirrecordReturns", inPlace := ["internal/abi.NoEscape"], unfollowed := true, recurses := true, apart := false }
def DirrecordReturnsSaid : Prop := dirrecordReturnsRow.holds Try.pinned (OpenSpec.ofChange dirrecordReturnsSpec)

/-- ITS FALSE NEIGHBOUR: 'it returns false'. Refute it at one input. -/
def dirrecordReturnsWrong : ChangeSpec := { name := "dirrecordReturns", fn := fun _ => fun
  | [d1, d2] => { results := [.lit (.bool false)], args := [d1, d2] }
  | _ => none }
def DirrecordReturnsWrongFalsely : Prop := dirrecordReturnsRow.holds Try.pinned (OpenSpec.ofChange dirrecordReturnsWrong)

/-- 'masterdisclaw20.DirrecordBack': WHATEVER THE INPUT: true; the input reads as it did. -/
def dirrecordBackSpec : ChangeSpec := { name := "dirrecordBack", fn := fun _ => fun
  | [d] => { results := [.lit (.bool true)], args := [d] }
  | _ => none }
def dirrecordBackRow : OpenClaim := { program := "ytagnefbgclpccaa", sum := "d5de1896e491660b5ae9c7ea27a79c3284f9f242d6d7ebb88e7d1f667184365f", func := "masterdisc/masterdisclaw20.DirrecordBack", spec := "dirrecordBack", inPlace := ["internal/abi.NoEscape"], unfollowed := true, recurses := true, apart := false }
def DirrecordBackSaid : Prop := dirrecordBackRow.holds Try.pinned (OpenSpec.ofChange dirrecordBackSpec)

/-- ITS FALSE NEIGHBOUR: 'it returns false'. Refute it at one input. -/
def dirrecordBackWrong : ChangeSpec := { name := "dirrecordBack", fn := fun _ => fun
  | [d] => { results := [.lit (.bool false)], args := [d] }
  | _ => none }
def DirrecordBackWrongFalsely : Prop := dirrecordBackRow.holds Try.pinned (OpenSpec.ofChange dirrecordBackWrong)

/-- 'masterdisclaw20.DirrecordHalves': WHATEVER THE INPUT: true; the input reads as it did. -/
def dirrecordHalvesSpec : ChangeSpec := { name := "dirrecordHalves", fn := fun _ => fun
  | [d1, d2, d3, d4] => { results := [.lit (.bool true)], args := [d1, d2, d3, d4] }
  | _ => none }
def dirrecordHalvesRow : OpenClaim := { program := "ytagnefbgclpccaa", sum := "d5de1896e491660b5ae9c7ea27a79c3284f9f242d6d7ebb88e7d1f667184365f", func := "masterdisc/masterdisclaw20.DirrecordHalves", spec := "dirrecordHalves", inPlace := ["internal/abi.NoEscape"], unfollowed := true, recurses := true, apart := false }
def DirrecordHalvesSaid : Prop := dirrecordHalvesRow.holds Try.pinned (OpenSpec.ofChange dirrecordHalvesSpec)

/-- ITS FALSE NEIGHBOUR: 'it returns false'. Refute it at one input. -/
def dirrecordHalvesWrong : ChangeSpec := { name := "dirrecordHalves", fn := fun _ => fun
  | [d1, d2, d3, d4] => { results := [.lit (.bool false)], args := [d1, d2, d3, d4] }
  | _ => none }
def DirrecordHalvesWrongFalsely : Prop := dirrecordHalvesRow.holds Try.pinned (OpenSpec.ofChange dirrecordHalvesWrong)

/-- 'masterdisclaw20.DirrecordSizes': WHATEVER THE INPUT: true; the input reads as it did. -/
def dirrecordSizesSpec : ChangeSpec := { name := "dirrecordSizes", fn := fun _ => fun
  | [d1, d2] => { results := [.lit (.bool true)], args := [d1, d2] }
  | _ => none }
def dirrecordSizesRow : OpenClaim := { program := "ytagnefbgclpccaa", sum := "d5de1896e491660b5ae9c7ea27a79c3284f9f242d6d7ebb88e7d1f667184365f", func := "masterdisc/masterdisclaw20.DirrecordSizes", spec := "dirrecordSizes", inPlace := ["internal/abi.NoEscape"], unfollowed := true, recurses := true, apart := false }
def DirrecordSizesSaid : Prop := dirrecordSizesRow.holds Try.pinned (OpenSpec.ofChange dirrecordSizesSpec)

/-- ITS FALSE NEIGHBOUR: 'it returns false'. Refute it at one input. -/
def dirrecordSizesWrong : ChangeSpec := { name := "dirrecordSizes", fn := fun _ => fun
  | [d1, d2] => { results := [.lit (.bool false)], args := [d1, d2] }
  | _ => none }
def DirrecordSizesWrongFalsely : Prop := dirrecordSizesRow.holds Try.pinned (OpenSpec.ofChange dirrecordSizesWrong)

/-- 'masterdisclaw20.DirrecordShort': WHATEVER THE INPUT: true; the input reads as it did. -/
def dirrecordShortSpec : ChangeSpec := { name := "dirrecordShort", fn := fun _ => fun
  | [d1, d2] => { results := [.lit (.bool true)], args := [d1, d2] }
  | _ => none }
def dirrecordShortRow : OpenClaim := { program := "ytagnefbgclpccaa", sum := "d5de1896e491660b5ae9c7ea27a79c3284f9f242d6d7ebb88e7d1f667184365f", func := "masterdisc/masterdisclaw20.DirrecordShort", spec := "dirrecordShort", inPlace := ["internal/abi.NoEscape"], unfollowed := true, recurses := true, apart := false }
def DirrecordShortSaid : Prop := dirrecordShortRow.holds Try.pinned (OpenSpec.ofChange dirrecordShortSpec)

/-- ITS FALSE NEIGHBOUR: 'it returns false'. Refute it at one input. -/
def dirrecordShortWrong : ChangeSpec := { name := "dirrecordShort", fn := fun _ => fun
  | [d1, d2] => { results := [.lit (.bool false)], args := [d1, d2] }
  | _ => none }
def DirrecordShortWrongFalsely : Prop := dirrecordShortRow.holds Try.pinned (OpenSpec.ofChange dirrecordShortWrong)

/- THE SECOND FORM. 'bulk': how many values and letters a reading holds, each counted each time it is reached (what is shared counts as often as it is met; a slice's spare places count too). A statement '..UptoSaid' is the law's where the arguments, and the package variables that the reading takes, are together of bulk at most 1048576: NARROWER than '..Said'. Prove '..Said' where nothing that the law and all that it calls make is longer than what came in: it says more and counts as full. Else prove '..UptoSaid'. A law counts once. -/
mutual
def uptoBulk {H : Type} : DataW H → Nat
  | .lit (.string bytes) => bytes.length + 1
  | .lit _ => 1
  | .nil => 1
  | .ptr d => uptoBulk d + 1
  | .slice elems spare => uptoBulkAll elems + uptoBulkAll spare + 1
  | .agg parts => uptoBulkAll parts + 1
  | .iface _ d => uptoBulk d + 1
  | .map entries => uptoBulkEntries entries + 1
  | .held _ => 1
def uptoBulkAll {H : Type} : List (DataW H) → Nat
  | [] => 0
  | d :: r => uptoBulk d + uptoBulkAll r
def uptoBulkEntries {H : Type} : List (Lit × DataW H) → Nat
  | [] => 0
  | x :: r => uptoBulkEntry x + uptoBulkEntries r
def uptoBulkEntry {H : Type} : Lit × DataW H → Nat
  | (.string bytes, d) => bytes.length + uptoBulk d + 1
  | (_, d) => uptoBulk d + 1
 end
def uptoSmall : (H : Type) → List (DataW H) → Bool := fun _ ds => decide (uptoBulkAll ds ≤ 1048576)
def OpenSpec.upto (s : _root_.Go.ChangeSpec) : _root_.Go.OpenSpec := { _root_.Go.OpenSpec.ofChange s with cond := some uptoSmall }

/-- 'masterdisclaw20.DirrecordEncodes', WHERE WHAT IT READS IS OF BULK AT MOST 1048576: true; the input reads as it did. -/
def dirrecordEncodesUptoRow : OpenClaim := { program := "ytagnefbgclpccaa", sum := "d5de1896e491660b5ae9c7ea27a79c3284f9f242d6d7ebb88e7d1f667184365f", func := "masterdisc/masterdisclaw20.DirrecordEncodes", spec := "dirrecordEncodes", inPlace := ["internal/abi.NoEscape"], unfollowed := true, recurses := true, apart := false, narrowed := true }
def DirrecordEncodesUptoSaid : Prop := dirrecordEncodesUptoRow.holds Try.pinned (OpenSpec.upto dirrecordEncodesSpec)

/-- 'masterdisclaw20.DirrecordDecodes', WHERE WHAT IT READS IS OF BULK AT MOST 1048576: true; the input reads as it did. -/
def dirrecordDecodesUptoRow : OpenClaim := { program := "ytagnefbgclpccaa", sum := "d5de1896e491660b5ae9c7ea27a79c3284f9f242d6d7ebb88e7d1f667184365f", func := "masterdisc/masterdisclaw20.DirrecordDecodes", spec := "dirrecordDecodes", inPlace := ["internal/abi.NoEscape"], unfollowed := true, recurses := true, apart := false, narrowed := true }
def DirrecordDecodesUptoSaid : Prop := dirrecordDecodesUptoRow.holds Try.pinned (OpenSpec.upto dirrecordDecodesSpec)

/-- 'masterdisclaw20.DirrecordReturns', WHERE WHAT IT READS IS OF BULK AT MOST 1048576: true; the input reads as it did. -/
def dirrecordReturnsUptoRow : OpenClaim := { program := "ytagnefbgclpccaa", sum := "d5de1896e491660b5ae9c7ea27a79c3284f9f242d6d7ebb88e7d1f667184365f", func := "masterdisc/masterdisclaw20.DirrecordReturns", spec := "dirrecordReturns", inPlace := ["internal/abi.NoEscape"], unfollowed := true, recurses := true, apart := false, narrowed := true }
def DirrecordReturnsUptoSaid : Prop := dirrecordReturnsUptoRow.holds Try.pinned (OpenSpec.upto dirrecordReturnsSpec)

/-- 'masterdisclaw20.DirrecordBack', WHERE WHAT IT READS IS OF BULK AT MOST 1048576: true; the input reads as it did. -/
def dirrecordBackUptoRow : OpenClaim := { program := "ytagnefbgclpccaa", sum := "d5de1896e491660b5ae9c7ea27a79c3284f9f242d6d7ebb88e7d1f667184365f", func := "masterdisc/masterdisclaw20.DirrecordBack", spec := "dirrecordBack", inPlace := ["internal/abi.NoEscape"], unfollowed := true, recurses := true, apart := false, narrowed := true }
def DirrecordBackUptoSaid : Prop := dirrecordBackUptoRow.holds Try.pinned (OpenSpec.upto dirrecordBackSpec)

/-- 'masterdisclaw20.DirrecordHalves', WHERE WHAT IT READS IS OF BULK AT MOST 1048576: true; the input reads as it did. -/
def dirrecordHalvesUptoRow : OpenClaim := { program := "ytagnefbgclpccaa", sum := "d5de1896e491660b5ae9c7ea27a79c3284f9f242d6d7ebb88e7d1f667184365f", func := "masterdisc/masterdisclaw20.DirrecordHalves", spec := "dirrecordHalves", inPlace := ["internal/abi.NoEscape"], unfollowed := true, recurses := true, apart := false, narrowed := true }
def DirrecordHalvesUptoSaid : Prop := dirrecordHalvesUptoRow.holds Try.pinned (OpenSpec.upto dirrecordHalvesSpec)

/-- 'masterdisclaw20.DirrecordSizes', WHERE WHAT IT READS IS OF BULK AT MOST 1048576: true; the input reads as it did. -/
def dirrecordSizesUptoRow : OpenClaim := { program := "ytagnefbgclpccaa", sum := "d5de1896e491660b5ae9c7ea27a79c3284f9f242d6d7ebb88e7d1f667184365f", func := "masterdisc/masterdisclaw20.DirrecordSizes", spec := "dirrecordSizes", inPlace := ["internal/abi.NoEscape"], unfollowed := true, recurses := true, apart := false, narrowed := true }
def DirrecordSizesUptoSaid : Prop := dirrecordSizesUptoRow.holds Try.pinned (OpenSpec.upto dirrecordSizesSpec)

/-- 'masterdisclaw20.DirrecordShort', WHERE WHAT IT READS IS OF BULK AT MOST 1048576: true; the input reads as it did. -/
def dirrecordShortUptoRow : OpenClaim := { program := "ytagnefbgclpccaa", sum := "d5de1896e491660b5ae9c7ea27a79c3284f9f242d6d7ebb88e7d1f667184365f", func := "masterdisc/masterdisclaw20.DirrecordShort", spec := "dirrecordShort", inPlace := ["internal/abi.NoEscape"], unfollowed := true, recurses := true, apart := false, narrowed := true }
def DirrecordShortUptoSaid : Prop := dirrecordShortUptoRow.holds Try.pinned (OpenSpec.upto dirrecordShortSpec)

end Rows
end Go.Proofs.Ytagnefbgclpccaa
