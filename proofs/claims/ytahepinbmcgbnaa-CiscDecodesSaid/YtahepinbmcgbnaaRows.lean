/-
  No cell of these rows narrows 'for every input' (looked for: loops, veiled, ifaces, maps, wideKeys, modest, calm, conditions, laid).
  DERIVED. THE GIVEN ROWS OF THIS SEAT. 12 by the template 'for every input the law returns true; each argument reads behind the call as it read before'; 0 by the template 'total and deterministic' (their statements: YtahepinbmcgbnaaTotals.lean).
  GIVEN WITH THE SEED: the statements are not yours to turn. If you find one false, say at which input.
  Laid BY PROGRAM, IN A SANDBOX (cutbox-rows.mjs): the forced cells as the released guide's own fill.sh prints them over the translation 67ea71b0c46f07e1… (all of the seat's roots in one cut). By AI agents, Wed Nov 11 2026. No macro, syntax, notation, axiom, sorry.
-/
import Derived.Test.YtahepinbmcgbnaaChecked
import GoSem.Claim
import GoSem.ClaimJoined
import GoSem.ClaimMapViews
import Derived.JoinedTies
import Derived.KernelRfl
namespace Go.Proofs.Ytahepinbmcgbnaa
/- THE CELL 'sum', in the pinned program and in every row, IS THE sha256 OF THE DUMP (.gsa) THAT YtahepinbmcgbnaaProg.lean LOADS. Nothing in Lean hashes anything: it is a label: what it is worth is what the hold of that sum in a sandbox is worth. -/
noncomputable def Try.pinned : Pinned := { name := "ytahepinbmcgbnaa", sum := "67ea71b0c46f07e1ca5e97348c40d5f062138f038f58229ffa4e7bcd0fa2f81b", checked := Try.checked }
namespace Rows
def none {H : Type} : Left H := { results := [], args := [] }

/-- 'gantrylaw1.WordShifts': WHATEVER THE INPUT: true; the input reads as it did. -/
def wordShiftsSpec : ChangeSpec := { name := "wordShifts", fn := fun _ => fun
  | [d] => { results := [.lit (.bool true)], args := [d] }
  | _ => none }
def wordShiftsRow : OpenClaim := { program := "ytahepinbmcgbnaa", sum := "67ea71b0c46f07e1ca5e97348c40d5f062138f038f58229ffa4e7bcd0fa2f81b", func := "gantry/gantrylaw1.WordShifts", spec := "wordShifts", inPlace := ["math.Float64frombits", "math.Float64bits"], apart := false }
def WordShiftsSaid : Prop := wordShiftsRow.holds Try.pinned (OpenSpec.ofChange wordShiftsSpec)

/-- ITS FALSE NEIGHBOUR: 'it returns false'. Refute it at one input. -/
def wordShiftsWrong : ChangeSpec := { name := "wordShifts", fn := fun _ => fun
  | [d] => { results := [.lit (.bool false)], args := [d] }
  | _ => none }
def WordShiftsWrongFalsely : Prop := wordShiftsRow.holds Try.pinned (OpenSpec.ofChange wordShiftsWrong)

/-- 'gantrylaw1.WordLaws': WHATEVER THE INPUT: true; the input reads as it did. -/
def wordLawsSpec : ChangeSpec := { name := "wordLaws", fn := fun _ => fun
  | [d] => { results := [.lit (.bool true)], args := [d] }
  | _ => none }
def wordLawsRow : OpenClaim := { program := "ytahepinbmcgbnaa", sum := "67ea71b0c46f07e1ca5e97348c40d5f062138f038f58229ffa4e7bcd0fa2f81b", func := "gantry/gantrylaw1.WordLaws", spec := "wordLaws", inPlace := ["math.Float64frombits", "math.Float64bits"], apart := false }
def WordLawsSaid : Prop := wordLawsRow.holds Try.pinned (OpenSpec.ofChange wordLawsSpec)

/-- ITS FALSE NEIGHBOUR: 'it returns false'. Refute it at one input. -/
def wordLawsWrong : ChangeSpec := { name := "wordLaws", fn := fun _ => fun
  | [d] => { results := [.lit (.bool false)], args := [d] }
  | _ => none }
def WordLawsWrongFalsely : Prop := wordLawsRow.holds Try.pinned (OpenSpec.ofChange wordLawsWrong)

/-- 'gantrylaw1.WordFloats': WHATEVER THE INPUT: true; the input reads as it did. -/
def wordFloatsSpec : ChangeSpec := { name := "wordFloats", fn := fun _ => fun
  | [d] => { results := [.lit (.bool true)], args := [d] }
  | _ => none }
def wordFloatsRow : OpenClaim := { program := "ytahepinbmcgbnaa", sum := "67ea71b0c46f07e1ca5e97348c40d5f062138f038f58229ffa4e7bcd0fa2f81b", func := "gantry/gantrylaw1.WordFloats", spec := "wordFloats", inPlace := ["math.Float64frombits", "math.Float64bits"], apart := false }
def WordFloatsSaid : Prop := wordFloatsRow.holds Try.pinned (OpenSpec.ofChange wordFloatsSpec)

/-- ITS FALSE NEIGHBOUR: 'it returns false'. Refute it at one input. -/
def wordFloatsWrong : ChangeSpec := { name := "wordFloats", fn := fun _ => fun
  | [d] => { results := [.lit (.bool false)], args := [d] }
  | _ => none }
def WordFloatsWrongFalsely : Prop := wordFloatsRow.holds Try.pinned (OpenSpec.ofChange wordFloatsWrong)

/-- 'gantrylaw1.WordConvs': WHATEVER THE INPUT: true; the input reads as it did. -/
def wordConvsSpec : ChangeSpec := { name := "wordConvs", fn := fun _ => fun
  | [d] => { results := [.lit (.bool true)], args := [d] }
  | _ => none }
def wordConvsRow : OpenClaim := { program := "ytahepinbmcgbnaa", sum := "67ea71b0c46f07e1ca5e97348c40d5f062138f038f58229ffa4e7bcd0fa2f81b", func := "gantry/gantrylaw1.WordConvs", spec := "wordConvs", inPlace := ["math.Float64frombits", "math.Float64bits"], unfollowed := true, recurses := true, apart := false }
def WordConvsSaid : Prop := wordConvsRow.holds Try.pinned (OpenSpec.ofChange wordConvsSpec)

/-- ITS FALSE NEIGHBOUR: 'it returns false'. Refute it at one input. -/
def wordConvsWrong : ChangeSpec := { name := "wordConvs", fn := fun _ => fun
  | [d] => { results := [.lit (.bool false)], args := [d] }
  | _ => none }
def WordConvsWrongFalsely : Prop := wordConvsRow.holds Try.pinned (OpenSpec.ofChange wordConvsWrong)

/-- 'gantrylaw1.WordExact': WHATEVER THE INPUT: true; the input reads as it did. -/
def wordExactSpec : ChangeSpec := { name := "wordExact", fn := fun _ => fun
  | [d] => { results := [.lit (.bool true)], args := [d] }
  | _ => none }
def wordExactRow : OpenClaim := { program := "ytahepinbmcgbnaa", sum := "67ea71b0c46f07e1ca5e97348c40d5f062138f038f58229ffa4e7bcd0fa2f81b", func := "gantry/gantrylaw1.WordExact", spec := "wordExact", inPlace := ["math.Float64frombits", "math.Float64bits"], unfollowed := true, recurses := true, apart := false }
def WordExactSaid : Prop := wordExactRow.holds Try.pinned (OpenSpec.ofChange wordExactSpec)

/-- ITS FALSE NEIGHBOUR: 'it returns false'. Refute it at one input. -/
def wordExactWrong : ChangeSpec := { name := "wordExact", fn := fun _ => fun
  | [d] => { results := [.lit (.bool false)], args := [d] }
  | _ => none }
def WordExactWrongFalsely : Prop := wordExactRow.holds Try.pinned (OpenSpec.ofChange wordExactWrong)

/-- 'gantrylaw3.RiscEncodes': WHATEVER THE INPUT: true; the input reads as it did. -/
def riscEncodesSpec : ChangeSpec := { name := "riscEncodes", fn := fun _ => fun
  | [d] => { results := [.lit (.bool true)], args := [d] }
  | _ => none }
def riscEncodesRow : OpenClaim := { program := "ytahepinbmcgbnaa", sum := "67ea71b0c46f07e1ca5e97348c40d5f062138f038f58229ffa4e7bcd0fa2f81b", func := "gantry/gantrylaw3.RiscEncodes", spec := "riscEncodes", inPlace := ["math.Float64frombits", "math.Float64bits"], unfollowed := true, recurses := true, apart := false }
def RiscEncodesSaid : Prop := riscEncodesRow.holds Try.pinned (OpenSpec.ofChange riscEncodesSpec)

/-- ITS FALSE NEIGHBOUR: 'it returns false'. Refute it at one input. -/
def riscEncodesWrong : ChangeSpec := { name := "riscEncodes", fn := fun _ => fun
  | [d] => { results := [.lit (.bool false)], args := [d] }
  | _ => none }
def RiscEncodesWrongFalsely : Prop := riscEncodesRow.holds Try.pinned (OpenSpec.ofChange riscEncodesWrong)

/-- 'gantrylaw3.RiscDecodes': WHATEVER THE INPUT: true; the input reads as it did. -/
def riscDecodesSpec : ChangeSpec := { name := "riscDecodes", fn := fun _ => fun
  | [d] => { results := [.lit (.bool true)], args := [d] }
  | _ => none }
def riscDecodesRow : OpenClaim := { program := "ytahepinbmcgbnaa", sum := "67ea71b0c46f07e1ca5e97348c40d5f062138f038f58229ffa4e7bcd0fa2f81b", func := "gantry/gantrylaw3.RiscDecodes", spec := "riscDecodes", inPlace := ["math.Float64frombits", "math.Float64bits"], unfollowed := true, recurses := true, apart := false }
def RiscDecodesSaid : Prop := riscDecodesRow.holds Try.pinned (OpenSpec.ofChange riscDecodesSpec)

/-- ITS FALSE NEIGHBOUR: 'it returns false'. Refute it at one input. -/
def riscDecodesWrong : ChangeSpec := { name := "riscDecodes", fn := fun _ => fun
  | [d] => { results := [.lit (.bool false)], args := [d] }
  | _ => none }
def RiscDecodesWrongFalsely : Prop := riscDecodesRow.holds Try.pinned (OpenSpec.ofChange riscDecodesWrong)

/-- 'gantrylaw3.RiscBack': WHATEVER THE INPUT: true; the input reads as it did. -/
def riscBackSpec : ChangeSpec := { name := "riscBack", fn := fun _ => fun
  | [d] => { results := [.lit (.bool true)], args := [d] }
  | _ => none }
def riscBackRow : OpenClaim := { program := "ytahepinbmcgbnaa", sum := "67ea71b0c46f07e1ca5e97348c40d5f062138f038f58229ffa4e7bcd0fa2f81b", func := "gantry/gantrylaw3.RiscBack", spec := "riscBack", inPlace := ["math.Float64frombits", "math.Float64bits"], unfollowed := true, recurses := true, apart := false }
def RiscBackSaid : Prop := riscBackRow.holds Try.pinned (OpenSpec.ofChange riscBackSpec)

/-- ITS FALSE NEIGHBOUR: 'it returns false'. Refute it at one input. -/
def riscBackWrong : ChangeSpec := { name := "riscBack", fn := fun _ => fun
  | [d] => { results := [.lit (.bool false)], args := [d] }
  | _ => none }
def RiscBackWrongFalsely : Prop := riscBackRow.holds Try.pinned (OpenSpec.ofChange riscBackWrong)

/-- 'gantrylaw4.CiscEncodes': WHATEVER THE INPUT: true; the input reads as it did. -/
def ciscEncodesSpec : ChangeSpec := { name := "ciscEncodes", fn := fun _ => fun
  | [d] => { results := [.lit (.bool true)], args := [d] }
  | _ => none }
def ciscEncodesRow : OpenClaim := { program := "ytahepinbmcgbnaa", sum := "67ea71b0c46f07e1ca5e97348c40d5f062138f038f58229ffa4e7bcd0fa2f81b", func := "gantry/gantrylaw4.CiscEncodes", spec := "ciscEncodes", inPlace := ["math.Float64frombits", "math.Float64bits"], unfollowed := true, recurses := true, apart := false }
def CiscEncodesSaid : Prop := ciscEncodesRow.holds Try.pinned (OpenSpec.ofChange ciscEncodesSpec)

/-- ITS FALSE NEIGHBOUR: 'it returns false'. Refute it at one input. -/
def ciscEncodesWrong : ChangeSpec := { name := "ciscEncodes", fn := fun _ => fun
  | [d] => { results := [.lit (.bool false)], args := [d] }
  | _ => none }
def CiscEncodesWrongFalsely : Prop := ciscEncodesRow.holds Try.pinned (OpenSpec.ofChange ciscEncodesWrong)

/-- 'gantrylaw4.CiscDecodes': WHATEVER THE INPUT: true; the input reads as it did. -/
def ciscDecodesSpec : ChangeSpec := { name := "ciscDecodes", fn := fun _ => fun
  | [d] => { results := [.lit (.bool true)], args := [d] }
  | _ => none }
def ciscDecodesRow : OpenClaim := { program := "ytahepinbmcgbnaa", sum := "67ea71b0c46f07e1ca5e97348c40d5f062138f038f58229ffa4e7bcd0fa2f81b", func := "gantry/gantrylaw4.CiscDecodes", spec := "ciscDecodes", inPlace := ["math.Float64frombits", "math.Float64bits"], unfollowed := true, recurses := true, apart := false }
def CiscDecodesSaid : Prop := ciscDecodesRow.holds Try.pinned (OpenSpec.ofChange ciscDecodesSpec)

/-- ITS FALSE NEIGHBOUR: 'it returns false'. Refute it at one input. -/
def ciscDecodesWrong : ChangeSpec := { name := "ciscDecodes", fn := fun _ => fun
  | [d] => { results := [.lit (.bool false)], args := [d] }
  | _ => none }
def CiscDecodesWrongFalsely : Prop := ciscDecodesRow.holds Try.pinned (OpenSpec.ofChange ciscDecodesWrong)

/-- 'gantrylaw4.CiscBack': WHATEVER THE INPUT: true; the input reads as it did. -/
def ciscBackSpec : ChangeSpec := { name := "ciscBack", fn := fun _ => fun
  | [d] => { results := [.lit (.bool true)], args := [d] }
  | _ => none }
def ciscBackRow : OpenClaim := { program := "ytahepinbmcgbnaa", sum := "67ea71b0c46f07e1ca5e97348c40d5f062138f038f58229ffa4e7bcd0fa2f81b", func := "gantry/gantrylaw4.CiscBack", spec := "ciscBack", inPlace := ["math.Float64frombits", "math.Float64bits"], unfollowed := true, recurses := true, apart := false }
def CiscBackSaid : Prop := ciscBackRow.holds Try.pinned (OpenSpec.ofChange ciscBackSpec)

/-- ITS FALSE NEIGHBOUR: 'it returns false'. Refute it at one input. -/
def ciscBackWrong : ChangeSpec := { name := "ciscBack", fn := fun _ => fun
  | [d] => { results := [.lit (.bool false)], args := [d] }
  | _ => none }
def CiscBackWrongFalsely : Prop := ciscBackRow.holds Try.pinned (OpenSpec.ofChange ciscBackWrong)

/-- 'gantrylaw4.CiscRows': WHATEVER THE INPUT: true; the input reads as it did. -/
def ciscRowsSpec : ChangeSpec := { name := "ciscRows", fn := fun _ => fun
  | [d] => { results := [.lit (.bool true)], args := [d] }
  | _ => none }
def ciscRowsRow : OpenClaim := { program := "ytahepinbmcgbnaa", sum := "67ea71b0c46f07e1ca5e97348c40d5f062138f038f58229ffa4e7bcd0fa2f81b", func := "gantry/gantrylaw4.CiscRows", spec := "ciscRows", inPlace := ["math.Float64frombits", "math.Float64bits"], unfollowed := true, recurses := true, apart := false }
def CiscRowsSaid : Prop := ciscRowsRow.holds Try.pinned (OpenSpec.ofChange ciscRowsSpec)

/-- ITS FALSE NEIGHBOUR: 'it returns false'. Refute it at one input. -/
def ciscRowsWrong : ChangeSpec := { name := "ciscRows", fn := fun _ => fun
  | [d] => { results := [.lit (.bool false)], args := [d] }
  | _ => none }
def CiscRowsWrongFalsely : Prop := ciscRowsRow.holds Try.pinned (OpenSpec.ofChange ciscRowsWrong)

/- THE SECOND FORM. 'bulk': how many values and letters a reading holds, each counted each time it is reached (what is shared counts as often as it is met; a slice's spare places count too). A statement '..UptoSaid' is the law's where the arguments, and the package variables that the reading takes, are together of bulk at most 1048576: NARROWER than '..Said'. Prove '..Said' where nothing that the law and all that it calls make is longer than what came in: it says more and counts as full. Else prove '..UptoSaid'. A law counts once. -/
mutual
def uptoBulk {H : Type} : DataW H → Nat
  | .lit (.string bytes) => bytes.length + 1
  | .lit _ => 1
  | .nil => 1
  | .ptr d => uptoBulk d + 1
  | .slice elems spare => uptoBulkAll elems + uptoBulkAll spare + 1
  | .agg parts => uptoBulkAll parts + 1
  | .iface _ d => uptoBulk d + 1
  | .map entries => uptoBulkEntries entries + 1
  | .held _ => 1
def uptoBulkAll {H : Type} : List (DataW H) → Nat
  | [] => 0
  | d :: r => uptoBulk d + uptoBulkAll r
def uptoBulkEntries {H : Type} : List (Lit × DataW H) → Nat
  | [] => 0
  | x :: r => uptoBulkEntry x + uptoBulkEntries r
def uptoBulkEntry {H : Type} : Lit × DataW H → Nat
  | (.string bytes, d) => bytes.length + uptoBulk d + 1
  | (_, d) => uptoBulk d + 1
 end
def uptoSmall : (H : Type) → List (DataW H) → Bool := fun _ ds => decide (uptoBulkAll ds ≤ 1048576)
def OpenSpec.upto (s : _root_.Go.ChangeSpec) : _root_.Go.OpenSpec := { _root_.Go.OpenSpec.ofChange s with cond := some uptoSmall }

/-- 'gantrylaw1.WordShifts', WHERE WHAT IT READS IS OF BULK AT MOST 1048576: true; the input reads as it did. -/
def wordShiftsUptoRow : OpenClaim := { program := "ytahepinbmcgbnaa", sum := "67ea71b0c46f07e1ca5e97348c40d5f062138f038f58229ffa4e7bcd0fa2f81b", func := "gantry/gantrylaw1.WordShifts", spec := "wordShifts", inPlace := ["math.Float64frombits", "math.Float64bits"], apart := false, narrowed := true }
def WordShiftsUptoSaid : Prop := wordShiftsUptoRow.holds Try.pinned (OpenSpec.upto wordShiftsSpec)

/-- 'gantrylaw1.WordLaws', WHERE WHAT IT READS IS OF BULK AT MOST 1048576: true; the input reads as it did. -/
def wordLawsUptoRow : OpenClaim := { program := "ytahepinbmcgbnaa", sum := "67ea71b0c46f07e1ca5e97348c40d5f062138f038f58229ffa4e7bcd0fa2f81b", func := "gantry/gantrylaw1.WordLaws", spec := "wordLaws", inPlace := ["math.Float64frombits", "math.Float64bits"], apart := false, narrowed := true }
def WordLawsUptoSaid : Prop := wordLawsUptoRow.holds Try.pinned (OpenSpec.upto wordLawsSpec)

/-- 'gantrylaw1.WordFloats', WHERE WHAT IT READS IS OF BULK AT MOST 1048576: true; the input reads as it did. -/
def wordFloatsUptoRow : OpenClaim := { program := "ytahepinbmcgbnaa", sum := "67ea71b0c46f07e1ca5e97348c40d5f062138f038f58229ffa4e7bcd0fa2f81b", func := "gantry/gantrylaw1.WordFloats", spec := "wordFloats", inPlace := ["math.Float64frombits", "math.Float64bits"], apart := false, narrowed := true }
def WordFloatsUptoSaid : Prop := wordFloatsUptoRow.holds Try.pinned (OpenSpec.upto wordFloatsSpec)

/-- 'gantrylaw1.WordConvs', WHERE WHAT IT READS IS OF BULK AT MOST 1048576: true; the input reads as it did. -/
def wordConvsUptoRow : OpenClaim := { program := "ytahepinbmcgbnaa", sum := "67ea71b0c46f07e1ca5e97348c40d5f062138f038f58229ffa4e7bcd0fa2f81b", func := "gantry/gantrylaw1.WordConvs", spec := "wordConvs", inPlace := ["math.Float64frombits", "math.Float64bits"], unfollowed := true, recurses := true, apart := false, narrowed := true }
def WordConvsUptoSaid : Prop := wordConvsUptoRow.holds Try.pinned (OpenSpec.upto wordConvsSpec)

/-- 'gantrylaw1.WordExact', WHERE WHAT IT READS IS OF BULK AT MOST 1048576: true; the input reads as it did. -/
def wordExactUptoRow : OpenClaim := { program := "ytahepinbmcgbnaa", sum := "67ea71b0c46f07e1ca5e97348c40d5f062138f038f58229ffa4e7bcd0fa2f81b", func := "gantry/gantrylaw1.WordExact", spec := "wordExact", inPlace := ["math.Float64frombits", "math.Float64bits"], unfollowed := true, recurses := true, apart := false, narrowed := true }
def WordExactUptoSaid : Prop := wordExactUptoRow.holds Try.pinned (OpenSpec.upto wordExactSpec)

/-- 'gantrylaw3.RiscEncodes', WHERE WHAT IT READS IS OF BULK AT MOST 1048576: true; the input reads as it did. -/
def riscEncodesUptoRow : OpenClaim := { program := "ytahepinbmcgbnaa", sum := "67ea71b0c46f07e1ca5e97348c40d5f062138f038f58229ffa4e7bcd0fa2f81b", func := "gantry/gantrylaw3.RiscEncodes", spec := "riscEncodes", inPlace := ["math.Float64frombits", "math.Float64bits"], unfollowed := true, recurses := true, apart := false, narrowed := true }
def RiscEncodesUptoSaid : Prop := riscEncodesUptoRow.holds Try.pinned (OpenSpec.upto riscEncodesSpec)

/-- 'gantrylaw3.RiscDecodes', WHERE WHAT IT READS IS OF BULK AT MOST 1048576: true; the input reads as it did. -/
def riscDecodesUptoRow : OpenClaim := { program := "ytahepinbmcgbnaa", sum := "67ea71b0c46f07e1ca5e97348c40d5f062138f038f58229ffa4e7bcd0fa2f81b", func := "gantry/gantrylaw3.RiscDecodes", spec := "riscDecodes", inPlace := ["math.Float64frombits", "math.Float64bits"], unfollowed := true, recurses := true, apart := false, narrowed := true }
def RiscDecodesUptoSaid : Prop := riscDecodesUptoRow.holds Try.pinned (OpenSpec.upto riscDecodesSpec)

/-- 'gantrylaw3.RiscBack', WHERE WHAT IT READS IS OF BULK AT MOST 1048576: true; the input reads as it did. -/
def riscBackUptoRow : OpenClaim := { program := "ytahepinbmcgbnaa", sum := "67ea71b0c46f07e1ca5e97348c40d5f062138f038f58229ffa4e7bcd0fa2f81b", func := "gantry/gantrylaw3.RiscBack", spec := "riscBack", inPlace := ["math.Float64frombits", "math.Float64bits"], unfollowed := true, recurses := true, apart := false, narrowed := true }
def RiscBackUptoSaid : Prop := riscBackUptoRow.holds Try.pinned (OpenSpec.upto riscBackSpec)

/-- 'gantrylaw4.CiscEncodes', WHERE WHAT IT READS IS OF BULK AT MOST 1048576: true; the input reads as it did. -/
def ciscEncodesUptoRow : OpenClaim := { program := "ytahepinbmcgbnaa", sum := "67ea71b0c46f07e1ca5e97348c40d5f062138f038f58229ffa4e7bcd0fa2f81b", func := "gantry/gantrylaw4.CiscEncodes", spec := "ciscEncodes", inPlace := ["math.Float64frombits", "math.Float64bits"], unfollowed := true, recurses := true, apart := false, narrowed := true }
def CiscEncodesUptoSaid : Prop := ciscEncodesUptoRow.holds Try.pinned (OpenSpec.upto ciscEncodesSpec)

/-- 'gantrylaw4.CiscDecodes', WHERE WHAT IT READS IS OF BULK AT MOST 1048576: true; the input reads as it did. -/
def ciscDecodesUptoRow : OpenClaim := { program := "ytahepinbmcgbnaa", sum := "67ea71b0c46f07e1ca5e97348c40d5f062138f038f58229ffa4e7bcd0fa2f81b", func := "gantry/gantrylaw4.CiscDecodes", spec := "ciscDecodes", inPlace := ["math.Float64frombits", "math.Float64bits"], unfollowed := true, recurses := true, apart := false, narrowed := true }
def CiscDecodesUptoSaid : Prop := ciscDecodesUptoRow.holds Try.pinned (OpenSpec.upto ciscDecodesSpec)

/-- 'gantrylaw4.CiscBack', WHERE WHAT IT READS IS OF BULK AT MOST 1048576: true; the input reads as it did. -/
def ciscBackUptoRow : OpenClaim := { program := "ytahepinbmcgbnaa", sum := "67ea71b0c46f07e1ca5e97348c40d5f062138f038f58229ffa4e7bcd0fa2f81b", func := "gantry/gantrylaw4.CiscBack", spec := "ciscBack", inPlace := ["math.Float64frombits", "math.Float64bits"], unfollowed := true, recurses := true, apart := false, narrowed := true }
def CiscBackUptoSaid : Prop := ciscBackUptoRow.holds Try.pinned (OpenSpec.upto ciscBackSpec)

/-- 'gantrylaw4.CiscRows', WHERE WHAT IT READS IS OF BULK AT MOST 1048576: true; the input reads as it did. -/
def ciscRowsUptoRow : OpenClaim := { program := "ytahepinbmcgbnaa", sum := "67ea71b0c46f07e1ca5e97348c40d5f062138f038f58229ffa4e7bcd0fa2f81b", func := "gantry/gantrylaw4.CiscRows", spec := "ciscRows", inPlace := ["math.Float64frombits", "math.Float64bits"], unfollowed := true, recurses := true, apart := false, narrowed := true }
def CiscRowsUptoSaid : Prop := ciscRowsUptoRow.holds Try.pinned (OpenSpec.upto ciscRowsSpec)

end Rows
end Go.Proofs.Ytahepinbmcgbnaa
