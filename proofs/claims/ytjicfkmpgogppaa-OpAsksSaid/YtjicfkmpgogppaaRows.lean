/-
  No cell of these rows narrows 'for every input' (looked for: loops, veiled, ifaces, maps, wideKeys, modest, calm, conditions, laid).
  DERIVED. THE GIVEN ROWS OF THIS SEAT. 11 by the template 'for every input the law returns true; each argument reads behind the call as it read before'; 0 by the template 'total and deterministic' (their statements: YtjicfkmpgogppaaTotals.lean).
  GIVEN WITH THE SEED: the statements are not yours to turn. If you find one false, say at which input.
  Laid BY PROGRAM, IN A SANDBOX (cutbox-rows.mjs): the forced cells as the released guide's own fill.sh prints them over the translation 9776f3abc9be0c13… (all of the seat's roots in one cut). By AI agents, Wed Nov 11 2026. No macro, syntax, notation, axiom, sorry.
-/
import Derived.Test.YtjicfkmpgogppaaChecked
import GoSem.Claim
import GoSem.ClaimJoined
import GoSem.ClaimMapViews
import Derived.JoinedTies
import Derived.KernelRfl
namespace Go.Proofs.Ytjicfkmpgogppaa
/- THE CELL 'sum', in the pinned program and in every row, IS THE sha256 OF THE DUMP (.gsa) THAT YtjicfkmpgogppaaProg.lean LOADS. Nothing in Lean hashes anything: it is a label: what it is worth is what the hold of that sum in a sandbox is worth. -/
noncomputable def Try.pinned : Pinned := { name := "ytjicfkmpgogppaa", sum := "9776f3abc9be0c13fa90b3c8b8cc4ea04f1d42188db9505221a1f5b6b9912648", checked := Try.checked }
namespace Rows
def none {H : Type} : Left H := { results := [], args := [] }

/-- 'precinctlaw12.GraphChecks': WHATEVER THE INPUT: true; the input reads as it did. -/
def graphChecksSpec : ChangeSpec := { name := "graphChecks", fn := fun _ => fun
  | [d] => { results := [.lit (.bool true)], args := [d] }
  | _ => none }
def graphChecksRow : OpenClaim := { program := "ytjicfkmpgogppaa", sum := "9776f3abc9be0c13fa90b3c8b8cc4ea04f1d42188db9505221a1f5b6b9912648", func := "precinct/precinctlaw12.GraphChecks", spec := "graphChecks", unfollowed := true, recurses := true, apart := false }
def GraphChecksSaid : Prop := graphChecksRow.holds Try.pinned (OpenSpec.ofChange graphChecksSpec)

/-- ITS FALSE NEIGHBOUR: 'it returns false'. Refute it at one input. -/
def graphChecksWrong : ChangeSpec := { name := "graphChecks", fn := fun _ => fun
  | [d] => { results := [.lit (.bool false)], args := [d] }
  | _ => none }
def GraphChecksWrongFalsely : Prop := graphChecksRow.holds Try.pinned (OpenSpec.ofChange graphChecksWrong)

/-- 'precinctlaw12.GraphMasks': WHATEVER THE INPUT: true; the input reads as it did. -/
def graphMasksSpec : ChangeSpec := { name := "graphMasks", fn := fun _ => fun
  | [d] => { results := [.lit (.bool true)], args := [d] }
  | _ => none }
def graphMasksRow : OpenClaim := { program := "ytjicfkmpgogppaa", sum := "9776f3abc9be0c13fa90b3c8b8cc4ea04f1d42188db9505221a1f5b6b9912648", func := "precinct/precinctlaw12.GraphMasks", spec := "graphMasks", unfollowed := true, recurses := true, apart := false }
def GraphMasksSaid : Prop := graphMasksRow.holds Try.pinned (OpenSpec.ofChange graphMasksSpec)

/-- ITS FALSE NEIGHBOUR: 'it returns false'. Refute it at one input. -/
def graphMasksWrong : ChangeSpec := { name := "graphMasks", fn := fun _ => fun
  | [d] => { results := [.lit (.bool false)], args := [d] }
  | _ => none }
def GraphMasksWrongFalsely : Prop := graphMasksRow.holds Try.pinned (OpenSpec.ofChange graphMasksWrong)

/-- 'precinctlaw12.GraphNames': WHATEVER THE INPUT: true; the input reads as it did. -/
def graphNamesSpec : ChangeSpec := { name := "graphNames", fn := fun _ => fun
  | [d1, d2] => { results := [.lit (.bool true)], args := [d1, d2] }
  | _ => none }
def graphNamesRow : OpenClaim := { program := "ytjicfkmpgogppaa", sum := "9776f3abc9be0c13fa90b3c8b8cc4ea04f1d42188db9505221a1f5b6b9912648", func := "precinct/precinctlaw12.GraphNames", spec := "graphNames", unfollowed := true, recurses := true, apart := false }
def GraphNamesSaid : Prop := graphNamesRow.holds Try.pinned (OpenSpec.ofChange graphNamesSpec)

/-- ITS FALSE NEIGHBOUR: 'it returns false'. Refute it at one input. -/
def graphNamesWrong : ChangeSpec := { name := "graphNames", fn := fun _ => fun
  | [d1, d2] => { results := [.lit (.bool false)], args := [d1, d2] }
  | _ => none }
def GraphNamesWrongFalsely : Prop := graphNamesRow.holds Try.pinned (OpenSpec.ofChange graphNamesWrong)

/-- 'precinctlaw12.GraphValues': WHATEVER THE INPUT: true; the input reads as it did. -/
def graphValuesSpec : ChangeSpec := { name := "graphValues", fn := fun _ => fun
  | [d1, d2] => { results := [.lit (.bool true)], args := [d1, d2] }
  | _ => none }
def graphValuesRow : OpenClaim := { program := "ytjicfkmpgogppaa", sum := "9776f3abc9be0c13fa90b3c8b8cc4ea04f1d42188db9505221a1f5b6b9912648", func := "precinct/precinctlaw12.GraphValues", spec := "graphValues", unfollowed := true, recurses := true, apart := false }
def GraphValuesSaid : Prop := graphValuesRow.holds Try.pinned (OpenSpec.ofChange graphValuesSpec)

/-- ITS FALSE NEIGHBOUR: 'it returns false'. Refute it at one input. -/
def graphValuesWrong : ChangeSpec := { name := "graphValues", fn := fun _ => fun
  | [d1, d2] => { results := [.lit (.bool false)], args := [d1, d2] }
  | _ => none }
def GraphValuesWrongFalsely : Prop := graphValuesRow.holds Try.pinned (OpenSpec.ofChange graphValuesWrong)

/-- 'precinctlaw12.GraphBack': WHATEVER THE INPUT: true; the input reads as it did. -/
def graphBackSpec : ChangeSpec := { name := "graphBack", fn := fun _ => fun
  | [d1, d2] => { results := [.lit (.bool true)], args := [d1, d2] }
  | _ => none }
def graphBackRow : OpenClaim := { program := "ytjicfkmpgogppaa", sum := "9776f3abc9be0c13fa90b3c8b8cc4ea04f1d42188db9505221a1f5b6b9912648", func := "precinct/precinctlaw12.GraphBack", spec := "graphBack", unfollowed := true, recurses := true, apart := false }
def GraphBackSaid : Prop := graphBackRow.holds Try.pinned (OpenSpec.ofChange graphBackSpec)

/-- ITS FALSE NEIGHBOUR: 'it returns false'. Refute it at one input. -/
def graphBackWrong : ChangeSpec := { name := "graphBack", fn := fun _ => fun
  | [d1, d2] => { results := [.lit (.bool false)], args := [d1, d2] }
  | _ => none }
def GraphBackWrongFalsely : Prop := graphBackRow.holds Try.pinned (OpenSpec.ofChange graphBackWrong)

/-- 'precinctlaw18.OpPuts': WHATEVER THE INPUT: true; the input reads as it did. -/
def opPutsSpec : ChangeSpec := { name := "opPuts", fn := fun _ => fun
  | [d1, d2, d3] => { results := [.lit (.bool true)], args := [d1, d2, d3] }
  | _ => none }
def opPutsRow : OpenClaim := { program := "ytjicfkmpgogppaa", sum := "9776f3abc9be0c13fa90b3c8b8cc4ea04f1d42188db9505221a1f5b6b9912648", func := "precinct/precinctlaw18.OpPuts", spec := "opPuts", inPlace := ["internal/abi.NoEscape"], unfollowed := true, recurses := true, apart := false }
def OpPutsSaid : Prop := opPutsRow.holds Try.pinned (OpenSpec.ofChange opPutsSpec)

/-- ITS FALSE NEIGHBOUR: 'it returns false'. Refute it at one input. -/
def opPutsWrong : ChangeSpec := { name := "opPuts", fn := fun _ => fun
  | [d1, d2, d3] => { results := [.lit (.bool false)], args := [d1, d2, d3] }
  | _ => none }
def OpPutsWrongFalsely : Prop := opPutsRow.holds Try.pinned (OpenSpec.ofChange opPutsWrong)

/-- 'precinctlaw18.OpAnswers': WHATEVER THE INPUT: true; the input reads as it did. -/
def opAnswersSpec : ChangeSpec := { name := "opAnswers", fn := fun _ => fun
  | [d1, d2] => { results := [.lit (.bool true)], args := [d1, d2] }
  | _ => none }
def opAnswersRow : OpenClaim := { program := "ytjicfkmpgogppaa", sum := "9776f3abc9be0c13fa90b3c8b8cc4ea04f1d42188db9505221a1f5b6b9912648", func := "precinct/precinctlaw18.OpAnswers", spec := "opAnswers", inPlace := ["internal/abi.NoEscape"], unfollowed := true, recurses := true, apart := false }
def OpAnswersSaid : Prop := opAnswersRow.holds Try.pinned (OpenSpec.ofChange opAnswersSpec)

/-- ITS FALSE NEIGHBOUR: 'it returns false'. Refute it at one input. -/
def opAnswersWrong : ChangeSpec := { name := "opAnswers", fn := fun _ => fun
  | [d1, d2] => { results := [.lit (.bool false)], args := [d1, d2] }
  | _ => none }
def OpAnswersWrongFalsely : Prop := opAnswersRow.holds Try.pinned (OpenSpec.ofChange opAnswersWrong)

/-- 'precinctlaw18.OpGets': WHATEVER THE INPUT: true; the input reads as it did. -/
def opGetsSpec : ChangeSpec := { name := "opGets", fn := fun _ => fun
  | [d] => { results := [.lit (.bool true)], args := [d] }
  | _ => none }
def opGetsRow : OpenClaim := { program := "ytjicfkmpgogppaa", sum := "9776f3abc9be0c13fa90b3c8b8cc4ea04f1d42188db9505221a1f5b6b9912648", func := "precinct/precinctlaw18.OpGets", spec := "opGets", inPlace := ["internal/abi.NoEscape"], unfollowed := true, recurses := true, apart := false }
def OpGetsSaid : Prop := opGetsRow.holds Try.pinned (OpenSpec.ofChange opGetsSpec)

/-- ITS FALSE NEIGHBOUR: 'it returns false'. Refute it at one input. -/
def opGetsWrong : ChangeSpec := { name := "opGets", fn := fun _ => fun
  | [d] => { results := [.lit (.bool false)], args := [d] }
  | _ => none }
def OpGetsWrongFalsely : Prop := opGetsRow.holds Try.pinned (OpenSpec.ofChange opGetsWrong)

/-- 'precinctlaw18.OpBack': WHATEVER THE INPUT: true; the input reads as it did. -/
def opBackSpec : ChangeSpec := { name := "opBack", fn := fun _ => fun
  | [d1, d2, d3] => { results := [.lit (.bool true)], args := [d1, d2, d3] }
  | _ => none }
def opBackRow : OpenClaim := { program := "ytjicfkmpgogppaa", sum := "9776f3abc9be0c13fa90b3c8b8cc4ea04f1d42188db9505221a1f5b6b9912648", func := "precinct/precinctlaw18.OpBack", spec := "opBack", inPlace := ["internal/abi.NoEscape"], unfollowed := true, recurses := true, apart := false }
def OpBackSaid : Prop := opBackRow.holds Try.pinned (OpenSpec.ofChange opBackSpec)

/-- ITS FALSE NEIGHBOUR: 'it returns false'. Refute it at one input. -/
def opBackWrong : ChangeSpec := { name := "opBack", fn := fun _ => fun
  | [d1, d2, d3] => { results := [.lit (.bool false)], args := [d1, d2, d3] }
  | _ => none }
def OpBackWrongFalsely : Prop := opBackRow.holds Try.pinned (OpenSpec.ofChange opBackWrong)

/-- 'precinctlaw18.OpArgs': WHATEVER THE INPUT: true; the input reads as it did. -/
def opArgsSpec : ChangeSpec := { name := "opArgs", fn := fun _ => fun
  | [d1, d2] => { results := [.lit (.bool true)], args := [d1, d2] }
  | _ => none }
def opArgsRow : OpenClaim := { program := "ytjicfkmpgogppaa", sum := "9776f3abc9be0c13fa90b3c8b8cc4ea04f1d42188db9505221a1f5b6b9912648", func := "precinct/precinctlaw18.OpArgs", spec := "opArgs", inPlace := ["internal/abi.NoEscape"], unfollowed := true, recurses := true, apart := false }
def OpArgsSaid : Prop := opArgsRow.holds Try.pinned (OpenSpec.ofChange opArgsSpec)

/-- ITS FALSE NEIGHBOUR: 'it returns false'. Refute it at one input. -/
def opArgsWrong : ChangeSpec := { name := "opArgs", fn := fun _ => fun
  | [d1, d2] => { results := [.lit (.bool false)], args := [d1, d2] }
  | _ => none }
def OpArgsWrongFalsely : Prop := opArgsRow.holds Try.pinned (OpenSpec.ofChange opArgsWrong)

/-- 'precinctlaw18.OpAsks': WHATEVER THE INPUT: true; the input reads as it did. -/
def opAsksSpec : ChangeSpec := { name := "opAsks", fn := fun _ => fun
  | [d] => { results := [.lit (.bool true)], args := [d] }
  | _ => none }
def opAsksRow : OpenClaim := { program := "ytjicfkmpgogppaa", sum := "9776f3abc9be0c13fa90b3c8b8cc4ea04f1d42188db9505221a1f5b6b9912648", func := "precinct/precinctlaw18.OpAsks", spec := "opAsks", inPlace := ["internal/abi.NoEscape"], unfollowed := true, recurses := true, apart := false }
def OpAsksSaid : Prop := opAsksRow.holds Try.pinned (OpenSpec.ofChange opAsksSpec)

/-- ITS FALSE NEIGHBOUR: 'it returns false'. Refute it at one input. -/
def opAsksWrong : ChangeSpec := { name := "opAsks", fn := fun _ => fun
  | [d] => { results := [.lit (.bool false)], args := [d] }
  | _ => none }
def OpAsksWrongFalsely : Prop := opAsksRow.holds Try.pinned (OpenSpec.ofChange opAsksWrong)

/- THE SECOND FORM. 'bulk': how many values and letters a reading holds, each counted each time it is reached (what is shared counts as often as it is met; a slice's spare places count too). A statement '..UptoSaid' is the law's where the arguments, and the package variables that the reading takes, are together of bulk at most 1048576: NARROWER than '..Said'. Prove '..Said' where nothing that the law and all that it calls make is longer than what came in: it says more and counts as full. Else prove '..UptoSaid'. A law counts once. -/
mutual
def uptoBulk {H : Type} : DataW H → Nat
  | .lit (.string bytes) => bytes.length + 1
  | .lit _ => 1
  | .nil => 1
  | .ptr d => uptoBulk d + 1
  | .slice elems spare => uptoBulkAll elems + uptoBulkAll spare + 1
  | .agg parts => uptoBulkAll parts + 1
  | .iface _ d => uptoBulk d + 1
  | .map entries => uptoBulkEntries entries + 1
  | .held _ => 1
def uptoBulkAll {H : Type} : List (DataW H) → Nat
  | [] => 0
  | d :: r => uptoBulk d + uptoBulkAll r
def uptoBulkEntries {H : Type} : List (Lit × DataW H) → Nat
  | [] => 0
  | x :: r => uptoBulkEntry x + uptoBulkEntries r
def uptoBulkEntry {H : Type} : Lit × DataW H → Nat
  | (.string bytes, d) => bytes.length + uptoBulk d + 1
  | (_, d) => uptoBulk d + 1
 end
def uptoSmall : (H : Type) → List (DataW H) → Bool := fun _ ds => decide (uptoBulkAll ds ≤ 1048576)
def OpenSpec.upto (s : _root_.Go.ChangeSpec) : _root_.Go.OpenSpec := { _root_.Go.OpenSpec.ofChange s with cond := some uptoSmall }

/-- 'precinctlaw12.GraphChecks', WHERE WHAT IT READS IS OF BULK AT MOST 1048576: true; the input reads as it did. -/
def graphChecksUptoRow : OpenClaim := { program := "ytjicfkmpgogppaa", sum := "9776f3abc9be0c13fa90b3c8b8cc4ea04f1d42188db9505221a1f5b6b9912648", func := "precinct/precinctlaw12.GraphChecks", spec := "graphChecks", unfollowed := true, recurses := true, apart := false, narrowed := true }
def GraphChecksUptoSaid : Prop := graphChecksUptoRow.holds Try.pinned (OpenSpec.upto graphChecksSpec)

/-- 'precinctlaw12.GraphMasks', WHERE WHAT IT READS IS OF BULK AT MOST 1048576: true; the input reads as it did. -/
def graphMasksUptoRow : OpenClaim := { program := "ytjicfkmpgogppaa", sum := "9776f3abc9be0c13fa90b3c8b8cc4ea04f1d42188db9505221a1f5b6b9912648", func := "precinct/precinctlaw12.GraphMasks", spec := "graphMasks", unfollowed := true, recurses := true, apart := false, narrowed := true }
def GraphMasksUptoSaid : Prop := graphMasksUptoRow.holds Try.pinned (OpenSpec.upto graphMasksSpec)

/-- 'precinctlaw12.GraphNames', WHERE WHAT IT READS IS OF BULK AT MOST 1048576: true; the input reads as it did. -/
def graphNamesUptoRow : OpenClaim := { program := "ytjicfkmpgogppaa", sum := "9776f3abc9be0c13fa90b3c8b8cc4ea04f1d42188db9505221a1f5b6b9912648", func := "precinct/precinctlaw12.GraphNames", spec := "graphNames", unfollowed := true, recurses := true, apart := false, narrowed := true }
def GraphNamesUptoSaid : Prop := graphNamesUptoRow.holds Try.pinned (OpenSpec.upto graphNamesSpec)

/-- 'precinctlaw12.GraphValues', WHERE WHAT IT READS IS OF BULK AT MOST 1048576: true; the input reads as it did. -/
def graphValuesUptoRow : OpenClaim := { program := "ytjicfkmpgogppaa", sum := "9776f3abc9be0c13fa90b3c8b8cc4ea04f1d42188db9505221a1f5b6b9912648", func := "precinct/precinctlaw12.GraphValues", spec := "graphValues", unfollowed := true, recurses := true, apart := false, narrowed := true }
def GraphValuesUptoSaid : Prop := graphValuesUptoRow.holds Try.pinned (OpenSpec.upto graphValuesSpec)

/-- 'precinctlaw12.GraphBack', WHERE WHAT IT READS IS OF BULK AT MOST 1048576: true; the input reads as it did. -/
def graphBackUptoRow : OpenClaim := { program := "ytjicfkmpgogppaa", sum := "9776f3abc9be0c13fa90b3c8b8cc4ea04f1d42188db9505221a1f5b6b9912648", func := "precinct/precinctlaw12.GraphBack", spec := "graphBack", unfollowed := true, recurses := true, apart := false, narrowed := true }
def GraphBackUptoSaid : Prop := graphBackUptoRow.holds Try.pinned (OpenSpec.upto graphBackSpec)

/-- 'precinctlaw18.OpPuts', WHERE WHAT IT READS IS OF BULK AT MOST 1048576: true; the input reads as it did. -/
def opPutsUptoRow : OpenClaim := { program := "ytjicfkmpgogppaa", sum := "9776f3abc9be0c13fa90b3c8b8cc4ea04f1d42188db9505221a1f5b6b9912648", func := "precinct/precinctlaw18.OpPuts", spec := "opPuts", inPlace := ["internal/abi.NoEscape"], unfollowed := true, recurses := true, apart := false, narrowed := true }
def OpPutsUptoSaid : Prop := opPutsUptoRow.holds Try.pinned (OpenSpec.upto opPutsSpec)

/-- 'precinctlaw18.OpAnswers', WHERE WHAT IT READS IS OF BULK AT MOST 1048576: true; the input reads as it did. -/
def opAnswersUptoRow : OpenClaim := { program := "ytjicfkmpgogppaa", sum := "9776f3abc9be0c13fa90b3c8b8cc4ea04f1d42188db9505221a1f5b6b9912648", func := "precinct/precinctlaw18.OpAnswers", spec := "opAnswers", inPlace := ["internal/abi.NoEscape"], unfollowed := true, recurses := true, apart := false, narrowed := true }
def OpAnswersUptoSaid : Prop := opAnswersUptoRow.holds Try.pinned (OpenSpec.upto opAnswersSpec)

/-- 'precinctlaw18.OpGets', WHERE WHAT IT READS IS OF BULK AT MOST 1048576: true; the input reads as it did. -/
def opGetsUptoRow : OpenClaim := { program := "ytjicfkmpgogppaa", sum := "9776f3abc9be0c13fa90b3c8b8cc4ea04f1d42188db9505221a1f5b6b9912648", func := "precinct/precinctlaw18.OpGets", spec := "opGets", inPlace := ["internal/abi.NoEscape"], unfollowed := true, recurses := true, apart := false, narrowed := true }
def OpGetsUptoSaid : Prop := opGetsUptoRow.holds Try.pinned (OpenSpec.upto opGetsSpec)

/-- 'precinctlaw18.OpBack', WHERE WHAT IT READS IS OF BULK AT MOST 1048576: true; the input reads as it did. -/
def opBackUptoRow : OpenClaim := { program := "ytjicfkmpgogppaa", sum := "9776f3abc9be0c13fa90b3c8b8cc4ea04f1d42188db9505221a1f5b6b9912648", func := "precinct/precinctlaw18.OpBack", spec := "opBack", inPlace := ["internal/abi.NoEscape"], unfollowed := true, recurses := true, apart := false, narrowed := true }
def OpBackUptoSaid : Prop := opBackUptoRow.holds Try.pinned (OpenSpec.upto opBackSpec)

/-- 'precinctlaw18.OpArgs', WHERE WHAT IT READS IS OF BULK AT MOST 1048576: true; the input reads as it did. -/
def opArgsUptoRow : OpenClaim := { program := "ytjicfkmpgogppaa", sum := "9776f3abc9be0c13fa90b3c8b8cc4ea04f1d42188db9505221a1f5b6b9912648", func := "precinct/precinctlaw18.OpArgs", spec := "opArgs", inPlace := ["internal/abi.NoEscape"], unfollowed := true, recurses := true, apart := false, narrowed := true }
def OpArgsUptoSaid : Prop := opArgsUptoRow.holds Try.pinned (OpenSpec.upto opArgsSpec)

/-- 'precinctlaw18.OpAsks', WHERE WHAT IT READS IS OF BULK AT MOST 1048576: true; the input reads as it did. -/
def opAsksUptoRow : OpenClaim := { program := "ytjicfkmpgogppaa", sum := "9776f3abc9be0c13fa90b3c8b8cc4ea04f1d42188db9505221a1f5b6b9912648", func := "precinct/precinctlaw18.OpAsks", spec := "opAsks", inPlace := ["internal/abi.NoEscape"], unfollowed := true, recurses := true, apart := false, narrowed := true }
def OpAsksUptoSaid : Prop := opAsksUptoRow.holds Try.pinned (OpenSpec.upto opAsksSpec)

end Rows
end Go.Proofs.Ytjicfkmpgogppaa
