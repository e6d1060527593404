/-
  No cell of these rows narrows 'for every input' (looked for: loops, veiled, ifaces, maps, wideKeys, modest, calm, conditions, laid).
  DERIVED. THE GIVEN ROWS OF THIS SEAT. 7 by the template 'for every input the law returns true; each argument reads behind the call as it read before'; 0 by the template 'total and deterministic' (their statements: YtelhajoedlaohaaTotals.lean).
  GIVEN WITH THE SEED: the statements are not yours to turn. If you find one false, say at which input.
  Laid BY PROGRAM, IN A SANDBOX (cutbox-rows.mjs): the forced cells as the released guide's own fill.sh prints them over the translation bfb3c99de0a69b3f… (all of the seat's roots in one cut). By AI agents, Wed Nov 11 2026. No macro, syntax, notation, axiom, sorry.
-/
import Derived.Test.YtelhajoedlaohaaChecked
import GoSem.Claim
import GoSem.ClaimJoined
import GoSem.ClaimMapViews
import Derived.JoinedTies
import Derived.KernelRfl
namespace Go.Proofs.Ytelhajoedlaohaa
/- THE CELL 'sum', in the pinned program and in every row, IS THE sha256 OF THE DUMP (.gsa) THAT YtelhajoedlaohaaProg.lean LOADS. Nothing in Lean hashes anything: it is a label: what it is worth is what the hold of that sum in a sandbox is worth. -/
noncomputable def Try.pinned : Pinned := { name := "ytelhajoedlaohaa", sum := "bfb3c99de0a69b3fccf6f3ad6d5b052766c8561ee82feed81acddf5484734607", checked := Try.checked }
namespace Rows
def none {H : Type} : Left H := { results := [], args := [] }

/-- 'precinctlaw05.MacSame': WHATEVER THE INPUT: true; the input reads as it did. -/
def macSameSpec : ChangeSpec := { name := "macSame", fn := fun _ => fun
  | [d1, d2, d3] => { results := [.lit (.bool true)], args := [d1, d2, d3] }
  | _ => none }
def macSameRow : OpenClaim := { program := "ytelhajoedlaohaa", sum := "bfb3c99de0a69b3fccf6f3ad6d5b052766c8561ee82feed81acddf5484734607", func := "precinct/precinctlaw05.MacSame", spec := "macSame", apart := false }
def MacSameSaid : Prop := macSameRow.holds Try.pinned (OpenSpec.ofChange macSameSpec)

/-- ITS FALSE NEIGHBOUR: 'it returns false'. Refute it at one input. -/
def macSameWrong : ChangeSpec := { name := "macSame", fn := fun _ => fun
  | [d1, d2, d3] => { results := [.lit (.bool false)], args := [d1, d2, d3] }
  | _ => none }
def MacSameWrongFalsely : Prop := macSameRow.holds Try.pinned (OpenSpec.ofChange macSameWrong)

/-- 'precinctlaw14.NodeFinishes': WHATEVER THE INPUT: true; the input reads as it did. -/
def nodeFinishesSpec : ChangeSpec := { name := "nodeFinishes", fn := fun _ => fun
  | [d1, d2] => { results := [.lit (.bool true)], args := [d1, d2] }
  | _ => none }
def nodeFinishesRow : OpenClaim := { program := "ytelhajoedlaohaa", sum := "bfb3c99de0a69b3fccf6f3ad6d5b052766c8561ee82feed81acddf5484734607", func := "precinct/precinctlaw14.NodeFinishes", spec := "nodeFinishes", apart := false }
def NodeFinishesSaid : Prop := nodeFinishesRow.holds Try.pinned (OpenSpec.ofChange nodeFinishesSpec)

/-- ITS FALSE NEIGHBOUR: 'it returns false'. Refute it at one input. -/
def nodeFinishesWrong : ChangeSpec := { name := "nodeFinishes", fn := fun _ => fun
  | [d1, d2] => { results := [.lit (.bool false)], args := [d1, d2] }
  | _ => none }
def NodeFinishesWrongFalsely : Prop := nodeFinishesRow.holds Try.pinned (OpenSpec.ofChange nodeFinishesWrong)

/-- 'precinctlaw14.NodeExpires': WHATEVER THE INPUT: true; the input reads as it did. -/
def nodeExpiresSpec : ChangeSpec := { name := "nodeExpires", fn := fun _ => fun
  | [d1, d2] => { results := [.lit (.bool true)], args := [d1, d2] }
  | _ => none }
def nodeExpiresRow : OpenClaim := { program := "ytelhajoedlaohaa", sum := "bfb3c99de0a69b3fccf6f3ad6d5b052766c8561ee82feed81acddf5484734607", func := "precinct/precinctlaw14.NodeExpires", spec := "nodeExpires", apart := false }
def NodeExpiresSaid : Prop := nodeExpiresRow.holds Try.pinned (OpenSpec.ofChange nodeExpiresSpec)

/-- ITS FALSE NEIGHBOUR: 'it returns false'. Refute it at one input. -/
def nodeExpiresWrong : ChangeSpec := { name := "nodeExpires", fn := fun _ => fun
  | [d1, d2] => { results := [.lit (.bool false)], args := [d1, d2] }
  | _ => none }
def NodeExpiresWrongFalsely : Prop := nodeExpiresRow.holds Try.pinned (OpenSpec.ofChange nodeExpiresWrong)

/-- 'precinctlaw14.NodeEnds': WHATEVER THE INPUT: true; the input reads as it did. -/
def nodeEndsSpec : ChangeSpec := { name := "nodeEnds", fn := fun _ => fun
  | [d1, d2, d3] => { results := [.lit (.bool true)], args := [d1, d2, d3] }
  | _ => none }
def nodeEndsRow : OpenClaim := { program := "ytelhajoedlaohaa", sum := "bfb3c99de0a69b3fccf6f3ad6d5b052766c8561ee82feed81acddf5484734607", func := "precinct/precinctlaw14.NodeEnds", spec := "nodeEnds", apart := false }
def NodeEndsSaid : Prop := nodeEndsRow.holds Try.pinned (OpenSpec.ofChange nodeEndsSpec)

/-- ITS FALSE NEIGHBOUR: 'it returns false'. Refute it at one input. -/
def nodeEndsWrong : ChangeSpec := { name := "nodeEnds", fn := fun _ => fun
  | [d1, d2, d3] => { results := [.lit (.bool false)], args := [d1, d2, d3] }
  | _ => none }
def NodeEndsWrongFalsely : Prop := nodeEndsRow.holds Try.pinned (OpenSpec.ofChange nodeEndsWrong)

/-- 'precinctlaw14.NodeSteps': WHATEVER THE INPUT: true; the input reads as it did. -/
def nodeStepsSpec : ChangeSpec := { name := "nodeSteps", fn := fun _ => fun
  | [d1, d2] => { results := [.lit (.bool true)], args := [d1, d2] }
  | _ => none }
def nodeStepsRow : OpenClaim := { program := "ytelhajoedlaohaa", sum := "bfb3c99de0a69b3fccf6f3ad6d5b052766c8561ee82feed81acddf5484734607", func := "precinct/precinctlaw14.NodeSteps", spec := "nodeSteps", apart := false }
def NodeStepsSaid : Prop := nodeStepsRow.holds Try.pinned (OpenSpec.ofChange nodeStepsSpec)

/-- ITS FALSE NEIGHBOUR: 'it returns false'. Refute it at one input. -/
def nodeStepsWrong : ChangeSpec := { name := "nodeSteps", fn := fun _ => fun
  | [d1, d2] => { results := [.lit (.bool false)], args := [d1, d2] }
  | _ => none }
def NodeStepsWrongFalsely : Prop := nodeStepsRow.holds Try.pinned (OpenSpec.ofChange nodeStepsWrong)

/-- 'precinctlaw14.NodeOver': WHATEVER THE INPUT: true; the input reads as it did. -/
def nodeOverSpec : ChangeSpec := { name := "nodeOver", fn := fun _ => fun
  | [d1, d2] => { results := [.lit (.bool true)], args := [d1, d2] }
  | _ => none }
def nodeOverRow : OpenClaim := { program := "ytelhajoedlaohaa", sum := "bfb3c99de0a69b3fccf6f3ad6d5b052766c8561ee82feed81acddf5484734607", func := "precinct/precinctlaw14.NodeOver", spec := "nodeOver", apart := false }
def NodeOverSaid : Prop := nodeOverRow.holds Try.pinned (OpenSpec.ofChange nodeOverSpec)

/-- ITS FALSE NEIGHBOUR: 'it returns false'. Refute it at one input. -/
def nodeOverWrong : ChangeSpec := { name := "nodeOver", fn := fun _ => fun
  | [d1, d2] => { results := [.lit (.bool false)], args := [d1, d2] }
  | _ => none }
def NodeOverWrongFalsely : Prop := nodeOverRow.holds Try.pinned (OpenSpec.ofChange nodeOverWrong)

/-- 'precinctlaw04.ShaPads': WHATEVER THE INPUT: true; the input reads as it did. -/
def shaPadsSpec : ChangeSpec := { name := "shaPads", fn := fun _ => fun
  | [d1, d2] => { results := [.lit (.bool true)], args := [d1, d2] }
  | _ => none }
def shaPadsRow : OpenClaim := { program := "ytelhajoedlaohaa", sum := "bfb3c99de0a69b3fccf6f3ad6d5b052766c8561ee82feed81acddf5484734607", func := "precinct/precinctlaw04.ShaPads", spec := "shaPads", inPlace := ["internal/abi.NoEscape", "internal/bytealg.MakeNoZero"], apart := false }
def ShaPadsSaid : Prop := shaPadsRow.holds Try.pinned (OpenSpec.ofChange shaPadsSpec)

/-- ITS FALSE NEIGHBOUR: 'it returns false'. Refute it at one input. -/
def shaPadsWrong : ChangeSpec := { name := "shaPads", fn := fun _ => fun
  | [d1, d2] => { results := [.lit (.bool false)], args := [d1, d2] }
  | _ => none }
def ShaPadsWrongFalsely : Prop := shaPadsRow.holds Try.pinned (OpenSpec.ofChange shaPadsWrong)

/- THE SECOND FORM. 'bulk': how many values and letters a reading holds, each counted each time it is reached (what is shared counts as often as it is met; a slice's spare places count too). A statement '..UptoSaid' is the law's where the arguments, and the package variables that the reading takes, are together of bulk at most 1048576: NARROWER than '..Said'. Prove '..Said' where nothing that the law and all that it calls make is longer than what came in: it says more and counts as full. Else prove '..UptoSaid'. A law counts once. -/
mutual
def uptoBulk {H : Type} : DataW H → Nat
  | .lit (.string bytes) => bytes.length + 1
  | .lit _ => 1
  | .nil => 1
  | .ptr d => uptoBulk d + 1
  | .slice elems spare => uptoBulkAll elems + uptoBulkAll spare + 1
  | .agg parts => uptoBulkAll parts + 1
  | .iface _ d => uptoBulk d + 1
  | .map entries => uptoBulkEntries entries + 1
  | .held _ => 1
def uptoBulkAll {H : Type} : List (DataW H) → Nat
  | [] => 0
  | d :: r => uptoBulk d + uptoBulkAll r
def uptoBulkEntries {H : Type} : List (Lit × DataW H) → Nat
  | [] => 0
  | x :: r => uptoBulkEntry x + uptoBulkEntries r
def uptoBulkEntry {H : Type} : Lit × DataW H → Nat
  | (.string bytes, d) => bytes.length + uptoBulk d + 1
  | (_, d) => uptoBulk d + 1
 end
def uptoSmall : (H : Type) → List (DataW H) → Bool := fun _ ds => decide (uptoBulkAll ds ≤ 1048576)
def OpenSpec.upto (s : _root_.Go.ChangeSpec) : _root_.Go.OpenSpec := { _root_.Go.OpenSpec.ofChange s with cond := some uptoSmall }

/-- 'precinctlaw05.MacSame', WHERE WHAT IT READS IS OF BULK AT MOST 1048576: true; the input reads as it did. -/
def macSameUptoRow : OpenClaim := { program := "ytelhajoedlaohaa", sum := "bfb3c99de0a69b3fccf6f3ad6d5b052766c8561ee82feed81acddf5484734607", func := "precinct/precinctlaw05.MacSame", spec := "macSame", apart := false, narrowed := true }
def MacSameUptoSaid : Prop := macSameUptoRow.holds Try.pinned (OpenSpec.upto macSameSpec)

/-- 'precinctlaw14.NodeFinishes', WHERE WHAT IT READS IS OF BULK AT MOST 1048576: true; the input reads as it did. -/
def nodeFinishesUptoRow : OpenClaim := { program := "ytelhajoedlaohaa", sum := "bfb3c99de0a69b3fccf6f3ad6d5b052766c8561ee82feed81acddf5484734607", func := "precinct/precinctlaw14.NodeFinishes", spec := "nodeFinishes", apart := false, narrowed := true }
def NodeFinishesUptoSaid : Prop := nodeFinishesUptoRow.holds Try.pinned (OpenSpec.upto nodeFinishesSpec)

/-- 'precinctlaw14.NodeExpires', WHERE WHAT IT READS IS OF BULK AT MOST 1048576: true; the input reads as it did. -/
def nodeExpiresUptoRow : OpenClaim := { program := "ytelhajoedlaohaa", sum := "bfb3c99de0a69b3fccf6f3ad6d5b052766c8561ee82feed81acddf5484734607", func := "precinct/precinctlaw14.NodeExpires", spec := "nodeExpires", apart := false, narrowed := true }
def NodeExpiresUptoSaid : Prop := nodeExpiresUptoRow.holds Try.pinned (OpenSpec.upto nodeExpiresSpec)

/-- 'precinctlaw14.NodeEnds', WHERE WHAT IT READS IS OF BULK AT MOST 1048576: true; the input reads as it did. -/
def nodeEndsUptoRow : OpenClaim := { program := "ytelhajoedlaohaa", sum := "bfb3c99de0a69b3fccf6f3ad6d5b052766c8561ee82feed81acddf5484734607", func := "precinct/precinctlaw14.NodeEnds", spec := "nodeEnds", apart := false, narrowed := true }
def NodeEndsUptoSaid : Prop := nodeEndsUptoRow.holds Try.pinned (OpenSpec.upto nodeEndsSpec)

/-- 'precinctlaw14.NodeSteps', WHERE WHAT IT READS IS OF BULK AT MOST 1048576: true; the input reads as it did. -/
def nodeStepsUptoRow : OpenClaim := { program := "ytelhajoedlaohaa", sum := "bfb3c99de0a69b3fccf6f3ad6d5b052766c8561ee82feed81acddf5484734607", func := "precinct/precinctlaw14.NodeSteps", spec := "nodeSteps", apart := false, narrowed := true }
def NodeStepsUptoSaid : Prop := nodeStepsUptoRow.holds Try.pinned (OpenSpec.upto nodeStepsSpec)

/-- 'precinctlaw14.NodeOver', WHERE WHAT IT READS IS OF BULK AT MOST 1048576: true; the input reads as it did. -/
def nodeOverUptoRow : OpenClaim := { program := "ytelhajoedlaohaa", sum := "bfb3c99de0a69b3fccf6f3ad6d5b052766c8561ee82feed81acddf5484734607", func := "precinct/precinctlaw14.NodeOver", spec := "nodeOver", apart := false, narrowed := true }
def NodeOverUptoSaid : Prop := nodeOverUptoRow.holds Try.pinned (OpenSpec.upto nodeOverSpec)

/-- 'precinctlaw04.ShaPads', WHERE WHAT IT READS IS OF BULK AT MOST 1048576: true; the input reads as it did. -/
def shaPadsUptoRow : OpenClaim := { program := "ytelhajoedlaohaa", sum := "bfb3c99de0a69b3fccf6f3ad6d5b052766c8561ee82feed81acddf5484734607", func := "precinct/precinctlaw04.ShaPads", spec := "shaPads", inPlace := ["internal/abi.NoEscape", "internal/bytealg.MakeNoZero"], apart := false, narrowed := true }
def ShaPadsUptoSaid : Prop := shaPadsUptoRow.holds Try.pinned (OpenSpec.upto shaPadsSpec)

end Rows
end Go.Proofs.Ytelhajoedlaohaa
