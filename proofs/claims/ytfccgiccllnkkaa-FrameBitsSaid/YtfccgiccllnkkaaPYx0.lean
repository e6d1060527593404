-- printed by a program of this session out of the translation; see NOTES.md
import Derived.Test.YtfccgiccllnkkaaProg
import Derived.Below
import Derived.Deep.Draws
import Derived.Deep.AppendLies
import Derived.Maps.AppendAt
import Derived.OwnWalk
import Derived.Laws.BytesArg
import Derived.Laws.MakeOwn
import Derived.Laws.OwnMore
import Derived.Deep.OwnRows
import Derived.Tactics
import Derived.Lib.ConvBytes
import Derived.Laws.Slices
import Derived.WalkKit
import Derived.KernelRfl
import Derived.RowKit3
import Derived.Deep.LoopGhost
import Derived.Deep.QuietTactic
import Derived.BigQuiet
import Derived.WideLaws
import Derived.Deep.DeepCutAuto
import Derived.Deep.CutBlock
import Derived.Deep.RegionHeld3
import Derived.Laws.Rows
import Derived.Lib.AppendStr
import Derived.ArgAppend
import Derived.Laws.IdiomCopy
import Derived.OrdersHeld
import Derived.Laws.BitsLemmas
import Derived.RowKit
import Derived.Lib.LazyBuf
import Derived.Test.YtfccgiccllnkkaaWWords
import Derived.Test.YtfccgiccllnkkaaWLast
import Derived.Test.YtfccgiccllnkkaaWTab
import Derived.Test.YtfccgiccllnkkaaWFour
import Derived.Test.YtfccgiccllnkkaaWQPut
import Derived.Test.YtfccgiccllnkkaaWApart
import Derived.Test.YtfccgiccllnkkaaWArr
import Derived.Test.YtfccgiccllnkkaaWZeros
import Derived.Test.YtfccgiccllnkkaaWFoot
import Derived.Test.YtfccgiccllnkkaaWKept
import Derived.Test.YtfccgiccllnkkaaWShare
import Derived.Test.YtfccgiccllnkkaaWN
import Derived.Test.YtfccgiccllnkkaaWFootNe
import Derived.Test.YtfccgiccllnkkaaWAt
import Derived.Test.YtfccgiccllnkkaaWEqStruct
import Derived.Test.YtfccgiccllnkkaaWRepsOne
import Derived.Test.YtfccgiccllnkkaaWInv
import Derived.Test.YtfccgiccllnkkaaWInvWords
import Derived.Test.YtfccgiccllnkkaaWGuard
import Derived.Test.YtfccgiccllnkkaaWNEv
import Derived.Test.YtfccgiccllnkkaaWMore
namespace Go.Proofs.Ytfccgiccllnkkaa.PY
open Go.RowKit Go.Proofs.YtfccgiccllnkkaaW.PrintWords Go.Proofs.YtfccgiccllnkkaaW.PrintLast Go.Proofs.YtfccgiccllnkkaaW.PrintMore
attribute [local go_sem] max2_int min2_int max_two min_two max_three min_three max_four min_four   -- for this text's walks alone
set_option linter.unusedVariables false
set_option linter.unusedSimpArgs false



def errW : Option Int → Value
  | none => .nilIface
  | some c => .iface 0 (.int .i64 c)
theorem errW_none : errW none = .nilIface := rfl
theorem errW_some (c : Int) : errW (some c) = .iface 0 (.int .i64 c) := rfl

theorem info5 : (Try.prog.info? 5).map (fun i => (i.zero, i.size, i.bytes)) = some (some (.int .u8 0), 1, 1) := by kernel_rfl
theorem info9 : (Try.prog.info? 9).map (fun i => (i.zero, i.size, i.bytes)) = some (some (.string ⟨#[]⟩), 1, 16) := by kernel_rfl
-- the values' own types

end Go.Proofs.Ytfccgiccllnkkaa.PY
