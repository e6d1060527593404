-- printed by a program of this session out of the translation; see NOTES.md
import Derived.Test.YtelhajoedlaohaaProg
import Derived.Below
import Derived.Deep.Draws
import Derived.Deep.AppendLies
import Derived.Maps.AppendAt
import Derived.OwnWalk
import Derived.Laws.BytesArg
import Derived.Laws.MakeOwn
import Derived.Laws.OwnMore
import Derived.Deep.OwnRows
import Derived.Tactics
import Derived.Lib.ConvBytes
import Derived.Laws.Slices
import Derived.WalkKit
import Derived.KernelRfl
import Derived.RowKit3
import Derived.Deep.LoopGhost
import Derived.Deep.QuietTactic
import Derived.BigQuiet
import Derived.WideLaws
import Derived.Deep.DeepCutAuto
import Derived.Deep.CutBlock
import Derived.Deep.RegionHeld3
import Derived.Laws.Rows
import Derived.Lib.AppendStr
import Derived.ArgAppend
import Derived.Laws.IdiomCopy
import Derived.OrdersHeld
import Derived.Laws.BitsLemmas
import Derived.RowKit
import Derived.Lib.LazyBuf
import Derived.Test.YtelhajoedlaohaaWWords
import Derived.Test.YtelhajoedlaohaaWLast
import Derived.Test.YtelhajoedlaohaaWTab
import Derived.Test.YtelhajoedlaohaaWFour
import Derived.Test.YtelhajoedlaohaaWQPut
import Derived.Test.YtelhajoedlaohaaWApart
import Derived.Test.YtelhajoedlaohaaWArr
import Derived.Test.YtelhajoedlaohaaWZeros
import Derived.Test.YtelhajoedlaohaaWFoot
import Derived.Test.YtelhajoedlaohaaWKept
import Derived.Test.YtelhajoedlaohaaWShare
import Derived.Test.YtelhajoedlaohaaWN
import Derived.Test.YtelhajoedlaohaaWFootNe
import Derived.Test.YtelhajoedlaohaaWAt
import Derived.Test.YtelhajoedlaohaaWEqStruct
import Derived.Test.YtelhajoedlaohaaWRepsOne
import Derived.Test.YtelhajoedlaohaaWInv
import Derived.Test.YtelhajoedlaohaaWInvWords
import Derived.Test.YtelhajoedlaohaaWGuard
import Derived.Test.YtelhajoedlaohaaWNEv
import Derived.Test.YtelhajoedlaohaaWMore
namespace Go.Proofs.Ytelhajoedlaohaa.PD
open Go.RowKit Go.Proofs.YtelhajoedlaohaaW.PrintWords Go.Proofs.YtelhajoedlaohaaW.PrintLast Go.Proofs.YtelhajoedlaohaaW.PrintMore
attribute [local go_sem] max2_int min2_int max_two min_two max_three min_three max_four min_four   -- for this text's walks alone
set_option linter.unusedVariables false
set_option linter.unusedSimpArgs false



def errW : Option Int → Value
  | none => .nilIface
  | some c => .iface 0 (.int .i64 c)
theorem errW_none : errW none = .nilIface := rfl
theorem errW_some (c : Int) : errW (some c) = .iface 0 (.int .i64 c) := rfl

theorem info5 : (Try.prog.info? 5).map (fun i => (i.zero, i.size, i.bytes)) = some (some (.int .u8 0), 1, 1) := by kernel_rfl
-- the values' own types

end Go.Proofs.Ytelhajoedlaohaa.PD
