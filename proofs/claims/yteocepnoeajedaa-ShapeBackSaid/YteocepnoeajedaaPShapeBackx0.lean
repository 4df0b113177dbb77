/- The functions that the law ShapeBack reaches, as Lean functions, and that each call of the Go function does what its Lean function says, wherever that one answers. Written by a program of mine over the print of the kit; Lean checks it. -/
import Derived.Test.YteocepnoeajedaaProg
import Derived.Below
import Derived.Deep.Draws
import Derived.Deep.AppendLies
import Derived.Maps.AppendAt
import Derived.OwnWalk
import Derived.Laws.BytesArg
import Derived.Laws.MakeOwn
import Derived.Laws.OwnMore
import Derived.Deep.OwnRows
import Derived.Tactics
import Derived.Lib.ConvBytes
import Derived.Laws.Slices
import Derived.WalkKit
import Derived.KernelRfl
import Derived.RowKit3
import Derived.Deep.LoopGhost
import Derived.Deep.QuietTactic
import Derived.BigQuiet
import Derived.WideLaws
import Derived.Deep.DeepCutAuto
import Derived.Deep.CutBlock
import Derived.Deep.RegionHeld3
import Derived.Laws.Rows
import Derived.Lib.AppendStr
import Derived.ArgAppend
import Derived.Laws.IdiomCopy
import Derived.OrdersHeld
import Derived.Laws.BitsLemmas
import Derived.RowKit
import Derived.Lib.SliceRun
import Derived.Test.YteocepnoeajedaaWWords
import Derived.Test.YteocepnoeajedaaWLast
import Derived.Test.YteocepnoeajedaaWTab
import Derived.Test.YteocepnoeajedaaWFour
import Derived.Test.YteocepnoeajedaaWQPut
import Derived.Test.YteocepnoeajedaaWApart
import Derived.Test.YteocepnoeajedaaWArr
import Derived.Test.YteocepnoeajedaaWZeros
import Derived.Test.YteocepnoeajedaaWFoot
import Derived.Test.YteocepnoeajedaaWKept
import Derived.Test.YteocepnoeajedaaWShare
import Derived.Test.YteocepnoeajedaaWN
import Derived.Test.YteocepnoeajedaaWFootNe
import Derived.Test.YteocepnoeajedaaWAt
import Derived.Test.YteocepnoeajedaaWEqStruct
import Derived.Test.YteocepnoeajedaaWRepsOne
import Derived.Test.YteocepnoeajedaaWInv
import Derived.Test.YteocepnoeajedaaWInvWords
import Derived.Test.YteocepnoeajedaaWGuard
import Derived.Test.YteocepnoeajedaaWNEv
import Derived.Test.YteocepnoeajedaaWMore
namespace Go.Proofs.Yteocepnoeajedaa.PShapeBack
open Go.RowKit Go.Proofs.YteocepnoeajedaaW.PrintWords Go.Proofs.YteocepnoeajedaaW.PrintLast Go.Proofs.YteocepnoeajedaaW.PrintMore
attribute [local go_sem] max2_int min2_int max_two min_two max_three min_three max_four min_four   -- for this text's walks alone
set_option linter.unusedVariables false
set_option linter.unusedSimpArgs false



def errW : Option Int → Value
  | none => .nilIface
  | some c => .iface 0 (.int .i64 c)
theorem errW_none : errW none = .nilIface := rfl
theorem errW_some (c : Int) : errW (some c) = .iface 0 (.int .i64 c) := rfl

theorem info3 : (Try.prog.info? 3).map (fun i => (i.zero, i.size, i.bytes)) = some (some (.int .i64 0), 1, 8) := by kernel_rfl
-- the values' own types

end Go.Proofs.Yteocepnoeajedaa.PShapeBack
