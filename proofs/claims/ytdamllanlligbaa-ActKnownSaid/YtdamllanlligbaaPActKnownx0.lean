/- The functions that the law ActKnown reaches, as Lean functions, and that each call of the Go function does what its Lean function says, wherever that one answers. Written by a program of mine over the print of the kit; Lean checks it. -/
import Derived.Test.YtdamllanlligbaaProg
import Derived.Below
import Derived.Deep.Draws
import Derived.Deep.AppendLies
import Derived.Maps.AppendAt
import Derived.OwnWalk
import Derived.Laws.BytesArg
import Derived.Laws.MakeOwn
import Derived.Laws.OwnMore
import Derived.Deep.OwnRows
import Derived.Tactics
import Derived.Lib.ConvBytes
import Derived.Laws.Slices
import Derived.WalkKit
import Derived.KernelRfl
import Derived.RowKit3
import Derived.Deep.LoopGhost
import Derived.Deep.QuietTactic
import Derived.BigQuiet
import Derived.WideLaws
import Derived.Deep.DeepCutAuto
import Derived.Deep.CutBlock
import Derived.Deep.RegionHeld3
import Derived.Laws.Rows
import Derived.Lib.AppendStr
import Derived.ArgAppend
import Derived.Laws.IdiomCopy
import Derived.OrdersHeld
import Derived.Laws.BitsLemmas
import Derived.RowKit
import Derived.Lib.SliceRun
import Derived.LoopN
import Derived.Outline
import Derived.WalkMore
import Derived.Deep.QuietTactic
import Derived.BigQuiet
import Derived.Test.YtdamllanlligbaaWWords
import Derived.Test.YtdamllanlligbaaWLast
import Derived.Test.YtdamllanlligbaaWTab
import Derived.Test.YtdamllanlligbaaWFour
import Derived.Test.YtdamllanlligbaaWQPut
import Derived.Test.YtdamllanlligbaaWApart
import Derived.Test.YtdamllanlligbaaWArr
import Derived.Test.YtdamllanlligbaaWZeros
import Derived.Test.YtdamllanlligbaaWFoot
import Derived.Test.YtdamllanlligbaaWKept
import Derived.Test.YtdamllanlligbaaWShare
import Derived.Test.YtdamllanlligbaaWN
import Derived.Test.YtdamllanlligbaaWFootNe
import Derived.Test.YtdamllanlligbaaWAt
import Derived.Test.YtdamllanlligbaaWEqStruct
import Derived.Test.YtdamllanlligbaaWRepsOne
import Derived.Test.YtdamllanlligbaaWInv
import Derived.Test.YtdamllanlligbaaWInvWords
import Derived.Test.YtdamllanlligbaaWGuard
import Derived.Test.YtdamllanlligbaaWNEv
import Derived.Test.YtdamllanlligbaaWMore
namespace Go.Proofs.Ytdamllanlligbaa.PActKnown
open Go.RowKit Go.Proofs.YtdamllanlligbaaW.PrintWords Go.Proofs.YtdamllanlligbaaW.PrintLast Go.Proofs.YtdamllanlligbaaW.PrintMore
attribute [local go_sem] max2_int min2_int max_two min_two max_three min_three max_four min_four   -- for this text's walks alone
set_option linter.unusedVariables false
set_option linter.unusedSimpArgs false



def errW : Option Int → Value
  | none => .nilIface
  | some c => .iface 0 (.int .i64 c)
theorem errW_none : errW none = .nilIface := rfl
theorem errW_some (c : Int) : errW (some c) = .iface 0 (.int .i64 c) := rfl

theorem info3 : (Try.prog.info? 3).map (fun i => (i.zero, i.size, i.bytes)) = some (some (.int .i64 0), 1, 8) := by kernel_rfl
theorem info22 : (Try.prog.info? 22).map (fun i => (i.zero, i.size, i.bytes)) = some (some (.int .i64 0), 1, 8) := by kernel_rfl
-- the values' own types

end Go.Proofs.Ytdamllanlligbaa.PActKnown
