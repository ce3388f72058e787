-- Written by a program of this session (wip/pr.py) out of Lean's print of the translation; Lean checks it.
import Derived.Test.YtlhdkajflmpnbaaDoorProg
import Derived.Below
import Derived.Deep.Draws
import Derived.Deep.AppendLies
import Derived.Maps.AppendAt
import Derived.OwnWalk
import Derived.Laws.BytesArg
import Derived.Laws.MakeOwn
import Derived.Laws.OwnMore
import Derived.Deep.OwnRows
import Derived.Tactics
import Derived.Lib.ConvBytes
import Derived.Laws.Slices
import Derived.WalkKit
import Derived.KernelRfl
import Derived.RowKit3
import Derived.Deep.LoopGhost
import Derived.Deep.QuietTactic
import Derived.BigQuiet
import Derived.WideLaws
import Derived.Deep.DeepCutAuto
import Derived.Deep.CutBlock
import Derived.Deep.RegionHeld3
import Derived.Laws.Rows
import Derived.Lib.AppendStr
import Derived.ArgAppend
import Derived.Laws.IdiomCopy
import Derived.OrdersHeld
import Derived.Laws.BitsLemmas
import Derived.RowKit
import Derived.Shelf.Abstract
import Derived.StillTailTactics
import Derived.Laws.Cover3
import Derived.Shelf.Spec.SlicesInsert
import Derived.Lib.AppendZerosOnto
import Derived.Laws.CopyOwn
import Derived.Laws.NewBlocks
import Derived.Shelf.RegionOpenPlain
import Derived.Test.YtlhdkajflmpnbaaDoorWWords
import Derived.Test.YtlhdkajflmpnbaaDoorWLast
import Derived.Test.YtlhdkajflmpnbaaDoorWTab
import Derived.Test.YtlhdkajflmpnbaaDoorWFour
import Derived.Test.YtlhdkajflmpnbaaDoorWQPut
import Derived.Test.YtlhdkajflmpnbaaDoorWApart
import Derived.Test.YtlhdkajflmpnbaaDoorWArr
import Derived.Test.YtlhdkajflmpnbaaDoorWZeros
import Derived.Test.YtlhdkajflmpnbaaDoorWFoot
import Derived.Test.YtlhdkajflmpnbaaDoorWKept
import Derived.Test.YtlhdkajflmpnbaaDoorWShare
import Derived.Test.YtlhdkajflmpnbaaDoorWN
import Derived.Test.YtlhdkajflmpnbaaDoorWFootNe
import Derived.Test.YtlhdkajflmpnbaaDoorWAt
import Derived.Test.YtlhdkajflmpnbaaDoorWEqStruct
import Derived.Test.YtlhdkajflmpnbaaDoorWRepsOne
import Derived.Test.YtlhdkajflmpnbaaDoorWInv
import Derived.Test.YtlhdkajflmpnbaaDoorWInvWords
import Derived.Test.YtlhdkajflmpnbaaDoorWGuard
import Derived.Test.YtlhdkajflmpnbaaDoorWNEv
import Derived.Test.YtlhdkajflmpnbaaDoorWMore
namespace Go.Proofs.YtlhdkajflmpnbaaDoor.PF
open Go.RowKit Go.Proofs.YtlhdkajflmpnbaaDoorW.PrintWords Go.Proofs.YtlhdkajflmpnbaaDoorW.PrintLast Go.Proofs.YtlhdkajflmpnbaaDoorW.PrintMore
attribute [local go_sem] max2_int min2_int max_two min_two max_three min_three max_four min_four   -- for this text's walks alone
set_option linter.unusedVariables false
set_option linter.unusedSimpArgs false



def errW : Option Int → Value
  | none => .nilIface
  | some c => .iface 0 (.int .i64 c)
theorem errW_none : errW none = .nilIface := rfl
theorem errW_some (c : Int) : errW (some c) = .iface 0 (.int .i64 c) := rfl

theorem info3 : (Tryd.prog.info? 3).map (fun i => (i.zero, i.size, i.bytes)) = some (some (.int .i64 0), 1, 8) := by kernel_rfl
theorem info5 : (Tryd.prog.info? 5).map (fun i => (i.zero, i.size, i.bytes)) = some (some (.int .u8 0), 1, 1) := by kernel_rfl
-- the values' own types

end Go.Proofs.YtlhdkajflmpnbaaDoor.PF
