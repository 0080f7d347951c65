-- Written for this claim by pg.py, a program of this session's, out of the kit's printer. Not trusted: Lean checks it.
import Derived.Test.YtojdheaolffabaaDoorProg
import Derived.Below
import Derived.Deep.Draws
import Derived.Deep.AppendLies
import Derived.Maps.AppendAt
import Derived.OwnWalk
import Derived.Laws.BytesArg
import Derived.Laws.MakeOwn
import Derived.Laws.OwnMore
import Derived.Deep.OwnRows
import Derived.Tactics
import Derived.Lib.ConvBytes
import Derived.Laws.Slices
import Derived.WalkKit
import Derived.KernelRfl
import Derived.RowKit3
import Derived.Deep.LoopGhost
import Derived.Deep.QuietTactic
import Derived.BigQuiet
import Derived.WideLaws
import Derived.Deep.DeepCutAuto
import Derived.Deep.CutBlock
import Derived.Deep.RegionHeld3
import Derived.Laws.Rows
import Derived.Lib.AppendStr
import Derived.ArgAppend
import Derived.Laws.IdiomCopy
import Derived.OrdersHeld
import Derived.Laws.BitsLemmas
import Derived.RowKit
import Derived.Test.YtojdheaolffabaaDoorWWords
import Derived.Test.YtojdheaolffabaaDoorWLast
import Derived.Test.YtojdheaolffabaaDoorWTab
import Derived.Test.YtojdheaolffabaaDoorWFour
import Derived.Test.YtojdheaolffabaaDoorWQPut
import Derived.Test.YtojdheaolffabaaDoorWApart
import Derived.Test.YtojdheaolffabaaDoorWArr
import Derived.Test.YtojdheaolffabaaDoorWZeros
import Derived.Test.YtojdheaolffabaaDoorWFoot
import Derived.Test.YtojdheaolffabaaDoorWKept
import Derived.Test.YtojdheaolffabaaDoorWShare
import Derived.Test.YtojdheaolffabaaDoorWN
import Derived.Test.YtojdheaolffabaaDoorWFootNe
import Derived.Test.YtojdheaolffabaaDoorWAt
import Derived.Test.YtojdheaolffabaaDoorWEqStruct
import Derived.Test.YtojdheaolffabaaDoorWRepsOne
import Derived.Test.YtojdheaolffabaaDoorWInv
import Derived.Test.YtojdheaolffabaaDoorWInvWords
import Derived.Test.YtojdheaolffabaaDoorWGuard
import Derived.Test.YtojdheaolffabaaDoorWNEv
import Derived.Test.YtojdheaolffabaaDoorWMore
import Derived.Test.YtojdheaolffabaaDoorFsGl
namespace Go.Proofs.YtojdheaolffabaaDoor.Fs
open Go.RowKit Go.Proofs.YtojdheaolffabaaDoorW.PrintWords Go.Proofs.YtojdheaolffabaaDoorW.PrintLast Go.Proofs.YtojdheaolffabaaDoorW.PrintMore
attribute [local go_sem] max2_int min2_int max_two min_two max_three min_three max_four min_four   -- for this text's walks alone
attribute [local go_sem] cat_eq ext_eq
set_option linter.unusedVariables false
set_option linter.unusedSimpArgs false



def errW : Option Int → Value
  | none => .nilIface
  | some c => .iface 36 (.int .i64 c)
theorem errW_none : errW none = .nilIface := rfl
theorem errW_some (c : Int) : errW (some c) = .iface 36 (.int .i64 c) := rfl

theorem info5 : (Tryd.prog.info? 5).map (fun i => (i.zero, i.size, i.bytes)) = some (some (.int .u8 0), 1, 1) := by kernel_rfl
-- the values' own types

end Go.Proofs.YtojdheaolffabaaDoor.Fs
