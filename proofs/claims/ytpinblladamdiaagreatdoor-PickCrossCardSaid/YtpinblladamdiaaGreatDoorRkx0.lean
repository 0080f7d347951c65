-- Written for this claim by pg.py, a program of this session's, out of the kit's printer. Not trusted: Lean checks it.
import Derived.Test.YtpinblladamdiaaGreatDoorProg
import Derived.Below
import Derived.Deep.Draws
import Derived.Deep.AppendLies
import Derived.Maps.AppendAt
import Derived.OwnWalk
import Derived.Laws.BytesArg
import Derived.Laws.MakeOwn
import Derived.Laws.OwnMore
import Derived.Deep.OwnRows
import Derived.Tactics
import Derived.Lib.ConvBytes
import Derived.Laws.Slices
import Derived.WalkKit
import Derived.KernelRfl
import Derived.RowKit3
import Derived.Deep.LoopGhost
import Derived.Deep.QuietTactic
import Derived.BigQuiet
import Derived.WideLaws
import Derived.Deep.DeepCutAuto
import Derived.Deep.CutBlock
import Derived.Deep.RegionHeld3
import Derived.Laws.Rows
import Derived.Lib.AppendStr
import Derived.ArgAppend
import Derived.Laws.IdiomCopy
import Derived.OrdersHeld
import Derived.Laws.BitsLemmas
import Derived.RowKit
import Derived.Test.YtpinblladamdiaaGreatDoorWWords
import Derived.Test.YtpinblladamdiaaGreatDoorWLast
import Derived.Test.YtpinblladamdiaaGreatDoorWTab
import Derived.Test.YtpinblladamdiaaGreatDoorWFour
import Derived.Test.YtpinblladamdiaaGreatDoorWQPut
import Derived.Test.YtpinblladamdiaaGreatDoorWApart
import Derived.Test.YtpinblladamdiaaGreatDoorWArr
import Derived.Test.YtpinblladamdiaaGreatDoorWZeros
import Derived.Test.YtpinblladamdiaaGreatDoorWFoot
import Derived.Test.YtpinblladamdiaaGreatDoorWKept
import Derived.Test.YtpinblladamdiaaGreatDoorWShare
import Derived.Test.YtpinblladamdiaaGreatDoorWN
import Derived.Test.YtpinblladamdiaaGreatDoorWFootNe
import Derived.Test.YtpinblladamdiaaGreatDoorWAt
import Derived.Test.YtpinblladamdiaaGreatDoorWEqStruct
import Derived.Test.YtpinblladamdiaaGreatDoorWRepsOne
import Derived.Test.YtpinblladamdiaaGreatDoorWInv
import Derived.Test.YtpinblladamdiaaGreatDoorWInvWords
import Derived.Test.YtpinblladamdiaaGreatDoorWGuard
import Derived.Test.YtpinblladamdiaaGreatDoorWNEv
import Derived.Test.YtpinblladamdiaaGreatDoorWMore
namespace Go.Proofs.YtpinblladamdiaaGreatDoor.Rk
open Go.RowKit Go.Proofs.YtpinblladamdiaaGreatDoorW.PrintWords Go.Proofs.YtpinblladamdiaaGreatDoorW.PrintLast Go.Proofs.YtpinblladamdiaaGreatDoorW.PrintMore
attribute [local go_sem] max2_int min2_int max_two min_two max_three min_three max_four min_four   -- for this text's walks alone
set_option linter.unusedVariables false
set_option linter.unusedSimpArgs false
def errW : Option Int → Value
  | none => .nilIface
  | some c => .iface 0 (.int .i64 c)
theorem errW_none : errW none = .nilIface := rfl
theorem errW_some (c : Int) : errW (some c) = .iface 0 (.int .i64 c) := rfl
theorem info93 : (Tryz.prog.info? 93).map (fun i => (i.zero, i.size, i.bytes)) = some (some (.int .u32 0), 1, 4) := by kernel_rfl
-- the values' own types
end Go.Proofs.YtpinblladamdiaaGreatDoor.Rk
