-- Out of the kit's print (print.sh), less what this claim does not use. Not trusted: Lean checks it.
import Derived.Test.YtpinblladamdiaaGreatDoorWInv
import Derived.Test.YtpinblladamdiaaGreatDoorWFootNe
namespace Go.Proofs.YtpinblladamdiaaGreatDoorW.PrintWords
open Go.RowKit
end Go.Proofs.YtpinblladamdiaaGreatDoorW.PrintWords
namespace Go.Proofs.YtpinblladamdiaaGreatDoorW.PrintLast
section
variable {ops : Array Oper} {a : Act} {o og : Oper} {g : Nat} {t : Tmp} {u : Bool}
end
end Go.Proofs.YtpinblladamdiaaGreatDoorW.PrintLast
