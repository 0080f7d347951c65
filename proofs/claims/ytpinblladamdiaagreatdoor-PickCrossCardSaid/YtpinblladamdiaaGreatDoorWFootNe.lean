-- Out of the kit's print (print.sh), less what this claim does not use. Not trusted: Lean checks it.
import Derived.Test.YtpinblladamdiaaGreatDoorWN
/-! ### 52. A row that stays read whatever happens to a block (a set of blocks) doesn't lie there -/
namespace Go.Proofs.YtpinblladamdiaaGreatDoorW.PrintWords
open Go.RowKit
namespace Kd
section
variable {α : Type} {d : Kd α} {W : World} {g n : Nat} {S ok : Nat → Prop} {A : Option Addr} {ad : Addr} {xs : List α}
end
end Kd
end Go.Proofs.YtpinblladamdiaaGreatDoorW.PrintWords
