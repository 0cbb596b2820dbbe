-- Out of the words of the kit's print, cut down by a program of this session (wip/tools/cutwords.py) to what this seat's texts can name.
import Derived.Test.YtmkncihmgbjgnaaWInv
import Derived.Test.YtmkncihmgbjgnaaWFootNe
namespace Go.Proofs.YtmkncihmgbjgnaaW.PrintWords
open Go.RowKit
end Go.Proofs.YtmkncihmgbjgnaaW.PrintWords
namespace Go.Proofs.YtmkncihmgbjgnaaW.PrintLast
section
variable {ops : Array Oper} {a : Act} {o og : Oper} {g : Nat} {t : Tmp} {u : Bool}
end
end Go.Proofs.YtmkncihmgbjgnaaW.PrintLast
