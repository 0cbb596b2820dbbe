-- Out of the words of the kit's print, cut down by a program of this session (wip/tools/cutwords.py) to what this seat's texts can name.
import Derived.Test.YtmkncihmgbjgnaaWTab
namespace Go.Proofs.YtmkncihmgbjgnaaW.PrintLast
section
variable {P : Program} {ops : Array Oper} {Q : Exit → Act → World → Prop} {md : Region.Mode} {S : World → Prop} {ds : List Nat} {T : Bool × List (List Nat × List Nat)}
end
end Go.Proofs.YtmkncihmgbjgnaaW.PrintLast
