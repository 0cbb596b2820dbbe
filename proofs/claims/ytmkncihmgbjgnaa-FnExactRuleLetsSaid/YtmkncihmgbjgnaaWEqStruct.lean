-- Out of the words of the kit's print, cut down by a program of this session (wip/tools/cutwords.py) to what this seat's texts can name.
import Derived.Test.YtmkncihmgbjgnaaWWords
import Derived.Laws.StructEq
namespace Go.Proofs.YtmkncihmgbjgnaaW.PrintWords
open Go.RowKit
section
variable {P : Program} {d : Nat} {xs ys : Array Value} {f : Field} {fs : List Field} {a b : Value} {r s : Bool} {w : World}
end
end Go.Proofs.YtmkncihmgbjgnaaW.PrintWords
