-- Out of the words of the kit's print, cut down by a program of this session (wip/tools/cutwords.py) to what this seat's texts can name.
import Derived.Test.YtmkncihmgbjgnaaWN
namespace Go.Proofs.YtmkncihmgbjgnaaW.PrintWords
open Go.RowKit
namespace Kd
section
variable {α : Type} {d : Kd α} {W : World} {g n : Nat} {S ok : Nat → Prop} {A : Option Addr} {ad : Addr} {xs : List α}
end
end Kd
end Go.Proofs.YtmkncihmgbjgnaaW.PrintWords
