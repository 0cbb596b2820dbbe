-- Out of the words of the kit's print, cut down by a program of this session (wip/tools/cutwords.py) to what this seat's texts can name.
-- Cut down by a program of this session (wip/tools/prune.py) to what its claim can name.
import Derived.Test.YtmkncihmgbjgnaaWWords
import Derived.Test.YtmkncihmgbjgnaaWLast
namespace Go.Proofs.YtmkncihmgbjgnaaW.PrintWords
open Go.RowKit
namespace Kd
section
variable {α : Type} {d : Kd α} {e base g o n cap : Nat} {ok okp : Nat → Prop} {w W : World} {v : Value} {xs : List α}
end
section
variable {α : Type} {enc : α → Value} {h1 : ∀ x, (enc x).oneCell' = true} {e base g o n cap : Nat} {ok : Nat → Prop} {W : World} {xs : List α}
end
end Kd
end Go.Proofs.YtmkncihmgbjgnaaW.PrintWords
