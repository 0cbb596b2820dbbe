/-
  No cell of these rows narrows 'for every input' (looked for: loops, veiled, ifaces, maps, wideKeys, modest, calm, conditions, laid).
  DERIVED. THE GIVEN ROWS OF THIS SEAT. 8 by the template 'for every input the law returns true; each argument reads behind the call as it read before'; 0 by the template 'total and deterministic' (their statements: YtheakfegchndcaaTotals.lean).
  GIVEN WITH THE SEED: the statements are not yours to turn. If you find one false, say at which input.
  Laid BY PROGRAM, IN A SANDBOX (cutbox-rows.mjs): the forced cells as the released guide's own fill.sh prints them over the translation 8469c2ff51021560… (all of the seat's roots in one cut). By AI agents, Wed Nov 11 2026. No macro, syntax, notation, axiom, sorry.
-/
import Derived.Test.YtheakfegchndcaaChecked
import GoSem.Claim
import GoSem.ClaimJoined
import GoSem.ClaimMapViews
import Derived.JoinedTies
import Derived.KernelRfl
namespace Go.Proofs.Ytheakfegchndcaa
/- THE CELL 'sum', in the pinned program and in every row, IS THE sha256 OF THE DUMP (.gsa) THAT YtheakfegchndcaaProg.lean LOADS. Nothing in Lean hashes anything: it is a label: what it is worth is what the hold of that sum in a sandbox is worth. -/
noncomputable def Try.pinned : Pinned := { name := "ytheakfegchndcaa", sum := "8469c2ff5102156003db00e6a7269d073de2bba0e4cb2e6268e2123720ff3e8b", checked := Try.checked }
namespace Rows
def none {H : Type} : Left H := { results := [], args := [] }

/-- 'laws.FnExactConstants': WHATEVER THE INPUT: true; the input reads as it did. -/
def fnExactConstantsSpec : ChangeSpec := { name := "fnExactConstants", fn := fun _ => fun
  | [] => { results := [.lit (.bool true)], args := [] }
  | _ => none }
def fnExactConstantsRow : OpenClaim := { program := "ytheakfegchndcaa", sum := "8469c2ff5102156003db00e6a7269d073de2bba0e4cb2e6268e2123720ff3e8b", func := "loop.example/pedlar/laws.FnExactConstants", spec := "fnExactConstants", apart := false }
def FnExactConstantsSaid : Prop := fnExactConstantsRow.holds Try.pinned (OpenSpec.ofChange fnExactConstantsSpec)

/-- ITS FALSE NEIGHBOUR: 'it returns false'. Refute it at one input. -/
def fnExactConstantsWrong : ChangeSpec := { name := "fnExactConstants", fn := fun _ => fun
  | [] => { results := [.lit (.bool false)], args := [] }
  | _ => none }
def FnExactConstantsWrongFalsely : Prop := fnExactConstantsRow.holds Try.pinned (OpenSpec.ofChange fnExactConstantsWrong)

/-- 'laws.FnForNone': WHATEVER THE INPUT: true; the input reads as it did. -/
def fnForNoneSpec : ChangeSpec := { name := "fnForNone", fn := fun _ => fun
  | [d] => { results := [.lit (.bool true)], args := [d] }
  | _ => none }
def fnForNoneRow : OpenClaim := { program := "ytheakfegchndcaa", sum := "8469c2ff5102156003db00e6a7269d073de2bba0e4cb2e6268e2123720ff3e8b", func := "loop.example/pedlar/laws.FnForNone", spec := "fnForNone", unfollowed := true, recurses := true, apart := false }
def FnForNoneSaid : Prop := fnForNoneRow.holds Try.pinned (OpenSpec.ofChange fnForNoneSpec)

/-- ITS FALSE NEIGHBOUR: 'it returns false'. Refute it at one input. -/
def fnForNoneWrong : ChangeSpec := { name := "fnForNone", fn := fun _ => fun
  | [d] => { results := [.lit (.bool false)], args := [d] }
  | _ => none }
def FnForNoneWrongFalsely : Prop := fnForNoneRow.holds Try.pinned (OpenSpec.ofChange fnForNoneWrong)

/-- 'laws.FnForTwo': WHATEVER THE INPUT: true; the input reads as it did. -/
def fnForTwoSpec : ChangeSpec := { name := "fnForTwo", fn := fun _ => fun
  | [d] => { results := [.lit (.bool true)], args := [d] }
  | _ => none }
def fnForTwoRow : OpenClaim := { program := "ytheakfegchndcaa", sum := "8469c2ff5102156003db00e6a7269d073de2bba0e4cb2e6268e2123720ff3e8b", func := "loop.example/pedlar/laws.FnForTwo", spec := "fnForTwo", unfollowed := true, recurses := true, apart := false }
def FnForTwoSaid : Prop := fnForTwoRow.holds Try.pinned (OpenSpec.ofChange fnForTwoSpec)

/-- ITS FALSE NEIGHBOUR: 'it returns false'. Refute it at one input. -/
def fnForTwoWrong : ChangeSpec := { name := "fnForTwo", fn := fun _ => fun
  | [d] => { results := [.lit (.bool false)], args := [d] }
  | _ => none }
def FnForTwoWrongFalsely : Prop := fnForTwoRow.holds Try.pinned (OpenSpec.ofChange fnForTwoWrong)

/-- 'laws.FnForAll': WHATEVER THE INPUT: true; the input reads as it did. -/
def fnForAllSpec : ChangeSpec := { name := "fnForAll", fn := fun _ => fun
  | [d] => { results := [.lit (.bool true)], args := [d] }
  | _ => none }
def fnForAllRow : OpenClaim := { program := "ytheakfegchndcaa", sum := "8469c2ff5102156003db00e6a7269d073de2bba0e4cb2e6268e2123720ff3e8b", func := "loop.example/pedlar/laws.FnForAll", spec := "fnForAll", unfollowed := true, recurses := true, apart := false }
def FnForAllSaid : Prop := fnForAllRow.holds Try.pinned (OpenSpec.ofChange fnForAllSpec)

/-- ITS FALSE NEIGHBOUR: 'it returns false'. Refute it at one input. -/
def fnForAllWrong : ChangeSpec := { name := "fnForAll", fn := fun _ => fun
  | [d] => { results := [.lit (.bool false)], args := [d] }
  | _ => none }
def FnForAllWrongFalsely : Prop := fnForAllRow.holds Try.pinned (OpenSpec.ofChange fnForAllWrong)

/-- 'laws.FnForOwn': WHATEVER THE INPUT: true; the input reads as it did. -/
def fnForOwnSpec : ChangeSpec := { name := "fnForOwn", fn := fun _ => fun
  | [d] => { results := [.lit (.bool true)], args := [d] }
  | _ => none }
def fnForOwnRow : OpenClaim := { program := "ytheakfegchndcaa", sum := "8469c2ff5102156003db00e6a7269d073de2bba0e4cb2e6268e2123720ff3e8b", func := "loop.example/pedlar/laws.FnForOwn", spec := "fnForOwn", unfollowed := true, recurses := true, apart := false }
def FnForOwnSaid : Prop := fnForOwnRow.holds Try.pinned (OpenSpec.ofChange fnForOwnSpec)

/-- ITS FALSE NEIGHBOUR: 'it returns false'. Refute it at one input. -/
def fnForOwnWrong : ChangeSpec := { name := "fnForOwn", fn := fun _ => fun
  | [d] => { results := [.lit (.bool false)], args := [d] }
  | _ => none }
def FnForOwnWrongFalsely : Prop := fnForOwnRow.holds Try.pinned (OpenSpec.ofChange fnForOwnWrong)

/-- 'laws.FnNoticeOk': WHATEVER THE INPUT: true; the input reads as it did. -/
def fnNoticeOkSpec : ChangeSpec := { name := "fnNoticeOk", fn := fun _ => fun
  | [d] => { results := [.lit (.bool true)], args := [d] }
  | _ => none }
def fnNoticeOkRow : OpenClaim := { program := "ytheakfegchndcaa", sum := "8469c2ff5102156003db00e6a7269d073de2bba0e4cb2e6268e2123720ff3e8b", func := "loop.example/pedlar/laws.FnNoticeOk", spec := "fnNoticeOk", apart := false }
def FnNoticeOkSaid : Prop := fnNoticeOkRow.holds Try.pinned (OpenSpec.ofChange fnNoticeOkSpec)

/-- ITS FALSE NEIGHBOUR: 'it returns false'. Refute it at one input. -/
def fnNoticeOkWrong : ChangeSpec := { name := "fnNoticeOk", fn := fun _ => fun
  | [d] => { results := [.lit (.bool false)], args := [d] }
  | _ => none }
def FnNoticeOkWrongFalsely : Prop := fnNoticeOkRow.holds Try.pinned (OpenSpec.ofChange fnNoticeOkWrong)

/-- 'laws.FnExactNoticeOk': WHATEVER THE INPUT: true; the input reads as it did. -/
def fnExactNoticeOkSpec : ChangeSpec := { name := "fnExactNoticeOk", fn := fun _ => fun
  | [d] => { results := [.lit (.bool true)], args := [d] }
  | _ => none }
def fnExactNoticeOkRow : OpenClaim := { program := "ytheakfegchndcaa", sum := "8469c2ff5102156003db00e6a7269d073de2bba0e4cb2e6268e2123720ff3e8b", func := "loop.example/pedlar/laws.FnExactNoticeOk", spec := "fnExactNoticeOk", apart := false }
def FnExactNoticeOkSaid : Prop := fnExactNoticeOkRow.holds Try.pinned (OpenSpec.ofChange fnExactNoticeOkSpec)

/-- ITS FALSE NEIGHBOUR: 'it returns false'. Refute it at one input. -/
def fnExactNoticeOkWrong : ChangeSpec := { name := "fnExactNoticeOk", fn := fun _ => fun
  | [d] => { results := [.lit (.bool false)], args := [d] }
  | _ => none }
def FnExactNoticeOkWrongFalsely : Prop := fnExactNoticeOkRow.holds Try.pinned (OpenSpec.ofChange fnExactNoticeOkWrong)

/-- 'laws.FnExactNoticeFor': WHATEVER THE INPUT: true; the input reads as it did. -/
def fnExactNoticeForSpec : ChangeSpec := { name := "fnExactNoticeFor", fn := fun _ => fun
  | [d1, d2] => { results := [.lit (.bool true)], args := [d1, d2] }
  | _ => none }
def fnExactNoticeForRow : OpenClaim := { program := "ytheakfegchndcaa", sum := "8469c2ff5102156003db00e6a7269d073de2bba0e4cb2e6268e2123720ff3e8b", func := "loop.example/pedlar/laws.FnExactNoticeFor", spec := "fnExactNoticeFor", unfollowed := true, recurses := true, apart := false }
def FnExactNoticeForSaid : Prop := fnExactNoticeForRow.holds Try.pinned (OpenSpec.ofChange fnExactNoticeForSpec)

/-- ITS FALSE NEIGHBOUR: 'it returns false'. Refute it at one input. -/
def fnExactNoticeForWrong : ChangeSpec := { name := "fnExactNoticeFor", fn := fun _ => fun
  | [d1, d2] => { results := [.lit (.bool false)], args := [d1, d2] }
  | _ => none }
def FnExactNoticeForWrongFalsely : Prop := fnExactNoticeForRow.holds Try.pinned (OpenSpec.ofChange fnExactNoticeForWrong)

/- THE SECOND FORM. 'bulk': how many values and letters a reading holds, each counted each time it is reached (what is shared counts as often as it is met; a slice's spare places count too). A statement '..UptoSaid' is the law's where the arguments, and the package variables that the reading takes, are together of bulk at most 1048576: NARROWER than '..Said'. Prove '..Said' where nothing that the law and all that it calls make is longer than what came in: it says more and counts as full. Else prove '..UptoSaid'. A law counts once. -/
mutual
def uptoBulk {H : Type} : DataW H → Nat
  | .lit (.string bytes) => bytes.length + 1
  | .lit _ => 1
  | .nil => 1
  | .ptr d => uptoBulk d + 1
  | .slice elems spare => uptoBulkAll elems + uptoBulkAll spare + 1
  | .agg parts => uptoBulkAll parts + 1
  | .iface _ d => uptoBulk d + 1
  | .map entries => uptoBulkEntries entries + 1
  | .held _ => 1
def uptoBulkAll {H : Type} : List (DataW H) → Nat
  | [] => 0
  | d :: r => uptoBulk d + uptoBulkAll r
def uptoBulkEntries {H : Type} : List (Lit × DataW H) → Nat
  | [] => 0
  | x :: r => uptoBulkEntry x + uptoBulkEntries r
def uptoBulkEntry {H : Type} : Lit × DataW H → Nat
  | (.string bytes, d) => bytes.length + uptoBulk d + 1
  | (_, d) => uptoBulk d + 1
 end
def uptoSmall : (H : Type) → List (DataW H) → Bool := fun _ ds => decide (uptoBulkAll ds ≤ 1048576)
def OpenSpec.upto (s : _root_.Go.ChangeSpec) : _root_.Go.OpenSpec := { _root_.Go.OpenSpec.ofChange s with cond := some uptoSmall }

/-- 'laws.FnExactConstants', WHERE WHAT IT READS IS OF BULK AT MOST 1048576: true; the input reads as it did. -/
def fnExactConstantsUptoRow : OpenClaim := { program := "ytheakfegchndcaa", sum := "8469c2ff5102156003db00e6a7269d073de2bba0e4cb2e6268e2123720ff3e8b", func := "loop.example/pedlar/laws.FnExactConstants", spec := "fnExactConstants", apart := false, narrowed := true }
def FnExactConstantsUptoSaid : Prop := fnExactConstantsUptoRow.holds Try.pinned (OpenSpec.upto fnExactConstantsSpec)

/-- 'laws.FnForNone', WHERE WHAT IT READS IS OF BULK AT MOST 1048576: true; the input reads as it did. -/
def fnForNoneUptoRow : OpenClaim := { program := "ytheakfegchndcaa", sum := "8469c2ff5102156003db00e6a7269d073de2bba0e4cb2e6268e2123720ff3e8b", func := "loop.example/pedlar/laws.FnForNone", spec := "fnForNone", unfollowed := true, recurses := true, apart := false, narrowed := true }
def FnForNoneUptoSaid : Prop := fnForNoneUptoRow.holds Try.pinned (OpenSpec.upto fnForNoneSpec)

/-- 'laws.FnForTwo', WHERE WHAT IT READS IS OF BULK AT MOST 1048576: true; the input reads as it did. -/
def fnForTwoUptoRow : OpenClaim := { program := "ytheakfegchndcaa", sum := "8469c2ff5102156003db00e6a7269d073de2bba0e4cb2e6268e2123720ff3e8b", func := "loop.example/pedlar/laws.FnForTwo", spec := "fnForTwo", unfollowed := true, recurses := true, apart := false, narrowed := true }
def FnForTwoUptoSaid : Prop := fnForTwoUptoRow.holds Try.pinned (OpenSpec.upto fnForTwoSpec)

/-- 'laws.FnForAll', WHERE WHAT IT READS IS OF BULK AT MOST 1048576: true; the input reads as it did. -/
def fnForAllUptoRow : OpenClaim := { program := "ytheakfegchndcaa", sum := "8469c2ff5102156003db00e6a7269d073de2bba0e4cb2e6268e2123720ff3e8b", func := "loop.example/pedlar/laws.FnForAll", spec := "fnForAll", unfollowed := true, recurses := true, apart := false, narrowed := true }
def FnForAllUptoSaid : Prop := fnForAllUptoRow.holds Try.pinned (OpenSpec.upto fnForAllSpec)

/-- 'laws.FnForOwn', WHERE WHAT IT READS IS OF BULK AT MOST 1048576: true; the input reads as it did. -/
def fnForOwnUptoRow : OpenClaim := { program := "ytheakfegchndcaa", sum := "8469c2ff5102156003db00e6a7269d073de2bba0e4cb2e6268e2123720ff3e8b", func := "loop.example/pedlar/laws.FnForOwn", spec := "fnForOwn", unfollowed := true, recurses := true, apart := false, narrowed := true }
def FnForOwnUptoSaid : Prop := fnForOwnUptoRow.holds Try.pinned (OpenSpec.upto fnForOwnSpec)

/-- 'laws.FnNoticeOk', WHERE WHAT IT READS IS OF BULK AT MOST 1048576: true; the input reads as it did. -/
def fnNoticeOkUptoRow : OpenClaim := { program := "ytheakfegchndcaa", sum := "8469c2ff5102156003db00e6a7269d073de2bba0e4cb2e6268e2123720ff3e8b", func := "loop.example/pedlar/laws.FnNoticeOk", spec := "fnNoticeOk", apart := false, narrowed := true }
def FnNoticeOkUptoSaid : Prop := fnNoticeOkUptoRow.holds Try.pinned (OpenSpec.upto fnNoticeOkSpec)

/-- 'laws.FnExactNoticeOk', WHERE WHAT IT READS IS OF BULK AT MOST 1048576: true; the input reads as it did. -/
def fnExactNoticeOkUptoRow : OpenClaim := { program := "ytheakfegchndcaa", sum := "8469c2ff5102156003db00e6a7269d073de2bba0e4cb2e6268e2123720ff3e8b", func := "loop.example/pedlar/laws.FnExactNoticeOk", spec := "fnExactNoticeOk", apart := false, narrowed := true }
def FnExactNoticeOkUptoSaid : Prop := fnExactNoticeOkUptoRow.holds Try.pinned (OpenSpec.upto fnExactNoticeOkSpec)

/-- 'laws.FnExactNoticeFor', WHERE WHAT IT READS IS OF BULK AT MOST 1048576: true; the input reads as it did. -/
def fnExactNoticeForUptoRow : OpenClaim := { program := "ytheakfegchndcaa", sum := "8469c2ff5102156003db00e6a7269d073de2bba0e4cb2e6268e2123720ff3e8b", func := "loop.example/pedlar/laws.FnExactNoticeFor", spec := "fnExactNoticeFor", unfollowed := true, recurses := true, apart := false, narrowed := true }
def FnExactNoticeForUptoSaid : Prop := fnExactNoticeForUptoRow.holds Try.pinned (OpenSpec.upto fnExactNoticeForSpec)

end Rows
end Go.Proofs.Ytheakfegchndcaa
