/-
  No cell of these rows narrows 'for every input' (looked for: loops, veiled, ifaces, maps, wideKeys, modest, calm, conditions, laid).
  DERIVED. THE GIVEN ROWS OF THIS SEAT. 12 by the template 'for every input the law returns true; each argument reads behind the call as it read before'; 0 by the template 'total and deterministic' (their statements: YtpganphmapdkcaaTotals.lean).
  GIVEN WITH THE SEED: the statements are not yours to turn. If you find one false, say at which input.
  Laid BY PROGRAM, IN A SANDBOX (cutbox-rows.mjs): the forced cells as the released guide's own fill.sh prints them over the translation 33c056a0be27ec73… (all of the seat's roots in one cut). By AI agents, Wed Nov 11 2026. No macro, syntax, notation, axiom, sorry.
-/
import Derived.Test.YtpganphmapdkcaaChecked
import GoSem.Claim
import GoSem.ClaimJoined
import GoSem.ClaimMapViews
import Derived.JoinedTies
import Derived.KernelRfl
namespace Go.Proofs.Ytpganphmapdkcaa
/- THE CELL 'sum', in the pinned program and in every row, IS THE sha256 OF THE DUMP (.gsa) THAT YtpganphmapdkcaaProg.lean LOADS. Nothing in Lean hashes anything: it is a label: what it is worth is what the hold of that sum in a sandbox is worth. -/
noncomputable def Try.pinned : Pinned := { name := "ytpganphmapdkcaa", sum := "33c056a0be27ec730e389bd495d85b04b6a2247583ec4e6515a8052ba8c9bedb", checked := Try.checked }
namespace Rows
def none {H : Type} : Left H := { results := [], args := [] }

/-- 'laws.FnExactRuleOk': WHATEVER THE INPUT: true; the input reads as it did. -/
def fnExactRuleOkSpec : ChangeSpec := { name := "fnExactRuleOk", fn := fun _ => fun
  | [d] => { results := [.lit (.bool true)], args := [d] }
  | _ => none }
def fnExactRuleOkRow : OpenClaim := { program := "ytpganphmapdkcaa", sum := "33c056a0be27ec730e389bd495d85b04b6a2247583ec4e6515a8052ba8c9bedb", func := "loop.example/pedlar/laws.FnExactRuleOk", spec := "fnExactRuleOk", apart := false }
def FnExactRuleOkSaid : Prop := fnExactRuleOkRow.holds Try.pinned (OpenSpec.ofChange fnExactRuleOkSpec)

/-- ITS FALSE NEIGHBOUR: 'it returns false'. Refute it at one input. -/
def fnExactRuleOkWrong : ChangeSpec := { name := "fnExactRuleOk", fn := fun _ => fun
  | [d] => { results := [.lit (.bool false)], args := [d] }
  | _ => none }
def FnExactRuleOkWrongFalsely : Prop := fnExactRuleOkRow.holds Try.pinned (OpenSpec.ofChange fnExactRuleOkWrong)

/-- 'laws.FnPathCut': WHATEVER THE INPUT: true; the input reads as it did. -/
def fnPathCutSpec : ChangeSpec := { name := "fnPathCut", fn := fun _ => fun
  | [d1, d2] => { results := [.lit (.bool true)], args := [d1, d2] }
  | _ => none }
def fnPathCutRow : OpenClaim := { program := "ytpganphmapdkcaa", sum := "33c056a0be27ec730e389bd495d85b04b6a2247583ec4e6515a8052ba8c9bedb", func := "loop.example/pedlar/laws.FnPathCut", spec := "fnPathCut", apart := false }
def FnPathCutSaid : Prop := fnPathCutRow.holds Try.pinned (OpenSpec.ofChange fnPathCutSpec)

/-- ITS FALSE NEIGHBOUR: 'it returns false'. Refute it at one input. -/
def fnPathCutWrong : ChangeSpec := { name := "fnPathCut", fn := fun _ => fun
  | [d1, d2] => { results := [.lit (.bool false)], args := [d1, d2] }
  | _ => none }
def FnPathCutWrongFalsely : Prop := fnPathCutRow.holds Try.pinned (OpenSpec.ofChange fnPathCutWrong)

/-- 'laws.FnPathUp': WHATEVER THE INPUT: true; the input reads as it did. -/
def fnPathUpSpec : ChangeSpec := { name := "fnPathUp", fn := fun _ => fun
  | [d] => { results := [.lit (.bool true)], args := [d] }
  | _ => none }
def fnPathUpRow : OpenClaim := { program := "ytpganphmapdkcaa", sum := "33c056a0be27ec730e389bd495d85b04b6a2247583ec4e6515a8052ba8c9bedb", func := "loop.example/pedlar/laws.FnPathUp", spec := "fnPathUp", apart := false }
def FnPathUpSaid : Prop := fnPathUpRow.holds Try.pinned (OpenSpec.ofChange fnPathUpSpec)

/-- ITS FALSE NEIGHBOUR: 'it returns false'. Refute it at one input. -/
def fnPathUpWrong : ChangeSpec := { name := "fnPathUp", fn := fun _ => fun
  | [d] => { results := [.lit (.bool false)], args := [d] }
  | _ => none }
def FnPathUpWrongFalsely : Prop := fnPathUpRow.holds Try.pinned (OpenSpec.ofChange fnPathUpWrong)

/-- 'laws.FnRuleOk': WHATEVER THE INPUT: true; the input reads as it did. -/
def fnRuleOkSpec : ChangeSpec := { name := "fnRuleOk", fn := fun _ => fun
  | [d] => { results := [.lit (.bool true)], args := [d] }
  | _ => none }
def fnRuleOkRow : OpenClaim := { program := "ytpganphmapdkcaa", sum := "33c056a0be27ec730e389bd495d85b04b6a2247583ec4e6515a8052ba8c9bedb", func := "loop.example/pedlar/laws.FnRuleOk", spec := "fnRuleOk", apart := false }
def FnRuleOkSaid : Prop := fnRuleOkRow.holds Try.pinned (OpenSpec.ofChange fnRuleOkSpec)

/-- ITS FALSE NEIGHBOUR: 'it returns false'. Refute it at one input. -/
def fnRuleOkWrong : ChangeSpec := { name := "fnRuleOk", fn := fun _ => fun
  | [d] => { results := [.lit (.bool false)], args := [d] }
  | _ => none }
def FnRuleOkWrongFalsely : Prop := fnRuleOkRow.holds Try.pinned (OpenSpec.ofChange fnRuleOkWrong)

/-- 'laws.FnExactEscNorm': WHATEVER THE INPUT: true; the input reads as it did. -/
def fnExactEscNormSpec : ChangeSpec := { name := "fnExactEscNorm", fn := fun _ => fun
  | [d] => { results := [.lit (.bool true)], args := [d] }
  | _ => none }
def fnExactEscNormRow : OpenClaim := { program := "ytpganphmapdkcaa", sum := "33c056a0be27ec730e389bd495d85b04b6a2247583ec4e6515a8052ba8c9bedb", func := "loop.example/pedlar/laws.FnExactEscNorm", spec := "fnExactEscNorm", apart := false }
def FnExactEscNormSaid : Prop := fnExactEscNormRow.holds Try.pinned (OpenSpec.ofChange fnExactEscNormSpec)

/-- ITS FALSE NEIGHBOUR: 'it returns false'. Refute it at one input. -/
def fnExactEscNormWrong : ChangeSpec := { name := "fnExactEscNorm", fn := fun _ => fun
  | [d] => { results := [.lit (.bool false)], args := [d] }
  | _ => none }
def FnExactEscNormWrongFalsely : Prop := fnExactEscNormRow.holds Try.pinned (OpenSpec.ofChange fnExactEscNormWrong)

/-- 'laws.FnExactPathClean': WHATEVER THE INPUT: true; the input reads as it did. -/
def fnExactPathCleanSpec : ChangeSpec := { name := "fnExactPathClean", fn := fun _ => fun
  | [d] => { results := [.lit (.bool true)], args := [d] }
  | _ => none }
def fnExactPathCleanRow : OpenClaim := { program := "ytpganphmapdkcaa", sum := "33c056a0be27ec730e389bd495d85b04b6a2247583ec4e6515a8052ba8c9bedb", func := "loop.example/pedlar/laws.FnExactPathClean", spec := "fnExactPathClean", apart := false }
def FnExactPathCleanSaid : Prop := fnExactPathCleanRow.holds Try.pinned (OpenSpec.ofChange fnExactPathCleanSpec)

/-- ITS FALSE NEIGHBOUR: 'it returns false'. Refute it at one input. -/
def fnExactPathCleanWrong : ChangeSpec := { name := "fnExactPathClean", fn := fun _ => fun
  | [d] => { results := [.lit (.bool false)], args := [d] }
  | _ => none }
def FnExactPathCleanWrongFalsely : Prop := fnExactPathCleanRow.holds Try.pinned (OpenSpec.ofChange fnExactPathCleanWrong)

/-- 'laws.FnPathClean': WHATEVER THE INPUT: true; the input reads as it did. -/
def fnPathCleanSpec : ChangeSpec := { name := "fnPathClean", fn := fun _ => fun
  | [d] => { results := [.lit (.bool true)], args := [d] }
  | _ => none }
def fnPathCleanRow : OpenClaim := { program := "ytpganphmapdkcaa", sum := "33c056a0be27ec730e389bd495d85b04b6a2247583ec4e6515a8052ba8c9bedb", func := "loop.example/pedlar/laws.FnPathClean", spec := "fnPathClean", apart := false }
def FnPathCleanSaid : Prop := fnPathCleanRow.holds Try.pinned (OpenSpec.ofChange fnPathCleanSpec)

/-- ITS FALSE NEIGHBOUR: 'it returns false'. Refute it at one input. -/
def fnPathCleanWrong : ChangeSpec := { name := "fnPathClean", fn := fun _ => fun
  | [d] => { results := [.lit (.bool false)], args := [d] }
  | _ => none }
def FnPathCleanWrongFalsely : Prop := fnPathCleanRow.holds Try.pinned (OpenSpec.ofChange fnPathCleanWrong)

/-- 'laws.FnEscCut': WHATEVER THE INPUT: true; the input reads as it did. -/
def fnEscCutSpec : ChangeSpec := { name := "fnEscCut", fn := fun _ => fun
  | [d1, d2] => { results := [.lit (.bool true)], args := [d1, d2] }
  | _ => none }
def fnEscCutRow : OpenClaim := { program := "ytpganphmapdkcaa", sum := "33c056a0be27ec730e389bd495d85b04b6a2247583ec4e6515a8052ba8c9bedb", func := "loop.example/pedlar/laws.FnEscCut", spec := "fnEscCut", apart := false }
def FnEscCutSaid : Prop := fnEscCutRow.holds Try.pinned (OpenSpec.ofChange fnEscCutSpec)

/-- ITS FALSE NEIGHBOUR: 'it returns false'. Refute it at one input. -/
def fnEscCutWrong : ChangeSpec := { name := "fnEscCut", fn := fun _ => fun
  | [d1, d2] => { results := [.lit (.bool false)], args := [d1, d2] }
  | _ => none }
def FnEscCutWrongFalsely : Prop := fnEscCutRow.holds Try.pinned (OpenSpec.ofChange fnEscCutWrong)

/-- 'laws.FnEscNone': WHATEVER THE INPUT: true; the input reads as it did. -/
def fnEscNoneSpec : ChangeSpec := { name := "fnEscNone", fn := fun _ => fun
  | [d] => { results := [.lit (.bool true)], args := [d] }
  | _ => none }
def fnEscNoneRow : OpenClaim := { program := "ytpganphmapdkcaa", sum := "33c056a0be27ec730e389bd495d85b04b6a2247583ec4e6515a8052ba8c9bedb", func := "loop.example/pedlar/laws.FnEscNone", spec := "fnEscNone", apart := false }
def FnEscNoneSaid : Prop := fnEscNoneRow.holds Try.pinned (OpenSpec.ofChange fnEscNoneSpec)

/-- ITS FALSE NEIGHBOUR: 'it returns false'. Refute it at one input. -/
def fnEscNoneWrong : ChangeSpec := { name := "fnEscNone", fn := fun _ => fun
  | [d] => { results := [.lit (.bool false)], args := [d] }
  | _ => none }
def FnEscNoneWrongFalsely : Prop := fnEscNoneRow.holds Try.pinned (OpenSpec.ofChange fnEscNoneWrong)

/-- 'laws.FnEscPlain': WHATEVER THE INPUT: true; the input reads as it did. -/
def fnEscPlainSpec : ChangeSpec := { name := "fnEscPlain", fn := fun _ => fun
  | [d] => { results := [.lit (.bool true)], args := [d] }
  | _ => none }
def fnEscPlainRow : OpenClaim := { program := "ytpganphmapdkcaa", sum := "33c056a0be27ec730e389bd495d85b04b6a2247583ec4e6515a8052ba8c9bedb", func := "loop.example/pedlar/laws.FnEscPlain", spec := "fnEscPlain", apart := false }
def FnEscPlainSaid : Prop := fnEscPlainRow.holds Try.pinned (OpenSpec.ofChange fnEscPlainSpec)

/-- ITS FALSE NEIGHBOUR: 'it returns false'. Refute it at one input. -/
def fnEscPlainWrong : ChangeSpec := { name := "fnEscPlain", fn := fun _ => fun
  | [d] => { results := [.lit (.bool false)], args := [d] }
  | _ => none }
def FnEscPlainWrongFalsely : Prop := fnEscPlainRow.holds Try.pinned (OpenSpec.ofChange fnEscPlainWrong)

/-- 'laws.FnEscTwice': WHATEVER THE INPUT: true; the input reads as it did. -/
def fnEscTwiceSpec : ChangeSpec := { name := "fnEscTwice", fn := fun _ => fun
  | [d] => { results := [.lit (.bool true)], args := [d] }
  | _ => none }
def fnEscTwiceRow : OpenClaim := { program := "ytpganphmapdkcaa", sum := "33c056a0be27ec730e389bd495d85b04b6a2247583ec4e6515a8052ba8c9bedb", func := "loop.example/pedlar/laws.FnEscTwice", spec := "fnEscTwice", apart := false }
def FnEscTwiceSaid : Prop := fnEscTwiceRow.holds Try.pinned (OpenSpec.ofChange fnEscTwiceSpec)

/-- ITS FALSE NEIGHBOUR: 'it returns false'. Refute it at one input. -/
def fnEscTwiceWrong : ChangeSpec := { name := "fnEscTwice", fn := fun _ => fun
  | [d] => { results := [.lit (.bool false)], args := [d] }
  | _ => none }
def FnEscTwiceWrongFalsely : Prop := fnEscTwiceRow.holds Try.pinned (OpenSpec.ofChange fnEscTwiceWrong)

/-- 'laws.FnEscBytes': WHATEVER THE INPUT: true; the input reads as it did. -/
def fnEscBytesSpec : ChangeSpec := { name := "fnEscBytes", fn := fun _ => fun
  | [d] => { results := [.lit (.bool true)], args := [d] }
  | _ => none }
def fnEscBytesRow : OpenClaim := { program := "ytpganphmapdkcaa", sum := "33c056a0be27ec730e389bd495d85b04b6a2247583ec4e6515a8052ba8c9bedb", func := "loop.example/pedlar/laws.FnEscBytes", spec := "fnEscBytes", apart := false }
def FnEscBytesSaid : Prop := fnEscBytesRow.holds Try.pinned (OpenSpec.ofChange fnEscBytesSpec)

/-- ITS FALSE NEIGHBOUR: 'it returns false'. Refute it at one input. -/
def fnEscBytesWrong : ChangeSpec := { name := "fnEscBytes", fn := fun _ => fun
  | [d] => { results := [.lit (.bool false)], args := [d] }
  | _ => none }
def FnEscBytesWrongFalsely : Prop := fnEscBytesRow.holds Try.pinned (OpenSpec.ofChange fnEscBytesWrong)

/- THE SECOND FORM. 'bulk': how many values and letters a reading holds, each counted each time it is reached (what is shared counts as often as it is met; a slice's spare places count too). A statement '..UptoSaid' is the law's where the arguments, and the package variables that the reading takes, are together of bulk at most 1048576: NARROWER than '..Said'. Prove '..Said' where nothing that the law and all that it calls make is longer than what came in: it says more and counts as full. Else prove '..UptoSaid'. A law counts once. -/
mutual
def uptoBulk {H : Type} : DataW H → Nat
  | .lit (.string bytes) => bytes.length + 1
  | .lit _ => 1
  | .nil => 1
  | .ptr d => uptoBulk d + 1
  | .slice elems spare => uptoBulkAll elems + uptoBulkAll spare + 1
  | .agg parts => uptoBulkAll parts + 1
  | .iface _ d => uptoBulk d + 1
  | .map entries => uptoBulkEntries entries + 1
  | .held _ => 1
def uptoBulkAll {H : Type} : List (DataW H) → Nat
  | [] => 0
  | d :: r => uptoBulk d + uptoBulkAll r
def uptoBulkEntries {H : Type} : List (Lit × DataW H) → Nat
  | [] => 0
  | x :: r => uptoBulkEntry x + uptoBulkEntries r
def uptoBulkEntry {H : Type} : Lit × DataW H → Nat
  | (.string bytes, d) => bytes.length + uptoBulk d + 1
  | (_, d) => uptoBulk d + 1
 end
def uptoSmall : (H : Type) → List (DataW H) → Bool := fun _ ds => decide (uptoBulkAll ds ≤ 1048576)
def OpenSpec.upto (s : _root_.Go.ChangeSpec) : _root_.Go.OpenSpec := { _root_.Go.OpenSpec.ofChange s with cond := some uptoSmall }

/-- 'laws.FnExactRuleOk', WHERE WHAT IT READS IS OF BULK AT MOST 1048576: true; the input reads as it did. -/
def fnExactRuleOkUptoRow : OpenClaim := { program := "ytpganphmapdkcaa", sum := "33c056a0be27ec730e389bd495d85b04b6a2247583ec4e6515a8052ba8c9bedb", func := "loop.example/pedlar/laws.FnExactRuleOk", spec := "fnExactRuleOk", apart := false, narrowed := true }
def FnExactRuleOkUptoSaid : Prop := fnExactRuleOkUptoRow.holds Try.pinned (OpenSpec.upto fnExactRuleOkSpec)

/-- 'laws.FnPathCut', WHERE WHAT IT READS IS OF BULK AT MOST 1048576: true; the input reads as it did. -/
def fnPathCutUptoRow : OpenClaim := { program := "ytpganphmapdkcaa", sum := "33c056a0be27ec730e389bd495d85b04b6a2247583ec4e6515a8052ba8c9bedb", func := "loop.example/pedlar/laws.FnPathCut", spec := "fnPathCut", apart := false, narrowed := true }
def FnPathCutUptoSaid : Prop := fnPathCutUptoRow.holds Try.pinned (OpenSpec.upto fnPathCutSpec)

/-- 'laws.FnPathUp', WHERE WHAT IT READS IS OF BULK AT MOST 1048576: true; the input reads as it did. -/
def fnPathUpUptoRow : OpenClaim := { program := "ytpganphmapdkcaa", sum := "33c056a0be27ec730e389bd495d85b04b6a2247583ec4e6515a8052ba8c9bedb", func := "loop.example/pedlar/laws.FnPathUp", spec := "fnPathUp", apart := false, narrowed := true }
def FnPathUpUptoSaid : Prop := fnPathUpUptoRow.holds Try.pinned (OpenSpec.upto fnPathUpSpec)

/-- 'laws.FnRuleOk', WHERE WHAT IT READS IS OF BULK AT MOST 1048576: true; the input reads as it did. -/
def fnRuleOkUptoRow : OpenClaim := { program := "ytpganphmapdkcaa", sum := "33c056a0be27ec730e389bd495d85b04b6a2247583ec4e6515a8052ba8c9bedb", func := "loop.example/pedlar/laws.FnRuleOk", spec := "fnRuleOk", apart := false, narrowed := true }
def FnRuleOkUptoSaid : Prop := fnRuleOkUptoRow.holds Try.pinned (OpenSpec.upto fnRuleOkSpec)

/-- 'laws.FnExactEscNorm', WHERE WHAT IT READS IS OF BULK AT MOST 1048576: true; the input reads as it did. -/
def fnExactEscNormUptoRow : OpenClaim := { program := "ytpganphmapdkcaa", sum := "33c056a0be27ec730e389bd495d85b04b6a2247583ec4e6515a8052ba8c9bedb", func := "loop.example/pedlar/laws.FnExactEscNorm", spec := "fnExactEscNorm", apart := false, narrowed := true }
def FnExactEscNormUptoSaid : Prop := fnExactEscNormUptoRow.holds Try.pinned (OpenSpec.upto fnExactEscNormSpec)

/-- 'laws.FnExactPathClean', WHERE WHAT IT READS IS OF BULK AT MOST 1048576: true; the input reads as it did. -/
def fnExactPathCleanUptoRow : OpenClaim := { program := "ytpganphmapdkcaa", sum := "33c056a0be27ec730e389bd495d85b04b6a2247583ec4e6515a8052ba8c9bedb", func := "loop.example/pedlar/laws.FnExactPathClean", spec := "fnExactPathClean", apart := false, narrowed := true }
def FnExactPathCleanUptoSaid : Prop := fnExactPathCleanUptoRow.holds Try.pinned (OpenSpec.upto fnExactPathCleanSpec)

/-- 'laws.FnPathClean', WHERE WHAT IT READS IS OF BULK AT MOST 1048576: true; the input reads as it did. -/
def fnPathCleanUptoRow : OpenClaim := { program := "ytpganphmapdkcaa", sum := "33c056a0be27ec730e389bd495d85b04b6a2247583ec4e6515a8052ba8c9bedb", func := "loop.example/pedlar/laws.FnPathClean", spec := "fnPathClean", apart := false, narrowed := true }
def FnPathCleanUptoSaid : Prop := fnPathCleanUptoRow.holds Try.pinned (OpenSpec.upto fnPathCleanSpec)

/-- 'laws.FnEscCut', WHERE WHAT IT READS IS OF BULK AT MOST 1048576: true; the input reads as it did. -/
def fnEscCutUptoRow : OpenClaim := { program := "ytpganphmapdkcaa", sum := "33c056a0be27ec730e389bd495d85b04b6a2247583ec4e6515a8052ba8c9bedb", func := "loop.example/pedlar/laws.FnEscCut", spec := "fnEscCut", apart := false, narrowed := true }
def FnEscCutUptoSaid : Prop := fnEscCutUptoRow.holds Try.pinned (OpenSpec.upto fnEscCutSpec)

/-- 'laws.FnEscNone', WHERE WHAT IT READS IS OF BULK AT MOST 1048576: true; the input reads as it did. -/
def fnEscNoneUptoRow : OpenClaim := { program := "ytpganphmapdkcaa", sum := "33c056a0be27ec730e389bd495d85b04b6a2247583ec4e6515a8052ba8c9bedb", func := "loop.example/pedlar/laws.FnEscNone", spec := "fnEscNone", apart := false, narrowed := true }
def FnEscNoneUptoSaid : Prop := fnEscNoneUptoRow.holds Try.pinned (OpenSpec.upto fnEscNoneSpec)

/-- 'laws.FnEscPlain', WHERE WHAT IT READS IS OF BULK AT MOST 1048576: true; the input reads as it did. -/
def fnEscPlainUptoRow : OpenClaim := { program := "ytpganphmapdkcaa", sum := "33c056a0be27ec730e389bd495d85b04b6a2247583ec4e6515a8052ba8c9bedb", func := "loop.example/pedlar/laws.FnEscPlain", spec := "fnEscPlain", apart := false, narrowed := true }
def FnEscPlainUptoSaid : Prop := fnEscPlainUptoRow.holds Try.pinned (OpenSpec.upto fnEscPlainSpec)

/-- 'laws.FnEscTwice', WHERE WHAT IT READS IS OF BULK AT MOST 1048576: true; the input reads as it did. -/
def fnEscTwiceUptoRow : OpenClaim := { program := "ytpganphmapdkcaa", sum := "33c056a0be27ec730e389bd495d85b04b6a2247583ec4e6515a8052ba8c9bedb", func := "loop.example/pedlar/laws.FnEscTwice", spec := "fnEscTwice", apart := false, narrowed := true }
def FnEscTwiceUptoSaid : Prop := fnEscTwiceUptoRow.holds Try.pinned (OpenSpec.upto fnEscTwiceSpec)

/-- 'laws.FnEscBytes', WHERE WHAT IT READS IS OF BULK AT MOST 1048576: true; the input reads as it did. -/
def fnEscBytesUptoRow : OpenClaim := { program := "ytpganphmapdkcaa", sum := "33c056a0be27ec730e389bd495d85b04b6a2247583ec4e6515a8052ba8c9bedb", func := "loop.example/pedlar/laws.FnEscBytes", spec := "fnEscBytes", apart := false, narrowed := true }
def FnEscBytesUptoSaid : Prop := fnEscBytesUptoRow.holds Try.pinned (OpenSpec.upto fnEscBytesSpec)

end Rows
end Go.Proofs.Ytpganphmapdkcaa
