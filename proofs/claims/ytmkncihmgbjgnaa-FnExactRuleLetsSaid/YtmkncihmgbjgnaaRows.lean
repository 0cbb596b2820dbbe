/-
  No cell of these rows narrows 'for every input' (looked for: loops, veiled, ifaces, maps, wideKeys, modest, calm, conditions, laid).
  DERIVED. THE GIVEN ROWS OF THIS SEAT. 10 by the template 'for every input the law returns true; each argument reads behind the call as it read before'; 0 by the template 'total and deterministic' (their statements: YtmkncihmgbjgnaaTotals.lean).
  GIVEN WITH THE SEED: the statements are not yours to turn. If you find one false, say at which input.
  Laid BY PROGRAM, IN A SANDBOX (cutbox-rows.mjs): the forced cells as the released guide's own fill.sh prints them over the translation 356e7b82d94de3fd… (all of the seat's roots in one cut). By AI agents, Wed Nov 11 2026. No macro, syntax, notation, axiom, sorry.
-/
import Derived.Test.YtmkncihmgbjgnaaChecked
import GoSem.Claim
import GoSem.ClaimJoined
import GoSem.ClaimMapViews
import Derived.JoinedTies
import Derived.KernelRfl
namespace Go.Proofs.Ytmkncihmgbjgnaa
/- THE CELL 'sum', in the pinned program and in every row, IS THE sha256 OF THE DUMP (.gsa) THAT YtmkncihmgbjgnaaProg.lean LOADS. Nothing in Lean hashes anything: it is a label: what it is worth is what the hold of that sum in a sandbox is worth. -/
noncomputable def Try.pinned : Pinned := { name := "ytmkncihmgbjgnaa", sum := "356e7b82d94de3fd07ef13badbab04d90ba9629a46cc3534537e07cc16a65015", checked := Try.checked }
namespace Rows
def none {H : Type} : Left H := { results := [], args := [] }

/-- 'laws.FnExactRuleHas': WHATEVER THE INPUT: true; the input reads as it did. -/
def fnExactRuleHasSpec : ChangeSpec := { name := "fnExactRuleHas", fn := fun _ => fun
  | [d1, d2] => { results := [.lit (.bool true)], args := [d1, d2] }
  | _ => none }
def fnExactRuleHasRow : OpenClaim := { program := "ytmkncihmgbjgnaa", sum := "356e7b82d94de3fd07ef13badbab04d90ba9629a46cc3534537e07cc16a65015", func := "loop.example/pedlar/laws.FnExactRuleHas", spec := "fnExactRuleHas", apart := false }
def FnExactRuleHasSaid : Prop := fnExactRuleHasRow.holds Try.pinned (OpenSpec.ofChange fnExactRuleHasSpec)

/-- ITS FALSE NEIGHBOUR: 'it returns false'. Refute it at one input. -/
def fnExactRuleHasWrong : ChangeSpec := { name := "fnExactRuleHas", fn := fun _ => fun
  | [d1, d2] => { results := [.lit (.bool false)], args := [d1, d2] }
  | _ => none }
def FnExactRuleHasWrongFalsely : Prop := fnExactRuleHasRow.holds Try.pinned (OpenSpec.ofChange fnExactRuleHasWrong)

/-- 'laws.FnExactRuleLets': WHATEVER THE INPUT: true; the input reads as it did. -/
def fnExactRuleLetsSpec : ChangeSpec := { name := "fnExactRuleLets", fn := fun _ => fun
  | [d1, d2] => { results := [.lit (.bool true)], args := [d1, d2] }
  | _ => none }
def fnExactRuleLetsRow : OpenClaim := { program := "ytmkncihmgbjgnaa", sum := "356e7b82d94de3fd07ef13badbab04d90ba9629a46cc3534537e07cc16a65015", func := "loop.example/pedlar/laws.FnExactRuleLets", spec := "fnExactRuleLets", apart := false }
def FnExactRuleLetsSaid : Prop := fnExactRuleLetsRow.holds Try.pinned (OpenSpec.ofChange fnExactRuleLetsSpec)

/-- ITS FALSE NEIGHBOUR: 'it returns false'. Refute it at one input. -/
def fnExactRuleLetsWrong : ChangeSpec := { name := "fnExactRuleLets", fn := fun _ => fun
  | [d1, d2] => { results := [.lit (.bool false)], args := [d1, d2] }
  | _ => none }
def FnExactRuleLetsWrongFalsely : Prop := fnExactRuleLetsRow.holds Try.pinned (OpenSpec.ofChange fnExactRuleLetsWrong)

/-- 'laws.FnRuleNone': WHATEVER THE INPUT: true; the input reads as it did. -/
def fnRuleNoneSpec : ChangeSpec := { name := "fnRuleNone", fn := fun _ => fun
  | [d] => { results := [.lit (.bool true)], args := [d] }
  | _ => none }
def fnRuleNoneRow : OpenClaim := { program := "ytmkncihmgbjgnaa", sum := "356e7b82d94de3fd07ef13badbab04d90ba9629a46cc3534537e07cc16a65015", func := "loop.example/pedlar/laws.FnRuleNone", spec := "fnRuleNone", apart := false }
def FnRuleNoneSaid : Prop := fnRuleNoneRow.holds Try.pinned (OpenSpec.ofChange fnRuleNoneSpec)

/-- ITS FALSE NEIGHBOUR: 'it returns false'. Refute it at one input. -/
def fnRuleNoneWrong : ChangeSpec := { name := "fnRuleNone", fn := fun _ => fun
  | [d] => { results := [.lit (.bool false)], args := [d] }
  | _ => none }
def FnRuleNoneWrongFalsely : Prop := fnRuleNoneRow.holds Try.pinned (OpenSpec.ofChange fnRuleNoneWrong)

/-- 'laws.FnRuleSelf': WHATEVER THE INPUT: true; the input reads as it did. -/
def fnRuleSelfSpec : ChangeSpec := { name := "fnRuleSelf", fn := fun _ => fun
  | [d] => { results := [.lit (.bool true)], args := [d] }
  | _ => none }
def fnRuleSelfRow : OpenClaim := { program := "ytmkncihmgbjgnaa", sum := "356e7b82d94de3fd07ef13badbab04d90ba9629a46cc3534537e07cc16a65015", func := "loop.example/pedlar/laws.FnRuleSelf", spec := "fnRuleSelf", apart := false }
def FnRuleSelfSaid : Prop := fnRuleSelfRow.holds Try.pinned (OpenSpec.ofChange fnRuleSelfSpec)

/-- ITS FALSE NEIGHBOUR: 'it returns false'. Refute it at one input. -/
def fnRuleSelfWrong : ChangeSpec := { name := "fnRuleSelf", fn := fun _ => fun
  | [d] => { results := [.lit (.bool false)], args := [d] }
  | _ => none }
def FnRuleSelfWrongFalsely : Prop := fnRuleSelfRow.holds Try.pinned (OpenSpec.ofChange fnRuleSelfWrong)

/-- 'laws.FnRuleEnd': WHATEVER THE INPUT: true; the input reads as it did. -/
def fnRuleEndSpec : ChangeSpec := { name := "fnRuleEnd", fn := fun _ => fun
  | [d] => { results := [.lit (.bool true)], args := [d] }
  | _ => none }
def fnRuleEndRow : OpenClaim := { program := "ytmkncihmgbjgnaa", sum := "356e7b82d94de3fd07ef13badbab04d90ba9629a46cc3534537e07cc16a65015", func := "loop.example/pedlar/laws.FnRuleEnd", spec := "fnRuleEnd", apart := false }
def FnRuleEndSaid : Prop := fnRuleEndRow.holds Try.pinned (OpenSpec.ofChange fnRuleEndSpec)

/-- ITS FALSE NEIGHBOUR: 'it returns false'. Refute it at one input. -/
def fnRuleEndWrong : ChangeSpec := { name := "fnRuleEnd", fn := fun _ => fun
  | [d] => { results := [.lit (.bool false)], args := [d] }
  | _ => none }
def FnRuleEndWrongFalsely : Prop := fnRuleEndRow.holds Try.pinned (OpenSpec.ofChange fnRuleEndWrong)

/-- 'laws.FnRuleMore': WHATEVER THE INPUT: true; the input reads as it did. -/
def fnRuleMoreSpec : ChangeSpec := { name := "fnRuleMore", fn := fun _ => fun
  | [d] => { results := [.lit (.bool true)], args := [d] }
  | _ => none }
def fnRuleMoreRow : OpenClaim := { program := "ytmkncihmgbjgnaa", sum := "356e7b82d94de3fd07ef13badbab04d90ba9629a46cc3534537e07cc16a65015", func := "loop.example/pedlar/laws.FnRuleMore", spec := "fnRuleMore", apart := false }
def FnRuleMoreSaid : Prop := fnRuleMoreRow.holds Try.pinned (OpenSpec.ofChange fnRuleMoreSpec)

/-- ITS FALSE NEIGHBOUR: 'it returns false'. Refute it at one input. -/
def fnRuleMoreWrong : ChangeSpec := { name := "fnRuleMore", fn := fun _ => fun
  | [d] => { results := [.lit (.bool false)], args := [d] }
  | _ => none }
def FnRuleMoreWrongFalsely : Prop := fnRuleMoreRow.holds Try.pinned (OpenSpec.ofChange fnRuleMoreWrong)

/-- 'laws.FnRuleStar': WHATEVER THE INPUT: true; the input reads as it did. -/
def fnRuleStarSpec : ChangeSpec := { name := "fnRuleStar", fn := fun _ => fun
  | [d] => { results := [.lit (.bool true)], args := [d] }
  | _ => none }
def fnRuleStarRow : OpenClaim := { program := "ytmkncihmgbjgnaa", sum := "356e7b82d94de3fd07ef13badbab04d90ba9629a46cc3534537e07cc16a65015", func := "loop.example/pedlar/laws.FnRuleStar", spec := "fnRuleStar", apart := false }
def FnRuleStarSaid : Prop := fnRuleStarRow.holds Try.pinned (OpenSpec.ofChange fnRuleStarSpec)

/-- ITS FALSE NEIGHBOUR: 'it returns false'. Refute it at one input. -/
def fnRuleStarWrong : ChangeSpec := { name := "fnRuleStar", fn := fun _ => fun
  | [d] => { results := [.lit (.bool false)], args := [d] }
  | _ => none }
def FnRuleStarWrongFalsely : Prop := fnRuleStarRow.holds Try.pinned (OpenSpec.ofChange fnRuleStarWrong)

/-- 'laws.FnRuleHas': WHATEVER THE INPUT: true; the input reads as it did. -/
def fnRuleHasSpec : ChangeSpec := { name := "fnRuleHas", fn := fun _ => fun
  | [d] => { results := [.lit (.bool true)], args := [d] }
  | _ => none }
def fnRuleHasRow : OpenClaim := { program := "ytmkncihmgbjgnaa", sum := "356e7b82d94de3fd07ef13badbab04d90ba9629a46cc3534537e07cc16a65015", func := "loop.example/pedlar/laws.FnRuleHas", spec := "fnRuleHas", recurses := true, apart := false }
def FnRuleHasSaid : Prop := fnRuleHasRow.holds Try.pinned (OpenSpec.ofChange fnRuleHasSpec)

/-- ITS FALSE NEIGHBOUR: 'it returns false'. Refute it at one input. -/
def fnRuleHasWrong : ChangeSpec := { name := "fnRuleHas", fn := fun _ => fun
  | [d] => { results := [.lit (.bool false)], args := [d] }
  | _ => none }
def FnRuleHasWrongFalsely : Prop := fnRuleHasRow.holds Try.pinned (OpenSpec.ofChange fnRuleHasWrong)

/-- 'laws.FnLetsLongest': WHATEVER THE INPUT: true; the input reads as it did. -/
def fnLetsLongestSpec : ChangeSpec := { name := "fnLetsLongest", fn := fun _ => fun
  | [d] => { results := [.lit (.bool true)], args := [d] }
  | _ => none }
def fnLetsLongestRow : OpenClaim := { program := "ytmkncihmgbjgnaa", sum := "356e7b82d94de3fd07ef13badbab04d90ba9629a46cc3534537e07cc16a65015", func := "loop.example/pedlar/laws.FnLetsLongest", spec := "fnLetsLongest", apart := false }
def FnLetsLongestSaid : Prop := fnLetsLongestRow.holds Try.pinned (OpenSpec.ofChange fnLetsLongestSpec)

/-- ITS FALSE NEIGHBOUR: 'it returns false'. Refute it at one input. -/
def fnLetsLongestWrong : ChangeSpec := { name := "fnLetsLongest", fn := fun _ => fun
  | [d] => { results := [.lit (.bool false)], args := [d] }
  | _ => none }
def FnLetsLongestWrongFalsely : Prop := fnLetsLongestRow.holds Try.pinned (OpenSpec.ofChange fnLetsLongestWrong)

/-- 'laws.FnLetsOrder': WHATEVER THE INPUT: true; the input reads as it did. -/
def fnLetsOrderSpec : ChangeSpec := { name := "fnLetsOrder", fn := fun _ => fun
  | [d] => { results := [.lit (.bool true)], args := [d] }
  | _ => none }
def fnLetsOrderRow : OpenClaim := { program := "ytmkncihmgbjgnaa", sum := "356e7b82d94de3fd07ef13badbab04d90ba9629a46cc3534537e07cc16a65015", func := "loop.example/pedlar/laws.FnLetsOrder", spec := "fnLetsOrder", apart := false }
def FnLetsOrderSaid : Prop := fnLetsOrderRow.holds Try.pinned (OpenSpec.ofChange fnLetsOrderSpec)

/-- ITS FALSE NEIGHBOUR: 'it returns false'. Refute it at one input. -/
def fnLetsOrderWrong : ChangeSpec := { name := "fnLetsOrder", fn := fun _ => fun
  | [d] => { results := [.lit (.bool false)], args := [d] }
  | _ => none }
def FnLetsOrderWrongFalsely : Prop := fnLetsOrderRow.holds Try.pinned (OpenSpec.ofChange fnLetsOrderWrong)

/- THE SECOND FORM. 'bulk': how many values and letters a reading holds, each counted each time it is reached (what is shared counts as often as it is met; a slice's spare places count too). A statement '..UptoSaid' is the law's where the arguments, and the package variables that the reading takes, are together of bulk at most 1048576: NARROWER than '..Said'. Prove '..Said' where nothing that the law and all that it calls make is longer than what came in: it says more and counts as full. Else prove '..UptoSaid'. A law counts once. -/
mutual
def uptoBulk {H : Type} : DataW H → Nat
  | .lit (.string bytes) => bytes.length + 1
  | .lit _ => 1
  | .nil => 1
  | .ptr d => uptoBulk d + 1
  | .slice elems spare => uptoBulkAll elems + uptoBulkAll spare + 1
  | .agg parts => uptoBulkAll parts + 1
  | .iface _ d => uptoBulk d + 1
  | .map entries => uptoBulkEntries entries + 1
  | .held _ => 1
def uptoBulkAll {H : Type} : List (DataW H) → Nat
  | [] => 0
  | d :: r => uptoBulk d + uptoBulkAll r
def uptoBulkEntries {H : Type} : List (Lit × DataW H) → Nat
  | [] => 0
  | x :: r => uptoBulkEntry x + uptoBulkEntries r
def uptoBulkEntry {H : Type} : Lit × DataW H → Nat
  | (.string bytes, d) => bytes.length + uptoBulk d + 1
  | (_, d) => uptoBulk d + 1
 end
def uptoSmall : (H : Type) → List (DataW H) → Bool := fun _ ds => decide (uptoBulkAll ds ≤ 1048576)
def OpenSpec.upto (s : _root_.Go.ChangeSpec) : _root_.Go.OpenSpec := { _root_.Go.OpenSpec.ofChange s with cond := some uptoSmall }

/-- 'laws.FnExactRuleHas', WHERE WHAT IT READS IS OF BULK AT MOST 1048576: true; the input reads as it did. -/
def fnExactRuleHasUptoRow : OpenClaim := { program := "ytmkncihmgbjgnaa", sum := "356e7b82d94de3fd07ef13badbab04d90ba9629a46cc3534537e07cc16a65015", func := "loop.example/pedlar/laws.FnExactRuleHas", spec := "fnExactRuleHas", apart := false, narrowed := true }
def FnExactRuleHasUptoSaid : Prop := fnExactRuleHasUptoRow.holds Try.pinned (OpenSpec.upto fnExactRuleHasSpec)

/-- 'laws.FnExactRuleLets', WHERE WHAT IT READS IS OF BULK AT MOST 1048576: true; the input reads as it did. -/
def fnExactRuleLetsUptoRow : OpenClaim := { program := "ytmkncihmgbjgnaa", sum := "356e7b82d94de3fd07ef13badbab04d90ba9629a46cc3534537e07cc16a65015", func := "loop.example/pedlar/laws.FnExactRuleLets", spec := "fnExactRuleLets", apart := false, narrowed := true }
def FnExactRuleLetsUptoSaid : Prop := fnExactRuleLetsUptoRow.holds Try.pinned (OpenSpec.upto fnExactRuleLetsSpec)

/-- 'laws.FnRuleNone', WHERE WHAT IT READS IS OF BULK AT MOST 1048576: true; the input reads as it did. -/
def fnRuleNoneUptoRow : OpenClaim := { program := "ytmkncihmgbjgnaa", sum := "356e7b82d94de3fd07ef13badbab04d90ba9629a46cc3534537e07cc16a65015", func := "loop.example/pedlar/laws.FnRuleNone", spec := "fnRuleNone", apart := false, narrowed := true }
def FnRuleNoneUptoSaid : Prop := fnRuleNoneUptoRow.holds Try.pinned (OpenSpec.upto fnRuleNoneSpec)

/-- 'laws.FnRuleSelf', WHERE WHAT IT READS IS OF BULK AT MOST 1048576: true; the input reads as it did. -/
def fnRuleSelfUptoRow : OpenClaim := { program := "ytmkncihmgbjgnaa", sum := "356e7b82d94de3fd07ef13badbab04d90ba9629a46cc3534537e07cc16a65015", func := "loop.example/pedlar/laws.FnRuleSelf", spec := "fnRuleSelf", apart := false, narrowed := true }
def FnRuleSelfUptoSaid : Prop := fnRuleSelfUptoRow.holds Try.pinned (OpenSpec.upto fnRuleSelfSpec)

/-- 'laws.FnRuleEnd', WHERE WHAT IT READS IS OF BULK AT MOST 1048576: true; the input reads as it did. -/
def fnRuleEndUptoRow : OpenClaim := { program := "ytmkncihmgbjgnaa", sum := "356e7b82d94de3fd07ef13badbab04d90ba9629a46cc3534537e07cc16a65015", func := "loop.example/pedlar/laws.FnRuleEnd", spec := "fnRuleEnd", apart := false, narrowed := true }
def FnRuleEndUptoSaid : Prop := fnRuleEndUptoRow.holds Try.pinned (OpenSpec.upto fnRuleEndSpec)

/-- 'laws.FnRuleMore', WHERE WHAT IT READS IS OF BULK AT MOST 1048576: true; the input reads as it did. -/
def fnRuleMoreUptoRow : OpenClaim := { program := "ytmkncihmgbjgnaa", sum := "356e7b82d94de3fd07ef13badbab04d90ba9629a46cc3534537e07cc16a65015", func := "loop.example/pedlar/laws.FnRuleMore", spec := "fnRuleMore", apart := false, narrowed := true }
def FnRuleMoreUptoSaid : Prop := fnRuleMoreUptoRow.holds Try.pinned (OpenSpec.upto fnRuleMoreSpec)

/-- 'laws.FnRuleStar', WHERE WHAT IT READS IS OF BULK AT MOST 1048576: true; the input reads as it did. -/
def fnRuleStarUptoRow : OpenClaim := { program := "ytmkncihmgbjgnaa", sum := "356e7b82d94de3fd07ef13badbab04d90ba9629a46cc3534537e07cc16a65015", func := "loop.example/pedlar/laws.FnRuleStar", spec := "fnRuleStar", apart := false, narrowed := true }
def FnRuleStarUptoSaid : Prop := fnRuleStarUptoRow.holds Try.pinned (OpenSpec.upto fnRuleStarSpec)

/-- 'laws.FnRuleHas', WHERE WHAT IT READS IS OF BULK AT MOST 1048576: true; the input reads as it did. -/
def fnRuleHasUptoRow : OpenClaim := { program := "ytmkncihmgbjgnaa", sum := "356e7b82d94de3fd07ef13badbab04d90ba9629a46cc3534537e07cc16a65015", func := "loop.example/pedlar/laws.FnRuleHas", spec := "fnRuleHas", recurses := true, apart := false, narrowed := true }
def FnRuleHasUptoSaid : Prop := fnRuleHasUptoRow.holds Try.pinned (OpenSpec.upto fnRuleHasSpec)

/-- 'laws.FnLetsLongest', WHERE WHAT IT READS IS OF BULK AT MOST 1048576: true; the input reads as it did. -/
def fnLetsLongestUptoRow : OpenClaim := { program := "ytmkncihmgbjgnaa", sum := "356e7b82d94de3fd07ef13badbab04d90ba9629a46cc3534537e07cc16a65015", func := "loop.example/pedlar/laws.FnLetsLongest", spec := "fnLetsLongest", apart := false, narrowed := true }
def FnLetsLongestUptoSaid : Prop := fnLetsLongestUptoRow.holds Try.pinned (OpenSpec.upto fnLetsLongestSpec)

/-- 'laws.FnLetsOrder', WHERE WHAT IT READS IS OF BULK AT MOST 1048576: true; the input reads as it did. -/
def fnLetsOrderUptoRow : OpenClaim := { program := "ytmkncihmgbjgnaa", sum := "356e7b82d94de3fd07ef13badbab04d90ba9629a46cc3534537e07cc16a65015", func := "loop.example/pedlar/laws.FnLetsOrder", spec := "fnLetsOrder", apart := false, narrowed := true }
def FnLetsOrderUptoSaid : Prop := fnLetsOrderUptoRow.holds Try.pinned (OpenSpec.upto fnLetsOrderSpec)

end Rows
end Go.Proofs.Ytmkncihmgbjgnaa
