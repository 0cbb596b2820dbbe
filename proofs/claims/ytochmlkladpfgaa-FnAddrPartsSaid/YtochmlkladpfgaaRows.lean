/-
  No cell of these rows narrows 'for every input' (looked for: loops, veiled, ifaces, maps, wideKeys, modest, calm, conditions, laid).
  DERIVED. THE GIVEN ROWS OF THIS SEAT. 7 by the template 'for every input the law returns true; each argument reads behind the call as it read before'; 0 by the template 'total and deterministic' (their statements: YtochmlkladpfgaaTotals.lean).
  GIVEN WITH THE SEED: the statements are not yours to turn. If you find one false, say at which input.
  Laid BY PROGRAM, IN A SANDBOX (cutbox-rows.mjs): the forced cells as the released guide's own fill.sh prints them over the translation 88314ba96746ba7f… (all of the seat's roots in one cut). By AI agents, Wed Nov 11 2026. No macro, syntax, notation, axiom, sorry.
-/
import Derived.Test.YtochmlkladpfgaaChecked
import GoSem.Claim
import GoSem.ClaimJoined
import GoSem.ClaimMapViews
import Derived.JoinedTies
import Derived.KernelRfl
namespace Go.Proofs.Ytochmlkladpfgaa
/- THE CELL 'sum', in the pinned program and in every row, IS THE sha256 OF THE DUMP (.gsa) THAT YtochmlkladpfgaaProg.lean LOADS. Nothing in Lean hashes anything: it is a label: what it is worth is what the hold of that sum in a sandbox is worth. -/
noncomputable def Try.pinned : Pinned := { name := "ytochmlkladpfgaa", sum := "88314ba96746ba7fcee67f5d5a3b952d0f6b87e9d51ede221d1fca54c6ec241f", checked := Try.checked }
namespace Rows
def none {H : Type} : Left H := { results := [], args := [] }

/-- 'laws.FnExactAddrOk': WHATEVER THE INPUT: true; the input reads as it did. -/
def fnExactAddrOkSpec : ChangeSpec := { name := "fnExactAddrOk", fn := fun _ => fun
  | [d] => { results := [.lit (.bool true)], args := [d] }
  | _ => none }
def fnExactAddrOkRow : OpenClaim := { program := "ytochmlkladpfgaa", sum := "88314ba96746ba7fcee67f5d5a3b952d0f6b87e9d51ede221d1fca54c6ec241f", func := "loop.example/pedlar/laws.FnExactAddrOk", spec := "fnExactAddrOk", inPlace := ["internal/abi.NoEscape", "internal/bytealg.MakeNoZero"], apart := false }
def FnExactAddrOkSaid : Prop := fnExactAddrOkRow.holds Try.pinned (OpenSpec.ofChange fnExactAddrOkSpec)

/-- ITS FALSE NEIGHBOUR: 'it returns false'. Refute it at one input. -/
def fnExactAddrOkWrong : ChangeSpec := { name := "fnExactAddrOk", fn := fun _ => fun
  | [d] => { results := [.lit (.bool false)], args := [d] }
  | _ => none }
def FnExactAddrOkWrongFalsely : Prop := fnExactAddrOkRow.holds Try.pinned (OpenSpec.ofChange fnExactAddrOkWrong)

/-- 'laws.FnExactAddrPath': WHATEVER THE INPUT: true; the input reads as it did. -/
def fnExactAddrPathSpec : ChangeSpec := { name := "fnExactAddrPath", fn := fun _ => fun
  | [d] => { results := [.lit (.bool true)], args := [d] }
  | _ => none }
def fnExactAddrPathRow : OpenClaim := { program := "ytochmlkladpfgaa", sum := "88314ba96746ba7fcee67f5d5a3b952d0f6b87e9d51ede221d1fca54c6ec241f", func := "loop.example/pedlar/laws.FnExactAddrPath", spec := "fnExactAddrPath", inPlace := ["internal/abi.NoEscape", "internal/bytealg.MakeNoZero"], apart := false }
def FnExactAddrPathSaid : Prop := fnExactAddrPathRow.holds Try.pinned (OpenSpec.ofChange fnExactAddrPathSpec)

/-- ITS FALSE NEIGHBOUR: 'it returns false'. Refute it at one input. -/
def fnExactAddrPathWrong : ChangeSpec := { name := "fnExactAddrPath", fn := fun _ => fun
  | [d] => { results := [.lit (.bool false)], args := [d] }
  | _ => none }
def FnExactAddrPathWrongFalsely : Prop := fnExactAddrPathRow.holds Try.pinned (OpenSpec.ofChange fnExactAddrPathWrong)

/-- 'laws.FnExactAddrText': WHATEVER THE INPUT: true; the input reads as it did. -/
def fnExactAddrTextSpec : ChangeSpec := { name := "fnExactAddrText", fn := fun _ => fun
  | [d] => { results := [.lit (.bool true)], args := [d] }
  | _ => none }
def fnExactAddrTextRow : OpenClaim := { program := "ytochmlkladpfgaa", sum := "88314ba96746ba7fcee67f5d5a3b952d0f6b87e9d51ede221d1fca54c6ec241f", func := "loop.example/pedlar/laws.FnExactAddrText", spec := "fnExactAddrText", inPlace := ["internal/abi.NoEscape", "internal/bytealg.MakeNoZero"], apart := false }
def FnExactAddrTextSaid : Prop := fnExactAddrTextRow.holds Try.pinned (OpenSpec.ofChange fnExactAddrTextSpec)

/-- ITS FALSE NEIGHBOUR: 'it returns false'. Refute it at one input. -/
def fnExactAddrTextWrong : ChangeSpec := { name := "fnExactAddrText", fn := fun _ => fun
  | [d] => { results := [.lit (.bool false)], args := [d] }
  | _ => none }
def FnExactAddrTextWrongFalsely : Prop := fnExactAddrTextRow.holds Try.pinned (OpenSpec.ofChange fnExactAddrTextWrong)

/-- 'laws.FnAddrPath': WHATEVER THE INPUT: true; the input reads as it did. -/
def fnAddrPathSpec : ChangeSpec := { name := "fnAddrPath", fn := fun _ => fun
  | [d] => { results := [.lit (.bool true)], args := [d] }
  | _ => none }
def fnAddrPathRow : OpenClaim := { program := "ytochmlkladpfgaa", sum := "88314ba96746ba7fcee67f5d5a3b952d0f6b87e9d51ede221d1fca54c6ec241f", func := "loop.example/pedlar/laws.FnAddrPath", spec := "fnAddrPath", inPlace := ["internal/abi.NoEscape", "internal/bytealg.MakeNoZero"], apart := false }
def FnAddrPathSaid : Prop := fnAddrPathRow.holds Try.pinned (OpenSpec.ofChange fnAddrPathSpec)

/-- ITS FALSE NEIGHBOUR: 'it returns false'. Refute it at one input. -/
def fnAddrPathWrong : ChangeSpec := { name := "fnAddrPath", fn := fun _ => fun
  | [d] => { results := [.lit (.bool false)], args := [d] }
  | _ => none }
def FnAddrPathWrongFalsely : Prop := fnAddrPathRow.holds Try.pinned (OpenSpec.ofChange fnAddrPathWrong)

/-- 'laws.FnAddrOne': WHATEVER THE INPUT: true; the input reads as it did. -/
def fnAddrOneSpec : ChangeSpec := { name := "fnAddrOne", fn := fun _ => fun
  | [d1, d2] => { results := [.lit (.bool true)], args := [d1, d2] }
  | _ => none }
def fnAddrOneRow : OpenClaim := { program := "ytochmlkladpfgaa", sum := "88314ba96746ba7fcee67f5d5a3b952d0f6b87e9d51ede221d1fca54c6ec241f", func := "loop.example/pedlar/laws.FnAddrOne", spec := "fnAddrOne", inPlace := ["internal/abi.NoEscape", "internal/bytealg.MakeNoZero"], apart := false }
def FnAddrOneSaid : Prop := fnAddrOneRow.holds Try.pinned (OpenSpec.ofChange fnAddrOneSpec)

/-- ITS FALSE NEIGHBOUR: 'it returns false'. Refute it at one input. -/
def fnAddrOneWrong : ChangeSpec := { name := "fnAddrOne", fn := fun _ => fun
  | [d1, d2] => { results := [.lit (.bool false)], args := [d1, d2] }
  | _ => none }
def FnAddrOneWrongFalsely : Prop := fnAddrOneRow.holds Try.pinned (OpenSpec.ofChange fnAddrOneWrong)

/-- 'laws.FnAddrPathOne': WHATEVER THE INPUT: true; the input reads as it did. -/
def fnAddrPathOneSpec : ChangeSpec := { name := "fnAddrPathOne", fn := fun _ => fun
  | [d1, d2] => { results := [.lit (.bool true)], args := [d1, d2] }
  | _ => none }
def fnAddrPathOneRow : OpenClaim := { program := "ytochmlkladpfgaa", sum := "88314ba96746ba7fcee67f5d5a3b952d0f6b87e9d51ede221d1fca54c6ec241f", func := "loop.example/pedlar/laws.FnAddrPathOne", spec := "fnAddrPathOne", inPlace := ["internal/abi.NoEscape", "internal/bytealg.MakeNoZero"], apart := false }
def FnAddrPathOneSaid : Prop := fnAddrPathOneRow.holds Try.pinned (OpenSpec.ofChange fnAddrPathOneSpec)

/-- ITS FALSE NEIGHBOUR: 'it returns false'. Refute it at one input. -/
def fnAddrPathOneWrong : ChangeSpec := { name := "fnAddrPathOne", fn := fun _ => fun
  | [d1, d2] => { results := [.lit (.bool false)], args := [d1, d2] }
  | _ => none }
def FnAddrPathOneWrongFalsely : Prop := fnAddrPathOneRow.holds Try.pinned (OpenSpec.ofChange fnAddrPathOneWrong)

/-- 'laws.FnAddrParts': WHATEVER THE INPUT: true; the input reads as it did. -/
def fnAddrPartsSpec : ChangeSpec := { name := "fnAddrParts", fn := fun _ => fun
  | [d] => { results := [.lit (.bool true)], args := [d] }
  | _ => none }
def fnAddrPartsRow : OpenClaim := { program := "ytochmlkladpfgaa", sum := "88314ba96746ba7fcee67f5d5a3b952d0f6b87e9d51ede221d1fca54c6ec241f", func := "loop.example/pedlar/laws.FnAddrParts", spec := "fnAddrParts", inPlace := ["internal/abi.NoEscape", "internal/bytealg.MakeNoZero"], apart := false }
def FnAddrPartsSaid : Prop := fnAddrPartsRow.holds Try.pinned (OpenSpec.ofChange fnAddrPartsSpec)

/-- ITS FALSE NEIGHBOUR: 'it returns false'. Refute it at one input. -/
def fnAddrPartsWrong : ChangeSpec := { name := "fnAddrParts", fn := fun _ => fun
  | [d] => { results := [.lit (.bool false)], args := [d] }
  | _ => none }
def FnAddrPartsWrongFalsely : Prop := fnAddrPartsRow.holds Try.pinned (OpenSpec.ofChange fnAddrPartsWrong)

/- THE SECOND FORM. 'bulk': how many values and letters a reading holds, each counted each time it is reached (what is shared counts as often as it is met; a slice's spare places count too). A statement '..UptoSaid' is the law's where the arguments, and the package variables that the reading takes, are together of bulk at most 1048576: NARROWER than '..Said'. Prove '..Said' where nothing that the law and all that it calls make is longer than what came in: it says more and counts as full. Else prove '..UptoSaid'. A law counts once. -/
mutual
def uptoBulk {H : Type} : DataW H → Nat
  | .lit (.string bytes) => bytes.length + 1
  | .lit _ => 1
  | .nil => 1
  | .ptr d => uptoBulk d + 1
  | .slice elems spare => uptoBulkAll elems + uptoBulkAll spare + 1
  | .agg parts => uptoBulkAll parts + 1
  | .iface _ d => uptoBulk d + 1
  | .map entries => uptoBulkEntries entries + 1
  | .held _ => 1
def uptoBulkAll {H : Type} : List (DataW H) → Nat
  | [] => 0
  | d :: r => uptoBulk d + uptoBulkAll r
def uptoBulkEntries {H : Type} : List (Lit × DataW H) → Nat
  | [] => 0
  | x :: r => uptoBulkEntry x + uptoBulkEntries r
def uptoBulkEntry {H : Type} : Lit × DataW H → Nat
  | (.string bytes, d) => bytes.length + uptoBulk d + 1
  | (_, d) => uptoBulk d + 1
 end
def uptoSmall : (H : Type) → List (DataW H) → Bool := fun _ ds => decide (uptoBulkAll ds ≤ 1048576)
def OpenSpec.upto (s : _root_.Go.ChangeSpec) : _root_.Go.OpenSpec := { _root_.Go.OpenSpec.ofChange s with cond := some uptoSmall }

/-- 'laws.FnExactAddrOk', WHERE WHAT IT READS IS OF BULK AT MOST 1048576: true; the input reads as it did. -/
def fnExactAddrOkUptoRow : OpenClaim := { program := "ytochmlkladpfgaa", sum := "88314ba96746ba7fcee67f5d5a3b952d0f6b87e9d51ede221d1fca54c6ec241f", func := "loop.example/pedlar/laws.FnExactAddrOk", spec := "fnExactAddrOk", inPlace := ["internal/abi.NoEscape", "internal/bytealg.MakeNoZero"], apart := false, narrowed := true }
def FnExactAddrOkUptoSaid : Prop := fnExactAddrOkUptoRow.holds Try.pinned (OpenSpec.upto fnExactAddrOkSpec)

/-- 'laws.FnExactAddrPath', WHERE WHAT IT READS IS OF BULK AT MOST 1048576: true; the input reads as it did. -/
def fnExactAddrPathUptoRow : OpenClaim := { program := "ytochmlkladpfgaa", sum := "88314ba96746ba7fcee67f5d5a3b952d0f6b87e9d51ede221d1fca54c6ec241f", func := "loop.example/pedlar/laws.FnExactAddrPath", spec := "fnExactAddrPath", inPlace := ["internal/abi.NoEscape", "internal/bytealg.MakeNoZero"], apart := false, narrowed := true }
def FnExactAddrPathUptoSaid : Prop := fnExactAddrPathUptoRow.holds Try.pinned (OpenSpec.upto fnExactAddrPathSpec)

/-- 'laws.FnExactAddrText', WHERE WHAT IT READS IS OF BULK AT MOST 1048576: true; the input reads as it did. -/
def fnExactAddrTextUptoRow : OpenClaim := { program := "ytochmlkladpfgaa", sum := "88314ba96746ba7fcee67f5d5a3b952d0f6b87e9d51ede221d1fca54c6ec241f", func := "loop.example/pedlar/laws.FnExactAddrText", spec := "fnExactAddrText", inPlace := ["internal/abi.NoEscape", "internal/bytealg.MakeNoZero"], apart := false, narrowed := true }
def FnExactAddrTextUptoSaid : Prop := fnExactAddrTextUptoRow.holds Try.pinned (OpenSpec.upto fnExactAddrTextSpec)

/-- 'laws.FnAddrPath', WHERE WHAT IT READS IS OF BULK AT MOST 1048576: true; the input reads as it did. -/
def fnAddrPathUptoRow : OpenClaim := { program := "ytochmlkladpfgaa", sum := "88314ba96746ba7fcee67f5d5a3b952d0f6b87e9d51ede221d1fca54c6ec241f", func := "loop.example/pedlar/laws.FnAddrPath", spec := "fnAddrPath", inPlace := ["internal/abi.NoEscape", "internal/bytealg.MakeNoZero"], apart := false, narrowed := true }
def FnAddrPathUptoSaid : Prop := fnAddrPathUptoRow.holds Try.pinned (OpenSpec.upto fnAddrPathSpec)

/-- 'laws.FnAddrOne', WHERE WHAT IT READS IS OF BULK AT MOST 1048576: true; the input reads as it did. -/
def fnAddrOneUptoRow : OpenClaim := { program := "ytochmlkladpfgaa", sum := "88314ba96746ba7fcee67f5d5a3b952d0f6b87e9d51ede221d1fca54c6ec241f", func := "loop.example/pedlar/laws.FnAddrOne", spec := "fnAddrOne", inPlace := ["internal/abi.NoEscape", "internal/bytealg.MakeNoZero"], apart := false, narrowed := true }
def FnAddrOneUptoSaid : Prop := fnAddrOneUptoRow.holds Try.pinned (OpenSpec.upto fnAddrOneSpec)

/-- 'laws.FnAddrPathOne', WHERE WHAT IT READS IS OF BULK AT MOST 1048576: true; the input reads as it did. -/
def fnAddrPathOneUptoRow : OpenClaim := { program := "ytochmlkladpfgaa", sum := "88314ba96746ba7fcee67f5d5a3b952d0f6b87e9d51ede221d1fca54c6ec241f", func := "loop.example/pedlar/laws.FnAddrPathOne", spec := "fnAddrPathOne", inPlace := ["internal/abi.NoEscape", "internal/bytealg.MakeNoZero"], apart := false, narrowed := true }
def FnAddrPathOneUptoSaid : Prop := fnAddrPathOneUptoRow.holds Try.pinned (OpenSpec.upto fnAddrPathOneSpec)

/-- 'laws.FnAddrParts', WHERE WHAT IT READS IS OF BULK AT MOST 1048576: true; the input reads as it did. -/
def fnAddrPartsUptoRow : OpenClaim := { program := "ytochmlkladpfgaa", sum := "88314ba96746ba7fcee67f5d5a3b952d0f6b87e9d51ede221d1fca54c6ec241f", func := "loop.example/pedlar/laws.FnAddrParts", spec := "fnAddrParts", inPlace := ["internal/abi.NoEscape", "internal/bytealg.MakeNoZero"], apart := false, narrowed := true }
def FnAddrPartsUptoSaid : Prop := fnAddrPartsUptoRow.holds Try.pinned (OpenSpec.upto fnAddrPartsSpec)

end Rows
end Go.Proofs.Ytochmlkladpfgaa
