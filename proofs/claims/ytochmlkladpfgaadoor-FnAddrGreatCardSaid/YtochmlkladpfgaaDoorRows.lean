/-
  NARROWER THAN 'FOR EVERY INPUT', by the rows' own cells (each row's printed sentence says how): FnExactAddrRead: laid · FnAddrBack: laid · FnAddrCross: laid · FnAddrGreat: laid · FnAddrStrict: laid.
  DERIVED. THE GIVEN ROWS OF THIS SEAT. 5 by the template 'for every input the law returns true; each argument reads behind the call as it read before'; 0 by the template 'total and deterministic' (their statements: YtochmlkladpfgaaDoorTotals.lean).
  GIVEN WITH THE SEED: the statements are not yours to turn. If you find one false, say at which input.
  Laid BY PROGRAM, IN A SANDBOX (cutbox-rows.mjs): the forced cells as the released guide's own fill.sh prints them over the translation 52016a621d25c354… (all of the seat's roots in one cut). By AI agents, Wed Nov 11 2026. No macro, syntax, notation, axiom, sorry.
-/
import Derived.Test.YtochmlkladpfgaaDoorChecked
import GoSem.PinnedTables
import GoSem.Claim
import GoSem.ClaimJoined
import GoSem.ClaimMapViews
import Derived.JoinedTies
import Derived.KernelRfl
namespace Go.Proofs.YtochmlkladpfgaaDoor
/- THE CELL 'sum', in the pinned program and in every row, IS THE sha256 OF THE DUMP (.gsa) THAT YtochmlkladpfgaaDoorProg.lean LOADS. Nothing in Lean hashes anything: it is a label: what it is worth is what the hold of that sum in a sandbox is worth. -/
noncomputable def Tryd.pinned : Pinned := { name := "ytochmlkladpfgaadoor", sum := "52016a621d25c354013f14b741c8b467e22440df00c94be1be4ebfd847b57dcb", checked := Tryd.checked }
namespace Rows
def none {H : Type} : Left H := { results := [], args := [] }

/- WHAT THE LISTED PACKAGE-LEVEL VARIABLES READ AS WHEN THE CALL BEGINS. Each datum BY PROGRAM (the guide's laid-datum.mjs) off the statement by which the dump's own 'gosem.cut.vars' lays the variable. In a bare row this is a premise. The card (YtochmlkladpfgaaDoorCards.lean) ties it to the program's text. -/
def laid_unicode_utf8_acceptRanges {H : Type} : DataW H := .agg [.agg [.lit (.int .u8 128), .lit (.int .u8 191)], .agg [.lit (.int .u8 160), .lit (.int .u8 191)], .agg [.lit (.int .u8 128), .lit (.int .u8 159)], .agg [.lit (.int .u8 144), .lit (.int .u8 191)], .agg [.lit (.int .u8 128), .lit (.int .u8 143)], .agg [.lit (.int .u8 0), .lit (.int .u8 0)], .agg [.lit (.int .u8 0), .lit (.int .u8 0)], .agg [.lit (.int .u8 0), .lit (.int .u8 0)], .agg [.lit (.int .u8 0), .lit (.int .u8 0)], .agg [.lit (.int .u8 0), .lit (.int .u8 0)], .agg [.lit (.int .u8 0), .lit (.int .u8 0)], .agg [.lit (.int .u8 0), .lit (.int .u8 0)], .agg [.lit (.int .u8 0), .lit (.int .u8 0)], .agg [.lit (.int .u8 0), .lit (.int .u8 0)], .agg [.lit (.int .u8 0), .lit (.int .u8 0)], .agg [.lit (.int .u8 0), .lit (.int .u8 0)]]
/-- One of Go's own tables, pinned by name: the form's constant. -/
def laid_unicode_utf8_first : DataW Unit := Go.Pinned.utf8First

/-- 'laws.FnExactAddrRead': WHATEVER THE INPUT: true; the input reads as it did. -/
def fnExactAddrReadSpec : ChangeSpec := { name := "fnExactAddrRead", fn := fun _ => fun
  | [d] => { results := [.lit (.bool true)], args := [d] }
  | _ => none }
def fnExactAddrReadRow : OpenClaim := { program := "ytochmlkladpfgaadoor", sum := "52016a621d25c354013f14b741c8b467e22440df00c94be1be4ebfd847b57dcb", func := "loop.example/pedlar/laws.FnExactAddrRead", spec := "fnExactAddrRead", inPlace := ["internal/bytealg.IndexByteString", "internal/bytealg.IndexString", "internal/bytealg.CountString", "internal/abi.NoEscape", "internal/bytealg.MakeNoZero"], named := ["internal/bytealg.MaxLen", "unicode/utf8.first", "unicode/utf8.acceptRanges"], apart := false, laid := [("unicode/utf8.acceptRanges", laid_unicode_utf8_acceptRanges), ("unicode/utf8.first", laid_unicode_utf8_first)] }
def FnExactAddrReadSaid : Prop := fnExactAddrReadRow.holds Tryd.pinned (OpenSpec.ofChange fnExactAddrReadSpec)

/-- ITS FALSE NEIGHBOUR: 'it returns false'. Refute it at one input. -/
def fnExactAddrReadWrong : ChangeSpec := { name := "fnExactAddrRead", fn := fun _ => fun
  | [d] => { results := [.lit (.bool false)], args := [d] }
  | _ => none }
def FnExactAddrReadWrongFalsely : Prop := fnExactAddrReadRow.holds Tryd.pinned (OpenSpec.ofChange fnExactAddrReadWrong)

/-- 'laws.FnAddrBack': WHATEVER THE INPUT: true; the input reads as it did. -/
def fnAddrBackSpec : ChangeSpec := { name := "fnAddrBack", fn := fun _ => fun
  | [d] => { results := [.lit (.bool true)], args := [d] }
  | _ => none }
def fnAddrBackRow : OpenClaim := { program := "ytochmlkladpfgaadoor", sum := "52016a621d25c354013f14b741c8b467e22440df00c94be1be4ebfd847b57dcb", func := "loop.example/pedlar/laws.FnAddrBack", spec := "fnAddrBack", inPlace := ["internal/abi.NoEscape", "internal/bytealg.MakeNoZero", "internal/bytealg.IndexByteString", "internal/bytealg.IndexString", "internal/bytealg.CountString"], named := ["internal/bytealg.MaxLen", "unicode/utf8.first", "unicode/utf8.acceptRanges"], apart := false, laid := [("unicode/utf8.acceptRanges", laid_unicode_utf8_acceptRanges), ("unicode/utf8.first", laid_unicode_utf8_first)] }
def FnAddrBackSaid : Prop := fnAddrBackRow.holds Tryd.pinned (OpenSpec.ofChange fnAddrBackSpec)

/-- ITS FALSE NEIGHBOUR: 'it returns false'. Refute it at one input. -/
def fnAddrBackWrong : ChangeSpec := { name := "fnAddrBack", fn := fun _ => fun
  | [d] => { results := [.lit (.bool false)], args := [d] }
  | _ => none }
def FnAddrBackWrongFalsely : Prop := fnAddrBackRow.holds Tryd.pinned (OpenSpec.ofChange fnAddrBackWrong)

/-- 'laws.FnAddrCross': WHATEVER THE INPUT: true; the input reads as it did. -/
def fnAddrCrossSpec : ChangeSpec := { name := "fnAddrCross", fn := fun _ => fun
  | [d] => { results := [.lit (.bool true)], args := [d] }
  | _ => none }
def fnAddrCrossRow : OpenClaim := { program := "ytochmlkladpfgaadoor", sum := "52016a621d25c354013f14b741c8b467e22440df00c94be1be4ebfd847b57dcb", func := "loop.example/pedlar/laws.FnAddrCross", spec := "fnAddrCross", inPlace := ["internal/bytealg.IndexByteString", "internal/bytealg.IndexString", "internal/bytealg.CountString", "internal/abi.NoEscape", "internal/bytealg.MakeNoZero"], named := ["internal/bytealg.MaxLen", "unicode/utf8.first", "unicode/utf8.acceptRanges"], apart := false, laid := [("unicode/utf8.acceptRanges", laid_unicode_utf8_acceptRanges), ("unicode/utf8.first", laid_unicode_utf8_first)] }
def FnAddrCrossSaid : Prop := fnAddrCrossRow.holds Tryd.pinned (OpenSpec.ofChange fnAddrCrossSpec)

/-- ITS FALSE NEIGHBOUR: 'it returns false'. Refute it at one input. -/
def fnAddrCrossWrong : ChangeSpec := { name := "fnAddrCross", fn := fun _ => fun
  | [d] => { results := [.lit (.bool false)], args := [d] }
  | _ => none }
def FnAddrCrossWrongFalsely : Prop := fnAddrCrossRow.holds Tryd.pinned (OpenSpec.ofChange fnAddrCrossWrong)

/-- 'laws.FnAddrGreat': WHATEVER THE INPUT: true; the input reads as it did. -/
def fnAddrGreatSpec : ChangeSpec := { name := "fnAddrGreat", fn := fun _ => fun
  | [d] => { results := [.lit (.bool true)], args := [d] }
  | _ => none }
def fnAddrGreatRow : OpenClaim := { program := "ytochmlkladpfgaadoor", sum := "52016a621d25c354013f14b741c8b467e22440df00c94be1be4ebfd847b57dcb", func := "loop.example/pedlar/laws.FnAddrGreat", spec := "fnAddrGreat", inPlace := ["internal/bytealg.IndexByteString", "internal/bytealg.IndexString", "internal/bytealg.CountString", "internal/abi.NoEscape", "internal/bytealg.MakeNoZero"], named := ["internal/bytealg.MaxLen", "unicode/utf8.first", "unicode/utf8.acceptRanges"], apart := false, laid := [("unicode/utf8.acceptRanges", laid_unicode_utf8_acceptRanges), ("unicode/utf8.first", laid_unicode_utf8_first)] }
def FnAddrGreatSaid : Prop := fnAddrGreatRow.holds Tryd.pinned (OpenSpec.ofChange fnAddrGreatSpec)

/-- ITS FALSE NEIGHBOUR: 'it returns false'. Refute it at one input. -/
def fnAddrGreatWrong : ChangeSpec := { name := "fnAddrGreat", fn := fun _ => fun
  | [d] => { results := [.lit (.bool false)], args := [d] }
  | _ => none }
def FnAddrGreatWrongFalsely : Prop := fnAddrGreatRow.holds Tryd.pinned (OpenSpec.ofChange fnAddrGreatWrong)

/-- 'laws.FnAddrStrict': WHATEVER THE INPUT: true; the input reads as it did. -/
def fnAddrStrictSpec : ChangeSpec := { name := "fnAddrStrict", fn := fun _ => fun
  | [d] => { results := [.lit (.bool true)], args := [d] }
  | _ => none }
def fnAddrStrictRow : OpenClaim := { program := "ytochmlkladpfgaadoor", sum := "52016a621d25c354013f14b741c8b467e22440df00c94be1be4ebfd847b57dcb", func := "loop.example/pedlar/laws.FnAddrStrict", spec := "fnAddrStrict", inPlace := ["internal/bytealg.IndexByteString", "internal/bytealg.IndexString", "internal/bytealg.CountString", "internal/abi.NoEscape", "internal/bytealg.MakeNoZero"], named := ["internal/bytealg.MaxLen", "unicode/utf8.first", "unicode/utf8.acceptRanges"], apart := false, laid := [("unicode/utf8.acceptRanges", laid_unicode_utf8_acceptRanges), ("unicode/utf8.first", laid_unicode_utf8_first)] }
def FnAddrStrictSaid : Prop := fnAddrStrictRow.holds Tryd.pinned (OpenSpec.ofChange fnAddrStrictSpec)

/-- ITS FALSE NEIGHBOUR: 'it returns false'. Refute it at one input. -/
def fnAddrStrictWrong : ChangeSpec := { name := "fnAddrStrict", fn := fun _ => fun
  | [d] => { results := [.lit (.bool false)], args := [d] }
  | _ => none }
def FnAddrStrictWrongFalsely : Prop := fnAddrStrictRow.holds Tryd.pinned (OpenSpec.ofChange fnAddrStrictWrong)

/- THE SECOND FORM. 'bulk': how many values and letters a reading holds, each counted each time it is reached (what is shared counts as often as it is met; a slice's spare places count too). A statement '..UptoSaid' is the law's where the arguments, and the package variables that the reading takes, are together of bulk at most 1048576: NARROWER than '..Said'. Prove '..Said' where nothing that the law and all that it calls make is longer than what came in: it says more and counts as full. Else prove '..UptoSaid'. A law counts once. -/
mutual
def uptoBulk {H : Type} : DataW H → Nat
  | .lit (.string bytes) => bytes.length + 1
  | .lit _ => 1
  | .nil => 1
  | .ptr d => uptoBulk d + 1
  | .slice elems spare => uptoBulkAll elems + uptoBulkAll spare + 1
  | .agg parts => uptoBulkAll parts + 1
  | .iface _ d => uptoBulk d + 1
  | .map entries => uptoBulkEntries entries + 1
  | .held _ => 1
def uptoBulkAll {H : Type} : List (DataW H) → Nat
  | [] => 0
  | d :: r => uptoBulk d + uptoBulkAll r
def uptoBulkEntries {H : Type} : List (Lit × DataW H) → Nat
  | [] => 0
  | x :: r => uptoBulkEntry x + uptoBulkEntries r
def uptoBulkEntry {H : Type} : Lit × DataW H → Nat
  | (.string bytes, d) => bytes.length + uptoBulk d + 1
  | (_, d) => uptoBulk d + 1
 end
def uptoSmall : (H : Type) → List (DataW H) → Bool := fun _ ds => decide (uptoBulkAll ds ≤ 1048576)
def OpenSpec.upto (s : _root_.Go.ChangeSpec) : _root_.Go.OpenSpec := { _root_.Go.OpenSpec.ofChange s with cond := some uptoSmall }

/-- 'laws.FnExactAddrRead', WHERE WHAT IT READS IS OF BULK AT MOST 1048576: true; the input reads as it did. -/
def fnExactAddrReadUptoRow : OpenClaim := { program := "ytochmlkladpfgaadoor", sum := "52016a621d25c354013f14b741c8b467e22440df00c94be1be4ebfd847b57dcb", func := "loop.example/pedlar/laws.FnExactAddrRead", spec := "fnExactAddrRead", inPlace := ["internal/bytealg.IndexByteString", "internal/bytealg.IndexString", "internal/bytealg.CountString", "internal/abi.NoEscape", "internal/bytealg.MakeNoZero"], named := ["internal/bytealg.MaxLen", "unicode/utf8.first", "unicode/utf8.acceptRanges"], apart := false, laid := [("unicode/utf8.acceptRanges", laid_unicode_utf8_acceptRanges), ("unicode/utf8.first", laid_unicode_utf8_first)], narrowed := true }
def FnExactAddrReadUptoSaid : Prop := fnExactAddrReadUptoRow.holds Tryd.pinned (OpenSpec.upto fnExactAddrReadSpec)

/-- 'laws.FnAddrBack', WHERE WHAT IT READS IS OF BULK AT MOST 1048576: true; the input reads as it did. -/
def fnAddrBackUptoRow : OpenClaim := { program := "ytochmlkladpfgaadoor", sum := "52016a621d25c354013f14b741c8b467e22440df00c94be1be4ebfd847b57dcb", func := "loop.example/pedlar/laws.FnAddrBack", spec := "fnAddrBack", inPlace := ["internal/abi.NoEscape", "internal/bytealg.MakeNoZero", "internal/bytealg.IndexByteString", "internal/bytealg.IndexString", "internal/bytealg.CountString"], named := ["internal/bytealg.MaxLen", "unicode/utf8.first", "unicode/utf8.acceptRanges"], apart := false, laid := [("unicode/utf8.acceptRanges", laid_unicode_utf8_acceptRanges), ("unicode/utf8.first", laid_unicode_utf8_first)], narrowed := true }
def FnAddrBackUptoSaid : Prop := fnAddrBackUptoRow.holds Tryd.pinned (OpenSpec.upto fnAddrBackSpec)

/-- 'laws.FnAddrCross', WHERE WHAT IT READS IS OF BULK AT MOST 1048576: true; the input reads as it did. -/
def fnAddrCrossUptoRow : OpenClaim := { program := "ytochmlkladpfgaadoor", sum := "52016a621d25c354013f14b741c8b467e22440df00c94be1be4ebfd847b57dcb", func := "loop.example/pedlar/laws.FnAddrCross", spec := "fnAddrCross", inPlace := ["internal/bytealg.IndexByteString", "internal/bytealg.IndexString", "internal/bytealg.CountString", "internal/abi.NoEscape", "internal/bytealg.MakeNoZero"], named := ["internal/bytealg.MaxLen", "unicode/utf8.first", "unicode/utf8.acceptRanges"], apart := false, laid := [("unicode/utf8.acceptRanges", laid_unicode_utf8_acceptRanges), ("unicode/utf8.first", laid_unicode_utf8_first)], narrowed := true }
def FnAddrCrossUptoSaid : Prop := fnAddrCrossUptoRow.holds Tryd.pinned (OpenSpec.upto fnAddrCrossSpec)

/-- 'laws.FnAddrGreat', WHERE WHAT IT READS IS OF BULK AT MOST 1048576: true; the input reads as it did. -/
def fnAddrGreatUptoRow : OpenClaim := { program := "ytochmlkladpfgaadoor", sum := "52016a621d25c354013f14b741c8b467e22440df00c94be1be4ebfd847b57dcb", func := "loop.example/pedlar/laws.FnAddrGreat", spec := "fnAddrGreat", inPlace := ["internal/bytealg.IndexByteString", "internal/bytealg.IndexString", "internal/bytealg.CountString", "internal/abi.NoEscape", "internal/bytealg.MakeNoZero"], named := ["internal/bytealg.MaxLen", "unicode/utf8.first", "unicode/utf8.acceptRanges"], apart := false, laid := [("unicode/utf8.acceptRanges", laid_unicode_utf8_acceptRanges), ("unicode/utf8.first", laid_unicode_utf8_first)], narrowed := true }
def FnAddrGreatUptoSaid : Prop := fnAddrGreatUptoRow.holds Tryd.pinned (OpenSpec.upto fnAddrGreatSpec)

/-- 'laws.FnAddrStrict', WHERE WHAT IT READS IS OF BULK AT MOST 1048576: true; the input reads as it did. -/
def fnAddrStrictUptoRow : OpenClaim := { program := "ytochmlkladpfgaadoor", sum := "52016a621d25c354013f14b741c8b467e22440df00c94be1be4ebfd847b57dcb", func := "loop.example/pedlar/laws.FnAddrStrict", spec := "fnAddrStrict", inPlace := ["internal/bytealg.IndexByteString", "internal/bytealg.IndexString", "internal/bytealg.CountString", "internal/abi.NoEscape", "internal/bytealg.MakeNoZero"], named := ["internal/bytealg.MaxLen", "unicode/utf8.first", "unicode/utf8.acceptRanges"], apart := false, laid := [("unicode/utf8.acceptRanges", laid_unicode_utf8_acceptRanges), ("unicode/utf8.first", laid_unicode_utf8_first)], narrowed := true }
def FnAddrStrictUptoSaid : Prop := fnAddrStrictUptoRow.holds Tryd.pinned (OpenSpec.upto fnAddrStrictSpec)

end Rows
end Go.Proofs.YtochmlkladpfgaaDoor
