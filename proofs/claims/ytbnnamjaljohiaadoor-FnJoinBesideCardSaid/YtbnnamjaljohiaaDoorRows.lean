/-
  NARROWER THAN 'FOR EVERY INPUT', by the rows' own cells (each row's printed sentence says how): FnJoinSelf: laid · FnJoinWhole: laid · FnExactAddrJoin: laid · FnAddrStroke: laid · FnJoinAsk: laid · FnJoinBeside: laid · FnJoinOk: laid · FnJoinUp: laid.
  DERIVED. THE GIVEN ROWS OF THIS SEAT. 8 by the template 'for every input the law returns true; each argument reads behind the call as it read before'; 0 by the template 'total and deterministic' (their statements: YtbnnamjaljohiaaDoorTotals.lean).
  GIVEN WITH THE SEED: the statements are not yours to turn. If you find one false, say at which input.
  Laid BY PROGRAM, IN A SANDBOX (cutbox-rows.mjs): the forced cells as the released guide's own fill.sh prints them over the translation ff7e0b443302a12e… (all of the seat's roots in one cut). By AI agents, Wed Nov 11 2026. No macro, syntax, notation, axiom, sorry.
-/
import Derived.Test.YtbnnamjaljohiaaDoorChecked
import GoSem.PinnedTables
import GoSem.Claim
import GoSem.ClaimJoined
import GoSem.ClaimMapViews
import Derived.JoinedTies
import Derived.KernelRfl
namespace Go.Proofs.YtbnnamjaljohiaaDoor
/- THE CELL 'sum', in the pinned program and in every row, IS THE sha256 OF THE DUMP (.gsa) THAT YtbnnamjaljohiaaDoorProg.lean LOADS. Nothing in Lean hashes anything: it is a label: what it is worth is what the hold of that sum in a sandbox is worth. -/
noncomputable def Tryd.pinned : Pinned := { name := "ytbnnamjaljohiaadoor", sum := "ff7e0b443302a12ecdad55f7902d39051592fd0fbbcec35431095def7ed37a68", checked := Tryd.checked }
namespace Rows
def none {H : Type} : Left H := { results := [], args := [] }

/- WHAT THE LISTED PACKAGE-LEVEL VARIABLES READ AS WHEN THE CALL BEGINS. Each datum BY PROGRAM (the guide's laid-datum.mjs) off the statement by which the dump's own 'gosem.cut.vars' lays the variable. In a bare row this is a premise. The card (YtbnnamjaljohiaaDoorCards.lean) ties it to the program's text. -/
def laid_unicode_utf8_acceptRanges {H : Type} : DataW H := .agg [.agg [.lit (.int .u8 128), .lit (.int .u8 191)], .agg [.lit (.int .u8 160), .lit (.int .u8 191)], .agg [.lit (.int .u8 128), .lit (.int .u8 159)], .agg [.lit (.int .u8 144), .lit (.int .u8 191)], .agg [.lit (.int .u8 128), .lit (.int .u8 143)], .agg [.lit (.int .u8 0), .lit (.int .u8 0)], .agg [.lit (.int .u8 0), .lit (.int .u8 0)], .agg [.lit (.int .u8 0), .lit (.int .u8 0)], .agg [.lit (.int .u8 0), .lit (.int .u8 0)], .agg [.lit (.int .u8 0), .lit (.int .u8 0)], .agg [.lit (.int .u8 0), .lit (.int .u8 0)], .agg [.lit (.int .u8 0), .lit (.int .u8 0)], .agg [.lit (.int .u8 0), .lit (.int .u8 0)], .agg [.lit (.int .u8 0), .lit (.int .u8 0)], .agg [.lit (.int .u8 0), .lit (.int .u8 0)], .agg [.lit (.int .u8 0), .lit (.int .u8 0)]]
/-- One of Go's own tables, pinned by name: the form's constant. -/
def laid_unicode_utf8_first : DataW Unit := Go.Pinned.utf8First

/-- 'laws.FnJoinSelf': WHATEVER THE INPUT: true; the input reads as it did. -/
def fnJoinSelfSpec : ChangeSpec := { name := "fnJoinSelf", fn := fun _ => fun
  | [d] => { results := [.lit (.bool true)], args := [d] }
  | _ => none }
def fnJoinSelfRow : OpenClaim := { program := "ytbnnamjaljohiaadoor", sum := "ff7e0b443302a12ecdad55f7902d39051592fd0fbbcec35431095def7ed37a68", func := "loop.example/pedlar/laws.FnJoinSelf", spec := "fnJoinSelf", inPlace := ["internal/abi.NoEscape", "internal/bytealg.MakeNoZero", "internal/bytealg.IndexByteString", "internal/bytealg.IndexString", "internal/bytealg.CountString"], named := ["internal/bytealg.MaxLen", "unicode/utf8.first", "unicode/utf8.acceptRanges"], apart := false, laid := [("unicode/utf8.acceptRanges", laid_unicode_utf8_acceptRanges), ("unicode/utf8.first", laid_unicode_utf8_first)] }
def FnJoinSelfSaid : Prop := fnJoinSelfRow.holds Tryd.pinned (OpenSpec.ofChange fnJoinSelfSpec)

/-- ITS FALSE NEIGHBOUR: 'it returns false'. Refute it at one input. -/
def fnJoinSelfWrong : ChangeSpec := { name := "fnJoinSelf", fn := fun _ => fun
  | [d] => { results := [.lit (.bool false)], args := [d] }
  | _ => none }
def FnJoinSelfWrongFalsely : Prop := fnJoinSelfRow.holds Tryd.pinned (OpenSpec.ofChange fnJoinSelfWrong)

/-- 'laws.FnJoinWhole': WHATEVER THE INPUT: true; the input reads as it did. -/
def fnJoinWholeSpec : ChangeSpec := { name := "fnJoinWhole", fn := fun _ => fun
  | [d1, d2] => { results := [.lit (.bool true)], args := [d1, d2] }
  | _ => none }
def fnJoinWholeRow : OpenClaim := { program := "ytbnnamjaljohiaadoor", sum := "ff7e0b443302a12ecdad55f7902d39051592fd0fbbcec35431095def7ed37a68", func := "loop.example/pedlar/laws.FnJoinWhole", spec := "fnJoinWhole", inPlace := ["internal/abi.NoEscape", "internal/bytealg.MakeNoZero", "internal/bytealg.IndexByteString", "internal/bytealg.IndexString", "internal/bytealg.CountString"], named := ["internal/bytealg.MaxLen", "unicode/utf8.first", "unicode/utf8.acceptRanges"], apart := false, laid := [("unicode/utf8.acceptRanges", laid_unicode_utf8_acceptRanges), ("unicode/utf8.first", laid_unicode_utf8_first)] }
def FnJoinWholeSaid : Prop := fnJoinWholeRow.holds Tryd.pinned (OpenSpec.ofChange fnJoinWholeSpec)

/-- ITS FALSE NEIGHBOUR: 'it returns false'. Refute it at one input. -/
def fnJoinWholeWrong : ChangeSpec := { name := "fnJoinWhole", fn := fun _ => fun
  | [d1, d2] => { results := [.lit (.bool false)], args := [d1, d2] }
  | _ => none }
def FnJoinWholeWrongFalsely : Prop := fnJoinWholeRow.holds Tryd.pinned (OpenSpec.ofChange fnJoinWholeWrong)

/-- 'laws.FnExactAddrJoin': WHATEVER THE INPUT: true; the input reads as it did. -/
def fnExactAddrJoinSpec : ChangeSpec := { name := "fnExactAddrJoin", fn := fun _ => fun
  | [d1, d2] => { results := [.lit (.bool true)], args := [d1, d2] }
  | _ => none }
def fnExactAddrJoinRow : OpenClaim := { program := "ytbnnamjaljohiaadoor", sum := "ff7e0b443302a12ecdad55f7902d39051592fd0fbbcec35431095def7ed37a68", func := "loop.example/pedlar/laws.FnExactAddrJoin", spec := "fnExactAddrJoin", inPlace := ["internal/abi.NoEscape", "internal/bytealg.MakeNoZero", "internal/bytealg.IndexByteString", "internal/bytealg.IndexString", "internal/bytealg.CountString"], named := ["internal/bytealg.MaxLen", "unicode/utf8.first", "unicode/utf8.acceptRanges"], apart := false, laid := [("unicode/utf8.acceptRanges", laid_unicode_utf8_acceptRanges), ("unicode/utf8.first", laid_unicode_utf8_first)] }
def FnExactAddrJoinSaid : Prop := fnExactAddrJoinRow.holds Tryd.pinned (OpenSpec.ofChange fnExactAddrJoinSpec)

/-- ITS FALSE NEIGHBOUR: 'it returns false'. Refute it at one input. -/
def fnExactAddrJoinWrong : ChangeSpec := { name := "fnExactAddrJoin", fn := fun _ => fun
  | [d1, d2] => { results := [.lit (.bool false)], args := [d1, d2] }
  | _ => none }
def FnExactAddrJoinWrongFalsely : Prop := fnExactAddrJoinRow.holds Tryd.pinned (OpenSpec.ofChange fnExactAddrJoinWrong)

/-- 'laws.FnAddrStroke': WHATEVER THE INPUT: true; the input reads as it did. -/
def fnAddrStrokeSpec : ChangeSpec := { name := "fnAddrStroke", fn := fun _ => fun
  | [d] => { results := [.lit (.bool true)], args := [d] }
  | _ => none }
def fnAddrStrokeRow : OpenClaim := { program := "ytbnnamjaljohiaadoor", sum := "ff7e0b443302a12ecdad55f7902d39051592fd0fbbcec35431095def7ed37a68", func := "loop.example/pedlar/laws.FnAddrStroke", spec := "fnAddrStroke", inPlace := ["internal/bytealg.IndexByteString", "internal/bytealg.IndexString", "internal/bytealg.CountString", "internal/abi.NoEscape", "internal/bytealg.MakeNoZero"], named := ["internal/bytealg.MaxLen", "unicode/utf8.first", "unicode/utf8.acceptRanges"], apart := false, laid := [("unicode/utf8.acceptRanges", laid_unicode_utf8_acceptRanges), ("unicode/utf8.first", laid_unicode_utf8_first)] }
def FnAddrStrokeSaid : Prop := fnAddrStrokeRow.holds Tryd.pinned (OpenSpec.ofChange fnAddrStrokeSpec)

/-- ITS FALSE NEIGHBOUR: 'it returns false'. Refute it at one input. -/
def fnAddrStrokeWrong : ChangeSpec := { name := "fnAddrStroke", fn := fun _ => fun
  | [d] => { results := [.lit (.bool false)], args := [d] }
  | _ => none }
def FnAddrStrokeWrongFalsely : Prop := fnAddrStrokeRow.holds Tryd.pinned (OpenSpec.ofChange fnAddrStrokeWrong)

/-- 'laws.FnJoinAsk': WHATEVER THE INPUT: true; the input reads as it did. -/
def fnJoinAskSpec : ChangeSpec := { name := "fnJoinAsk", fn := fun _ => fun
  | [d] => { results := [.lit (.bool true)], args := [d] }
  | _ => none }
def fnJoinAskRow : OpenClaim := { program := "ytbnnamjaljohiaadoor", sum := "ff7e0b443302a12ecdad55f7902d39051592fd0fbbcec35431095def7ed37a68", func := "loop.example/pedlar/laws.FnJoinAsk", spec := "fnJoinAsk", inPlace := ["internal/abi.NoEscape", "internal/bytealg.MakeNoZero", "internal/bytealg.IndexByteString", "internal/bytealg.IndexString", "internal/bytealg.CountString"], named := ["internal/bytealg.MaxLen", "unicode/utf8.first", "unicode/utf8.acceptRanges"], apart := false, laid := [("unicode/utf8.acceptRanges", laid_unicode_utf8_acceptRanges), ("unicode/utf8.first", laid_unicode_utf8_first)] }
def FnJoinAskSaid : Prop := fnJoinAskRow.holds Tryd.pinned (OpenSpec.ofChange fnJoinAskSpec)

/-- ITS FALSE NEIGHBOUR: 'it returns false'. Refute it at one input. -/
def fnJoinAskWrong : ChangeSpec := { name := "fnJoinAsk", fn := fun _ => fun
  | [d] => { results := [.lit (.bool false)], args := [d] }
  | _ => none }
def FnJoinAskWrongFalsely : Prop := fnJoinAskRow.holds Tryd.pinned (OpenSpec.ofChange fnJoinAskWrong)

/-- 'laws.FnJoinBeside': WHATEVER THE INPUT: true; the input reads as it did. -/
def fnJoinBesideSpec : ChangeSpec := { name := "fnJoinBeside", fn := fun _ => fun
  | [d] => { results := [.lit (.bool true)], args := [d] }
  | _ => none }
def fnJoinBesideRow : OpenClaim := { program := "ytbnnamjaljohiaadoor", sum := "ff7e0b443302a12ecdad55f7902d39051592fd0fbbcec35431095def7ed37a68", func := "loop.example/pedlar/laws.FnJoinBeside", spec := "fnJoinBeside", inPlace := ["internal/abi.NoEscape", "internal/bytealg.MakeNoZero", "internal/bytealg.IndexByteString", "internal/bytealg.IndexString", "internal/bytealg.CountString"], named := ["internal/bytealg.MaxLen", "unicode/utf8.first", "unicode/utf8.acceptRanges"], apart := false, laid := [("unicode/utf8.acceptRanges", laid_unicode_utf8_acceptRanges), ("unicode/utf8.first", laid_unicode_utf8_first)] }
def FnJoinBesideSaid : Prop := fnJoinBesideRow.holds Tryd.pinned (OpenSpec.ofChange fnJoinBesideSpec)

/-- ITS FALSE NEIGHBOUR: 'it returns false'. Refute it at one input. -/
def fnJoinBesideWrong : ChangeSpec := { name := "fnJoinBeside", fn := fun _ => fun
  | [d] => { results := [.lit (.bool false)], args := [d] }
  | _ => none }
def FnJoinBesideWrongFalsely : Prop := fnJoinBesideRow.holds Tryd.pinned (OpenSpec.ofChange fnJoinBesideWrong)

/-- 'laws.FnJoinOk': WHATEVER THE INPUT: true; the input reads as it did. -/
def fnJoinOkSpec : ChangeSpec := { name := "fnJoinOk", fn := fun _ => fun
  | [d] => { results := [.lit (.bool true)], args := [d] }
  | _ => none }
def fnJoinOkRow : OpenClaim := { program := "ytbnnamjaljohiaadoor", sum := "ff7e0b443302a12ecdad55f7902d39051592fd0fbbcec35431095def7ed37a68", func := "loop.example/pedlar/laws.FnJoinOk", spec := "fnJoinOk", inPlace := ["internal/abi.NoEscape", "internal/bytealg.MakeNoZero", "internal/bytealg.IndexByteString", "internal/bytealg.IndexString", "internal/bytealg.CountString"], named := ["internal/bytealg.MaxLen", "unicode/utf8.first", "unicode/utf8.acceptRanges"], apart := false, laid := [("unicode/utf8.acceptRanges", laid_unicode_utf8_acceptRanges), ("unicode/utf8.first", laid_unicode_utf8_first)] }
def FnJoinOkSaid : Prop := fnJoinOkRow.holds Tryd.pinned (OpenSpec.ofChange fnJoinOkSpec)

/-- ITS FALSE NEIGHBOUR: 'it returns false'. Refute it at one input. -/
def fnJoinOkWrong : ChangeSpec := { name := "fnJoinOk", fn := fun _ => fun
  | [d] => { results := [.lit (.bool false)], args := [d] }
  | _ => none }
def FnJoinOkWrongFalsely : Prop := fnJoinOkRow.holds Tryd.pinned (OpenSpec.ofChange fnJoinOkWrong)

/-- 'laws.FnJoinUp': WHATEVER THE INPUT: true; the input reads as it did. -/
def fnJoinUpSpec : ChangeSpec := { name := "fnJoinUp", fn := fun _ => fun
  | [d] => { results := [.lit (.bool true)], args := [d] }
  | _ => none }
def fnJoinUpRow : OpenClaim := { program := "ytbnnamjaljohiaadoor", sum := "ff7e0b443302a12ecdad55f7902d39051592fd0fbbcec35431095def7ed37a68", func := "loop.example/pedlar/laws.FnJoinUp", spec := "fnJoinUp", inPlace := ["internal/abi.NoEscape", "internal/bytealg.MakeNoZero", "internal/bytealg.IndexByteString", "internal/bytealg.IndexString", "internal/bytealg.CountString"], named := ["internal/bytealg.MaxLen", "unicode/utf8.first", "unicode/utf8.acceptRanges"], apart := false, laid := [("unicode/utf8.acceptRanges", laid_unicode_utf8_acceptRanges), ("unicode/utf8.first", laid_unicode_utf8_first)] }
def FnJoinUpSaid : Prop := fnJoinUpRow.holds Tryd.pinned (OpenSpec.ofChange fnJoinUpSpec)

/-- ITS FALSE NEIGHBOUR: 'it returns false'. Refute it at one input. -/
def fnJoinUpWrong : ChangeSpec := { name := "fnJoinUp", fn := fun _ => fun
  | [d] => { results := [.lit (.bool false)], args := [d] }
  | _ => none }
def FnJoinUpWrongFalsely : Prop := fnJoinUpRow.holds Tryd.pinned (OpenSpec.ofChange fnJoinUpWrong)

/- THE SECOND FORM. 'bulk': how many values and letters a reading holds, each counted each time it is reached (what is shared counts as often as it is met; a slice's spare places count too). A statement '..UptoSaid' is the law's where the arguments, and the package variables that the reading takes, are together of bulk at most 1048576: NARROWER than '..Said'. Prove '..Said' where nothing that the law and all that it calls make is longer than what came in: it says more and counts as full. Else prove '..UptoSaid'. A law counts once. -/
mutual
def uptoBulk {H : Type} : DataW H → Nat
  | .lit (.string bytes) => bytes.length + 1
  | .lit _ => 1
  | .nil => 1
  | .ptr d => uptoBulk d + 1
  | .slice elems spare => uptoBulkAll elems + uptoBulkAll spare + 1
  | .agg parts => uptoBulkAll parts + 1
  | .iface _ d => uptoBulk d + 1
  | .map entries => uptoBulkEntries entries + 1
  | .held _ => 1
def uptoBulkAll {H : Type} : List (DataW H) → Nat
  | [] => 0
  | d :: r => uptoBulk d + uptoBulkAll r
def uptoBulkEntries {H : Type} : List (Lit × DataW H) → Nat
  | [] => 0
  | x :: r => uptoBulkEntry x + uptoBulkEntries r
def uptoBulkEntry {H : Type} : Lit × DataW H → Nat
  | (.string bytes, d) => bytes.length + uptoBulk d + 1
  | (_, d) => uptoBulk d + 1
 end
def uptoSmall : (H : Type) → List (DataW H) → Bool := fun _ ds => decide (uptoBulkAll ds ≤ 1048576)
def OpenSpec.upto (s : _root_.Go.ChangeSpec) : _root_.Go.OpenSpec := { _root_.Go.OpenSpec.ofChange s with cond := some uptoSmall }

/-- 'laws.FnJoinSelf', WHERE WHAT IT READS IS OF BULK AT MOST 1048576: true; the input reads as it did. -/
def fnJoinSelfUptoRow : OpenClaim := { program := "ytbnnamjaljohiaadoor", sum := "ff7e0b443302a12ecdad55f7902d39051592fd0fbbcec35431095def7ed37a68", func := "loop.example/pedlar/laws.FnJoinSelf", spec := "fnJoinSelf", inPlace := ["internal/abi.NoEscape", "internal/bytealg.MakeNoZero", "internal/bytealg.IndexByteString", "internal/bytealg.IndexString", "internal/bytealg.CountString"], named := ["internal/bytealg.MaxLen", "unicode/utf8.first", "unicode/utf8.acceptRanges"], apart := false, laid := [("unicode/utf8.acceptRanges", laid_unicode_utf8_acceptRanges), ("unicode/utf8.first", laid_unicode_utf8_first)], narrowed := true }
def FnJoinSelfUptoSaid : Prop := fnJoinSelfUptoRow.holds Tryd.pinned (OpenSpec.upto fnJoinSelfSpec)

/-- 'laws.FnJoinWhole', WHERE WHAT IT READS IS OF BULK AT MOST 1048576: true; the input reads as it did. -/
def fnJoinWholeUptoRow : OpenClaim := { program := "ytbnnamjaljohiaadoor", sum := "ff7e0b443302a12ecdad55f7902d39051592fd0fbbcec35431095def7ed37a68", func := "loop.example/pedlar/laws.FnJoinWhole", spec := "fnJoinWhole", inPlace := ["internal/abi.NoEscape", "internal/bytealg.MakeNoZero", "internal/bytealg.IndexByteString", "internal/bytealg.IndexString", "internal/bytealg.CountString"], named := ["internal/bytealg.MaxLen", "unicode/utf8.first", "unicode/utf8.acceptRanges"], apart := false, laid := [("unicode/utf8.acceptRanges", laid_unicode_utf8_acceptRanges), ("unicode/utf8.first", laid_unicode_utf8_first)], narrowed := true }
def FnJoinWholeUptoSaid : Prop := fnJoinWholeUptoRow.holds Tryd.pinned (OpenSpec.upto fnJoinWholeSpec)

/-- 'laws.FnExactAddrJoin', WHERE WHAT IT READS IS OF BULK AT MOST 1048576: true; the input reads as it did. -/
def fnExactAddrJoinUptoRow : OpenClaim := { program := "ytbnnamjaljohiaadoor", sum := "ff7e0b443302a12ecdad55f7902d39051592fd0fbbcec35431095def7ed37a68", func := "loop.example/pedlar/laws.FnExactAddrJoin", spec := "fnExactAddrJoin", inPlace := ["internal/abi.NoEscape", "internal/bytealg.MakeNoZero", "internal/bytealg.IndexByteString", "internal/bytealg.IndexString", "internal/bytealg.CountString"], named := ["internal/bytealg.MaxLen", "unicode/utf8.first", "unicode/utf8.acceptRanges"], apart := false, laid := [("unicode/utf8.acceptRanges", laid_unicode_utf8_acceptRanges), ("unicode/utf8.first", laid_unicode_utf8_first)], narrowed := true }
def FnExactAddrJoinUptoSaid : Prop := fnExactAddrJoinUptoRow.holds Tryd.pinned (OpenSpec.upto fnExactAddrJoinSpec)

/-- 'laws.FnAddrStroke', WHERE WHAT IT READS IS OF BULK AT MOST 1048576: true; the input reads as it did. -/
def fnAddrStrokeUptoRow : OpenClaim := { program := "ytbnnamjaljohiaadoor", sum := "ff7e0b443302a12ecdad55f7902d39051592fd0fbbcec35431095def7ed37a68", func := "loop.example/pedlar/laws.FnAddrStroke", spec := "fnAddrStroke", inPlace := ["internal/bytealg.IndexByteString", "internal/bytealg.IndexString", "internal/bytealg.CountString", "internal/abi.NoEscape", "internal/bytealg.MakeNoZero"], named := ["internal/bytealg.MaxLen", "unicode/utf8.first", "unicode/utf8.acceptRanges"], apart := false, laid := [("unicode/utf8.acceptRanges", laid_unicode_utf8_acceptRanges), ("unicode/utf8.first", laid_unicode_utf8_first)], narrowed := true }
def FnAddrStrokeUptoSaid : Prop := fnAddrStrokeUptoRow.holds Tryd.pinned (OpenSpec.upto fnAddrStrokeSpec)

/-- 'laws.FnJoinAsk', WHERE WHAT IT READS IS OF BULK AT MOST 1048576: true; the input reads as it did. -/
def fnJoinAskUptoRow : OpenClaim := { program := "ytbnnamjaljohiaadoor", sum := "ff7e0b443302a12ecdad55f7902d39051592fd0fbbcec35431095def7ed37a68", func := "loop.example/pedlar/laws.FnJoinAsk", spec := "fnJoinAsk", inPlace := ["internal/abi.NoEscape", "internal/bytealg.MakeNoZero", "internal/bytealg.IndexByteString", "internal/bytealg.IndexString", "internal/bytealg.CountString"], named := ["internal/bytealg.MaxLen", "unicode/utf8.first", "unicode/utf8.acceptRanges"], apart := false, laid := [("unicode/utf8.acceptRanges", laid_unicode_utf8_acceptRanges), ("unicode/utf8.first", laid_unicode_utf8_first)], narrowed := true }
def FnJoinAskUptoSaid : Prop := fnJoinAskUptoRow.holds Tryd.pinned (OpenSpec.upto fnJoinAskSpec)

/-- 'laws.FnJoinBeside', WHERE WHAT IT READS IS OF BULK AT MOST 1048576: true; the input reads as it did. -/
def fnJoinBesideUptoRow : OpenClaim := { program := "ytbnnamjaljohiaadoor", sum := "ff7e0b443302a12ecdad55f7902d39051592fd0fbbcec35431095def7ed37a68", func := "loop.example/pedlar/laws.FnJoinBeside", spec := "fnJoinBeside", inPlace := ["internal/abi.NoEscape", "internal/bytealg.MakeNoZero", "internal/bytealg.IndexByteString", "internal/bytealg.IndexString", "internal/bytealg.CountString"], named := ["internal/bytealg.MaxLen", "unicode/utf8.first", "unicode/utf8.acceptRanges"], apart := false, laid := [("unicode/utf8.acceptRanges", laid_unicode_utf8_acceptRanges), ("unicode/utf8.first", laid_unicode_utf8_first)], narrowed := true }
def FnJoinBesideUptoSaid : Prop := fnJoinBesideUptoRow.holds Tryd.pinned (OpenSpec.upto fnJoinBesideSpec)

/-- 'laws.FnJoinOk', WHERE WHAT IT READS IS OF BULK AT MOST 1048576: true; the input reads as it did. -/
def fnJoinOkUptoRow : OpenClaim := { program := "ytbnnamjaljohiaadoor", sum := "ff7e0b443302a12ecdad55f7902d39051592fd0fbbcec35431095def7ed37a68", func := "loop.example/pedlar/laws.FnJoinOk", spec := "fnJoinOk", inPlace := ["internal/abi.NoEscape", "internal/bytealg.MakeNoZero", "internal/bytealg.IndexByteString", "internal/bytealg.IndexString", "internal/bytealg.CountString"], named := ["internal/bytealg.MaxLen", "unicode/utf8.first", "unicode/utf8.acceptRanges"], apart := false, laid := [("unicode/utf8.acceptRanges", laid_unicode_utf8_acceptRanges), ("unicode/utf8.first", laid_unicode_utf8_first)], narrowed := true }
def FnJoinOkUptoSaid : Prop := fnJoinOkUptoRow.holds Tryd.pinned (OpenSpec.upto fnJoinOkSpec)

/-- 'laws.FnJoinUp', WHERE WHAT IT READS IS OF BULK AT MOST 1048576: true; the input reads as it did. -/
def fnJoinUpUptoRow : OpenClaim := { program := "ytbnnamjaljohiaadoor", sum := "ff7e0b443302a12ecdad55f7902d39051592fd0fbbcec35431095def7ed37a68", func := "loop.example/pedlar/laws.FnJoinUp", spec := "fnJoinUp", inPlace := ["internal/abi.NoEscape", "internal/bytealg.MakeNoZero", "internal/bytealg.IndexByteString", "internal/bytealg.IndexString", "internal/bytealg.CountString"], named := ["internal/bytealg.MaxLen", "unicode/utf8.first", "unicode/utf8.acceptRanges"], apart := false, laid := [("unicode/utf8.acceptRanges", laid_unicode_utf8_acceptRanges), ("unicode/utf8.first", laid_unicode_utf8_first)], narrowed := true }
def FnJoinUpUptoSaid : Prop := fnJoinUpUptoRow.holds Tryd.pinned (OpenSpec.upto fnJoinUpSpec)

end Rows
end Go.Proofs.YtbnnamjaljohiaaDoor
