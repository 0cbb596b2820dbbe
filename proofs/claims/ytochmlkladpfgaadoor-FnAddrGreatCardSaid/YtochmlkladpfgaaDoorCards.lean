/-
  DERIVED. GIVEN WITH THE SEED: THE CARDS: each row of YtochmlkladpfgaaDoorRows.lean that lists a variable, with what it lists TIED to the program's text (the seventh form; the later family's looks); each row that meets fmt, with fmt's text TOLD by the authors' own Lean function (tested against real Go, not proved from fmt's source: count such statements apart). THE CARD IS WHAT COUNTS. Prove the row's statement (the work); the ties are given (YtochmlkladpfgaaDoorTie.lean); close each card by the builder's one call (the guide's Derived/Test/ToyasCard.lean, 'card_holds'). Laid BY PROGRAM, IN A SANDBOX (cutbox-door.mjs). By AI agents, Wed Nov 11 2026. No macro, syntax, notation, axiom, sorry.
-/
import Derived.Test.YtochmlkladpfgaaDoorRows
import GoSem.ClaimSeven
namespace Go.Proofs.YtochmlkladpfgaaDoor
namespace Rows

/-- THE TIED CARD OF 'laws.FnExactAddrRead'. -/
def fnExactAddrReadCard : Claim7 := { stood := { row := fnExactAddrReadRow, standIns := [], harness := (true, "294cd87e1caf684489d03485694db8448e4ebe46750467de4aa169940f778e0c"), looks := false }, kinds := [], alts := [], laidByText := true, laidKinds := [.data, .pinned], laidTests := true, laidLooks := .later }
def FnExactAddrReadCardSaid : Prop := Claim7.holds Tryd.pinned (.plain (OpenSpec.ofChange fnExactAddrReadSpec)) fnExactAddrReadCard

/-- THE TIED CARD OF 'laws.FnAddrBack'. -/
def fnAddrBackCard : Claim7 := { stood := { row := fnAddrBackRow, standIns := [], harness := (true, "294cd87e1caf684489d03485694db8448e4ebe46750467de4aa169940f778e0c"), looks := false }, kinds := [], alts := [], laidByText := true, laidKinds := [.data, .pinned], laidTests := true, laidLooks := .later }
def FnAddrBackCardSaid : Prop := Claim7.holds Tryd.pinned (.plain (OpenSpec.ofChange fnAddrBackSpec)) fnAddrBackCard

/-- THE TIED CARD OF 'laws.FnAddrCross'. -/
def fnAddrCrossCard : Claim7 := { stood := { row := fnAddrCrossRow, standIns := [], harness := (true, "294cd87e1caf684489d03485694db8448e4ebe46750467de4aa169940f778e0c"), looks := false }, kinds := [], alts := [], laidByText := true, laidKinds := [.data, .pinned], laidTests := true, laidLooks := .later }
def FnAddrCrossCardSaid : Prop := Claim7.holds Tryd.pinned (.plain (OpenSpec.ofChange fnAddrCrossSpec)) fnAddrCrossCard

/-- THE TIED CARD OF 'laws.FnAddrGreat'. -/
def fnAddrGreatCard : Claim7 := { stood := { row := fnAddrGreatRow, standIns := [], harness := (true, "294cd87e1caf684489d03485694db8448e4ebe46750467de4aa169940f778e0c"), looks := false }, kinds := [], alts := [], laidByText := true, laidKinds := [.data, .pinned], laidTests := true, laidLooks := .later }
def FnAddrGreatCardSaid : Prop := Claim7.holds Tryd.pinned (.plain (OpenSpec.ofChange fnAddrGreatSpec)) fnAddrGreatCard

/-- THE TIED CARD OF 'laws.FnAddrStrict'. -/
def fnAddrStrictCard : Claim7 := { stood := { row := fnAddrStrictRow, standIns := [], harness := (true, "294cd87e1caf684489d03485694db8448e4ebe46750467de4aa169940f778e0c"), looks := false }, kinds := [], alts := [], laidByText := true, laidKinds := [.data, .pinned], laidTests := true, laidLooks := .later }
def FnAddrStrictCardSaid : Prop := Claim7.holds Tryd.pinned (.plain (OpenSpec.ofChange fnAddrStrictSpec)) fnAddrStrictCard

/-- THE SECOND FORM's CARD OF 'laws.FnExactAddrRead'. -/
def fnExactAddrReadUptoCard : Claim7 := { stood := { row := fnExactAddrReadUptoRow, standIns := [], harness := (true, "294cd87e1caf684489d03485694db8448e4ebe46750467de4aa169940f778e0c"), looks := false }, kinds := [], alts := [], laidByText := true, laidKinds := [.data, .pinned], laidTests := true, laidLooks := .later }
def FnExactAddrReadUptoCardSaid : Prop := Claim7.holds Tryd.pinned (.plain (OpenSpec.upto fnExactAddrReadSpec)) fnExactAddrReadUptoCard

/-- THE SECOND FORM's CARD OF 'laws.FnAddrBack'. -/
def fnAddrBackUptoCard : Claim7 := { stood := { row := fnAddrBackUptoRow, standIns := [], harness := (true, "294cd87e1caf684489d03485694db8448e4ebe46750467de4aa169940f778e0c"), looks := false }, kinds := [], alts := [], laidByText := true, laidKinds := [.data, .pinned], laidTests := true, laidLooks := .later }
def FnAddrBackUptoCardSaid : Prop := Claim7.holds Tryd.pinned (.plain (OpenSpec.upto fnAddrBackSpec)) fnAddrBackUptoCard

/-- THE SECOND FORM's CARD OF 'laws.FnAddrCross'. -/
def fnAddrCrossUptoCard : Claim7 := { stood := { row := fnAddrCrossUptoRow, standIns := [], harness := (true, "294cd87e1caf684489d03485694db8448e4ebe46750467de4aa169940f778e0c"), looks := false }, kinds := [], alts := [], laidByText := true, laidKinds := [.data, .pinned], laidTests := true, laidLooks := .later }
def FnAddrCrossUptoCardSaid : Prop := Claim7.holds Tryd.pinned (.plain (OpenSpec.upto fnAddrCrossSpec)) fnAddrCrossUptoCard

/-- THE SECOND FORM's CARD OF 'laws.FnAddrGreat'. -/
def fnAddrGreatUptoCard : Claim7 := { stood := { row := fnAddrGreatUptoRow, standIns := [], harness := (true, "294cd87e1caf684489d03485694db8448e4ebe46750467de4aa169940f778e0c"), looks := false }, kinds := [], alts := [], laidByText := true, laidKinds := [.data, .pinned], laidTests := true, laidLooks := .later }
def FnAddrGreatUptoCardSaid : Prop := Claim7.holds Tryd.pinned (.plain (OpenSpec.upto fnAddrGreatSpec)) fnAddrGreatUptoCard

/-- THE SECOND FORM's CARD OF 'laws.FnAddrStrict'. -/
def fnAddrStrictUptoCard : Claim7 := { stood := { row := fnAddrStrictUptoRow, standIns := [], harness := (true, "294cd87e1caf684489d03485694db8448e4ebe46750467de4aa169940f778e0c"), looks := false }, kinds := [], alts := [], laidByText := true, laidKinds := [.data, .pinned], laidTests := true, laidLooks := .later }
def FnAddrStrictUptoCardSaid : Prop := Claim7.holds Tryd.pinned (.plain (OpenSpec.upto fnAddrStrictSpec)) fnAddrStrictUptoCard
end Rows
end Go.Proofs.YtochmlkladpfgaaDoor
