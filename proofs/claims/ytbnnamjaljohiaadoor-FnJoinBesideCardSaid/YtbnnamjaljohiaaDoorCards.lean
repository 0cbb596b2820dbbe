/-
  DERIVED. GIVEN WITH THE SEED: THE CARDS: each row of YtbnnamjaljohiaaDoorRows.lean that lists a variable, with what it lists TIED to the program's text (the seventh form; the later family's looks); each row that meets fmt, with fmt's text TOLD by the authors' own Lean function (tested against real Go, not proved from fmt's source: count such statements apart). THE CARD IS WHAT COUNTS. Prove the row's statement (the work); the ties are given (YtbnnamjaljohiaaDoorTie.lean); close each card by the builder's one call (the guide's Derived/Test/ToyasCard.lean, 'card_holds'). Laid BY PROGRAM, IN A SANDBOX (cutbox-door.mjs). By AI agents, Wed Nov 11 2026. No macro, syntax, notation, axiom, sorry.
-/
import Derived.Test.YtbnnamjaljohiaaDoorRows
import GoSem.ClaimSeven
namespace Go.Proofs.YtbnnamjaljohiaaDoor
namespace Rows

/-- THE TIED CARD OF 'laws.FnJoinSelf'. -/
def fnJoinSelfCard : Claim7 := { stood := { row := fnJoinSelfRow, standIns := [], harness := (true, "4a49a9f1dcc4e4548cbf6b20141b72940d22b3202c3c4aedd59b340bc8c2ec91"), looks := false }, kinds := [], alts := [], laidByText := true, laidKinds := [.data, .pinned], laidTests := true, laidLooks := .later }
def FnJoinSelfCardSaid : Prop := Claim7.holds Tryd.pinned (.plain (OpenSpec.ofChange fnJoinSelfSpec)) fnJoinSelfCard

/-- THE TIED CARD OF 'laws.FnJoinWhole'. -/
def fnJoinWholeCard : Claim7 := { stood := { row := fnJoinWholeRow, standIns := [], harness := (true, "4a49a9f1dcc4e4548cbf6b20141b72940d22b3202c3c4aedd59b340bc8c2ec91"), looks := false }, kinds := [], alts := [], laidByText := true, laidKinds := [.data, .pinned], laidTests := true, laidLooks := .later }
def FnJoinWholeCardSaid : Prop := Claim7.holds Tryd.pinned (.plain (OpenSpec.ofChange fnJoinWholeSpec)) fnJoinWholeCard

/-- THE TIED CARD OF 'laws.FnExactAddrJoin'. -/
def fnExactAddrJoinCard : Claim7 := { stood := { row := fnExactAddrJoinRow, standIns := [], harness := (true, "4a49a9f1dcc4e4548cbf6b20141b72940d22b3202c3c4aedd59b340bc8c2ec91"), looks := false }, kinds := [], alts := [], laidByText := true, laidKinds := [.data, .pinned], laidTests := true, laidLooks := .later }
def FnExactAddrJoinCardSaid : Prop := Claim7.holds Tryd.pinned (.plain (OpenSpec.ofChange fnExactAddrJoinSpec)) fnExactAddrJoinCard

/-- THE TIED CARD OF 'laws.FnAddrStroke'. -/
def fnAddrStrokeCard : Claim7 := { stood := { row := fnAddrStrokeRow, standIns := [], harness := (true, "4a49a9f1dcc4e4548cbf6b20141b72940d22b3202c3c4aedd59b340bc8c2ec91"), looks := false }, kinds := [], alts := [], laidByText := true, laidKinds := [.data, .pinned], laidTests := true, laidLooks := .later }
def FnAddrStrokeCardSaid : Prop := Claim7.holds Tryd.pinned (.plain (OpenSpec.ofChange fnAddrStrokeSpec)) fnAddrStrokeCard

/-- THE TIED CARD OF 'laws.FnJoinAsk'. -/
def fnJoinAskCard : Claim7 := { stood := { row := fnJoinAskRow, standIns := [], harness := (true, "4a49a9f1dcc4e4548cbf6b20141b72940d22b3202c3c4aedd59b340bc8c2ec91"), looks := false }, kinds := [], alts := [], laidByText := true, laidKinds := [.data, .pinned], laidTests := true, laidLooks := .later }
def FnJoinAskCardSaid : Prop := Claim7.holds Tryd.pinned (.plain (OpenSpec.ofChange fnJoinAskSpec)) fnJoinAskCard

/-- THE TIED CARD OF 'laws.FnJoinBeside'. -/
def fnJoinBesideCard : Claim7 := { stood := { row := fnJoinBesideRow, standIns := [], harness := (true, "4a49a9f1dcc4e4548cbf6b20141b72940d22b3202c3c4aedd59b340bc8c2ec91"), looks := false }, kinds := [], alts := [], laidByText := true, laidKinds := [.data, .pinned], laidTests := true, laidLooks := .later }
def FnJoinBesideCardSaid : Prop := Claim7.holds Tryd.pinned (.plain (OpenSpec.ofChange fnJoinBesideSpec)) fnJoinBesideCard

/-- THE TIED CARD OF 'laws.FnJoinOk'. -/
def fnJoinOkCard : Claim7 := { stood := { row := fnJoinOkRow, standIns := [], harness := (true, "4a49a9f1dcc4e4548cbf6b20141b72940d22b3202c3c4aedd59b340bc8c2ec91"), looks := false }, kinds := [], alts := [], laidByText := true, laidKinds := [.data, .pinned], laidTests := true, laidLooks := .later }
def FnJoinOkCardSaid : Prop := Claim7.holds Tryd.pinned (.plain (OpenSpec.ofChange fnJoinOkSpec)) fnJoinOkCard

/-- THE TIED CARD OF 'laws.FnJoinUp'. -/
def fnJoinUpCard : Claim7 := { stood := { row := fnJoinUpRow, standIns := [], harness := (true, "4a49a9f1dcc4e4548cbf6b20141b72940d22b3202c3c4aedd59b340bc8c2ec91"), looks := false }, kinds := [], alts := [], laidByText := true, laidKinds := [.data, .pinned], laidTests := true, laidLooks := .later }
def FnJoinUpCardSaid : Prop := Claim7.holds Tryd.pinned (.plain (OpenSpec.ofChange fnJoinUpSpec)) fnJoinUpCard

/-- THE SECOND FORM's CARD OF 'laws.FnJoinSelf'. -/
def fnJoinSelfUptoCard : Claim7 := { stood := { row := fnJoinSelfUptoRow, standIns := [], harness := (true, "4a49a9f1dcc4e4548cbf6b20141b72940d22b3202c3c4aedd59b340bc8c2ec91"), looks := false }, kinds := [], alts := [], laidByText := true, laidKinds := [.data, .pinned], laidTests := true, laidLooks := .later }
def FnJoinSelfUptoCardSaid : Prop := Claim7.holds Tryd.pinned (.plain (OpenSpec.upto fnJoinSelfSpec)) fnJoinSelfUptoCard

/-- THE SECOND FORM's CARD OF 'laws.FnJoinWhole'. -/
def fnJoinWholeUptoCard : Claim7 := { stood := { row := fnJoinWholeUptoRow, standIns := [], harness := (true, "4a49a9f1dcc4e4548cbf6b20141b72940d22b3202c3c4aedd59b340bc8c2ec91"), looks := false }, kinds := [], alts := [], laidByText := true, laidKinds := [.data, .pinned], laidTests := true, laidLooks := .later }
def FnJoinWholeUptoCardSaid : Prop := Claim7.holds Tryd.pinned (.plain (OpenSpec.upto fnJoinWholeSpec)) fnJoinWholeUptoCard

/-- THE SECOND FORM's CARD OF 'laws.FnExactAddrJoin'. -/
def fnExactAddrJoinUptoCard : Claim7 := { stood := { row := fnExactAddrJoinUptoRow, standIns := [], harness := (true, "4a49a9f1dcc4e4548cbf6b20141b72940d22b3202c3c4aedd59b340bc8c2ec91"), looks := false }, kinds := [], alts := [], laidByText := true, laidKinds := [.data, .pinned], laidTests := true, laidLooks := .later }
def FnExactAddrJoinUptoCardSaid : Prop := Claim7.holds Tryd.pinned (.plain (OpenSpec.upto fnExactAddrJoinSpec)) fnExactAddrJoinUptoCard

/-- THE SECOND FORM's CARD OF 'laws.FnAddrStroke'. -/
def fnAddrStrokeUptoCard : Claim7 := { stood := { row := fnAddrStrokeUptoRow, standIns := [], harness := (true, "4a49a9f1dcc4e4548cbf6b20141b72940d22b3202c3c4aedd59b340bc8c2ec91"), looks := false }, kinds := [], alts := [], laidByText := true, laidKinds := [.data, .pinned], laidTests := true, laidLooks := .later }
def FnAddrStrokeUptoCardSaid : Prop := Claim7.holds Tryd.pinned (.plain (OpenSpec.upto fnAddrStrokeSpec)) fnAddrStrokeUptoCard

/-- THE SECOND FORM's CARD OF 'laws.FnJoinAsk'. -/
def fnJoinAskUptoCard : Claim7 := { stood := { row := fnJoinAskUptoRow, standIns := [], harness := (true, "4a49a9f1dcc4e4548cbf6b20141b72940d22b3202c3c4aedd59b340bc8c2ec91"), looks := false }, kinds := [], alts := [], laidByText := true, laidKinds := [.data, .pinned], laidTests := true, laidLooks := .later }
def FnJoinAskUptoCardSaid : Prop := Claim7.holds Tryd.pinned (.plain (OpenSpec.upto fnJoinAskSpec)) fnJoinAskUptoCard

/-- THE SECOND FORM's CARD OF 'laws.FnJoinBeside'. -/
def fnJoinBesideUptoCard : Claim7 := { stood := { row := fnJoinBesideUptoRow, standIns := [], harness := (true, "4a49a9f1dcc4e4548cbf6b20141b72940d22b3202c3c4aedd59b340bc8c2ec91"), looks := false }, kinds := [], alts := [], laidByText := true, laidKinds := [.data, .pinned], laidTests := true, laidLooks := .later }
def FnJoinBesideUptoCardSaid : Prop := Claim7.holds Tryd.pinned (.plain (OpenSpec.upto fnJoinBesideSpec)) fnJoinBesideUptoCard

/-- THE SECOND FORM's CARD OF 'laws.FnJoinOk'. -/
def fnJoinOkUptoCard : Claim7 := { stood := { row := fnJoinOkUptoRow, standIns := [], harness := (true, "4a49a9f1dcc4e4548cbf6b20141b72940d22b3202c3c4aedd59b340bc8c2ec91"), looks := false }, kinds := [], alts := [], laidByText := true, laidKinds := [.data, .pinned], laidTests := true, laidLooks := .later }
def FnJoinOkUptoCardSaid : Prop := Claim7.holds Tryd.pinned (.plain (OpenSpec.upto fnJoinOkSpec)) fnJoinOkUptoCard

/-- THE SECOND FORM's CARD OF 'laws.FnJoinUp'. -/
def fnJoinUpUptoCard : Claim7 := { stood := { row := fnJoinUpUptoRow, standIns := [], harness := (true, "4a49a9f1dcc4e4548cbf6b20141b72940d22b3202c3c4aedd59b340bc8c2ec91"), looks := false }, kinds := [], alts := [], laidByText := true, laidKinds := [.data, .pinned], laidTests := true, laidLooks := .later }
def FnJoinUpUptoCardSaid : Prop := Claim7.holds Tryd.pinned (.plain (OpenSpec.upto fnJoinUpSpec)) fnJoinUpUptoCard
end Rows
end Go.Proofs.YtbnnamjaljohiaaDoor
