/-
  DERIVED. GIVEN WITH THE SEED: THE CARDS: each row of YtcgpbakimkhdpaaDoorRows.lean that lists a variable, with what it lists TIED to the program's text (the seventh form; the later family's looks); each row that meets fmt, with fmt's text TOLD by the authors' own Lean function (tested against real Go, not proved from fmt's source: count such statements apart). THE CARD IS WHAT COUNTS. Prove the row's statement (the work); the ties are given (YtcgpbakimkhdpaaDoorTie.lean); close each card by the builder's one call (the guide's Derived/Test/ToyasCard.lean, 'card_holds'). Laid BY PROGRAM, IN A SANDBOX (cutbox-door.mjs). By AI agents, Wed Nov 11 2026. No macro, syntax, notation, axiom, sorry.
-/
import Derived.Test.YtcgpbakimkhdpaaDoorRows
import GoSem.ClaimSeven
namespace Go.Proofs.YtcgpbakimkhdpaaDoor
namespace Rows

/-- THE TIED CARD OF 'usufructlaw15.CodeDefs'. -/
def codeDefsCard : Claim7 := { stood := { row := codeDefsRow, standIns := [], harness := (true, "f4bed1c77db64866831e2ad2e1c7e381b50d2424c981d3dd89de870d51a94625"), looks := false }, kinds := [], alts := [], laidByText := true, laidKinds := [.data, .pinned], laidTests := true, laidLooks := .later }
def CodeDefsCardSaid : Prop := Claim7.holds Tryd.pinned (.plain (OpenSpec.ofChange codeDefsSpec)) codeDefsCard

/-- THE TIED CARD OF 'usufructlaw15.CodeEvents'. -/
def codeEventsCard : Claim7 := { stood := { row := codeEventsRow, standIns := [], harness := (true, "f4bed1c77db64866831e2ad2e1c7e381b50d2424c981d3dd89de870d51a94625"), looks := false }, kinds := [], alts := [], laidByText := true, laidKinds := [.data, .pinned], laidTests := true, laidLooks := .later }
def CodeEventsCardSaid : Prop := Claim7.holds Tryd.pinned (.plain (OpenSpec.ofChange codeEventsSpec)) codeEventsCard

/-- THE TIED CARD OF 'usufructlaw15.CodeCuts'. -/
def codeCutsCard : Claim7 := { stood := { row := codeCutsRow, standIns := [], harness := (true, "f4bed1c77db64866831e2ad2e1c7e381b50d2424c981d3dd89de870d51a94625"), looks := false }, kinds := [], alts := [], laidByText := true, laidKinds := [.data, .pinned], laidTests := true, laidLooks := .later }
def CodeCutsCardSaid : Prop := Claim7.holds Tryd.pinned (.plain (OpenSpec.ofChange codeCutsSpec)) codeCutsCard

/-- THE SECOND FORM's CARD OF 'usufructlaw15.CodeDefs'. -/
def codeDefsUptoCard : Claim7 := { stood := { row := codeDefsUptoRow, standIns := [], harness := (true, "f4bed1c77db64866831e2ad2e1c7e381b50d2424c981d3dd89de870d51a94625"), looks := false }, kinds := [], alts := [], laidByText := true, laidKinds := [.data, .pinned], laidTests := true, laidLooks := .later }
def CodeDefsUptoCardSaid : Prop := Claim7.holds Tryd.pinned (.plain (OpenSpec.upto codeDefsSpec)) codeDefsUptoCard

/-- THE SECOND FORM's CARD OF 'usufructlaw15.CodeEvents'. -/
def codeEventsUptoCard : Claim7 := { stood := { row := codeEventsUptoRow, standIns := [], harness := (true, "f4bed1c77db64866831e2ad2e1c7e381b50d2424c981d3dd89de870d51a94625"), looks := false }, kinds := [], alts := [], laidByText := true, laidKinds := [.data, .pinned], laidTests := true, laidLooks := .later }
def CodeEventsUptoCardSaid : Prop := Claim7.holds Tryd.pinned (.plain (OpenSpec.upto codeEventsSpec)) codeEventsUptoCard

/-- THE SECOND FORM's CARD OF 'usufructlaw15.CodeCuts'. -/
def codeCutsUptoCard : Claim7 := { stood := { row := codeCutsUptoRow, standIns := [], harness := (true, "f4bed1c77db64866831e2ad2e1c7e381b50d2424c981d3dd89de870d51a94625"), looks := false }, kinds := [], alts := [], laidByText := true, laidKinds := [.data, .pinned], laidTests := true, laidLooks := .later }
def CodeCutsUptoCardSaid : Prop := Claim7.holds Tryd.pinned (.plain (OpenSpec.upto codeCutsSpec)) codeCutsUptoCard
end Rows
end Go.Proofs.YtcgpbakimkhdpaaDoor
