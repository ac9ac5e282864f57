/-
  DERIVED. GIVEN WITH THE SEED: THE CARDS: each row of YtmfddmhomkcikaaDoorRows.lean that lists a variable, with what it lists TIED to the program's text (the seventh form; the later family's looks); each row that meets fmt, with fmt's text TOLD by the authors' own Lean function (tested against real Go, not proved from fmt's source: count such statements apart). THE CARD IS WHAT COUNTS. Prove the row's statement (the work); the ties are given (YtmfddmhomkcikaaDoorTie.lean); close each card by the builder's one call (the guide's Derived/Test/ToyasCard.lean, 'card_holds'). Laid BY PROGRAM, IN A SANDBOX (cutbox-door.mjs). By AI agents, Wed Nov 11 2026. No macro, syntax, notation, axiom, sorry.
-/
import Derived.Test.YtmfddmhomkcikaaDoorRows
import GoSem.ClaimSeven
namespace Go.Proofs.YtmfddmhomkcikaaDoor
namespace Rows

/-- THE TIED CARD OF 'usufructlaw14.SagaCarries'. -/
def sagaCarriesCard : Claim7 := { stood := { row := sagaCarriesRow, standIns := [], harness := (true, "290a3632d9ffbf12d5023a826264f7fe9efbe586d4ec288791cc027b2b52ffa0"), looks := false }, kinds := [], alts := [], laidByText := true, laidKinds := [.data, .data, .data, .data, .pinned], laidTests := true, laidLooks := .later }
def SagaCarriesCardSaid : Prop := Claim7.holds Tryd.pinned (.plain (OpenSpec.ofChange sagaCarriesSpec)) sagaCarriesCard

/-- THE TIED CARD OF 'usufructlaw14.SagaPlays'. -/
def sagaPlaysCard : Claim7 := { stood := { row := sagaPlaysRow, standIns := [], harness := (true, "290a3632d9ffbf12d5023a826264f7fe9efbe586d4ec288791cc027b2b52ffa0"), looks := false }, kinds := [], alts := [], laidByText := true, laidKinds := [.data, .data, .data, .data, .pinned], laidTests := true, laidLooks := .later }
def SagaPlaysCardSaid : Prop := Claim7.holds Tryd.pinned (.plain (OpenSpec.ofChange sagaPlaysSpec)) sagaPlaysCard

/-- THE TIED CARD OF 'usufructlaw14.SagaStays'. -/
def sagaStaysCard : Claim7 := { stood := { row := sagaStaysRow, standIns := [], harness := (true, "290a3632d9ffbf12d5023a826264f7fe9efbe586d4ec288791cc027b2b52ffa0"), looks := false }, kinds := [], alts := [], laidByText := true, laidKinds := [.data, .data, .data, .data, .pinned], laidTests := true, laidLooks := .later }
def SagaStaysCardSaid : Prop := Claim7.holds Tryd.pinned (.plain (OpenSpec.ofChange sagaStaysSpec)) sagaStaysCard

/-- THE TIED CARD OF 'usufructlaw14.SagaDoes'. -/
def sagaDoesCard : Claim7 := { stood := { row := sagaDoesRow, standIns := [], harness := (true, "290a3632d9ffbf12d5023a826264f7fe9efbe586d4ec288791cc027b2b52ffa0"), looks := false }, kinds := [], alts := [], laidByText := true, laidKinds := [.data, .data, .data, .data, .pinned], laidTests := true, laidLooks := .later }
def SagaDoesCardSaid : Prop := Claim7.holds Tryd.pinned (.plain (OpenSpec.ofChange sagaDoesSpec)) sagaDoesCard

/-- THE TIED CARD OF 'usufructlaw14.SagaDue'. -/
def sagaDueCard : Claim7 := { stood := { row := sagaDueRow, standIns := [], harness := (true, "290a3632d9ffbf12d5023a826264f7fe9efbe586d4ec288791cc027b2b52ffa0"), looks := false }, kinds := [], alts := [], laidByText := true, laidKinds := [.data, .data, .data, .data, .pinned], laidTests := true, laidLooks := .later }
def SagaDueCardSaid : Prop := Claim7.holds Tryd.pinned (.plain (OpenSpec.ofChange sagaDueSpec)) sagaDueCard

/-- THE SECOND FORM's CARD OF 'usufructlaw14.SagaCarries'. -/
def sagaCarriesUptoCard : Claim7 := { stood := { row := sagaCarriesUptoRow, standIns := [], harness := (true, "290a3632d9ffbf12d5023a826264f7fe9efbe586d4ec288791cc027b2b52ffa0"), looks := false }, kinds := [], alts := [], laidByText := true, laidKinds := [.data, .data, .data, .data, .pinned], laidTests := true, laidLooks := .later }
def SagaCarriesUptoCardSaid : Prop := Claim7.holds Tryd.pinned (.plain (OpenSpec.upto sagaCarriesSpec)) sagaCarriesUptoCard

/-- THE SECOND FORM's CARD OF 'usufructlaw14.SagaPlays'. -/
def sagaPlaysUptoCard : Claim7 := { stood := { row := sagaPlaysUptoRow, standIns := [], harness := (true, "290a3632d9ffbf12d5023a826264f7fe9efbe586d4ec288791cc027b2b52ffa0"), looks := false }, kinds := [], alts := [], laidByText := true, laidKinds := [.data, .data, .data, .data, .pinned], laidTests := true, laidLooks := .later }
def SagaPlaysUptoCardSaid : Prop := Claim7.holds Tryd.pinned (.plain (OpenSpec.upto sagaPlaysSpec)) sagaPlaysUptoCard

/-- THE SECOND FORM's CARD OF 'usufructlaw14.SagaStays'. -/
def sagaStaysUptoCard : Claim7 := { stood := { row := sagaStaysUptoRow, standIns := [], harness := (true, "290a3632d9ffbf12d5023a826264f7fe9efbe586d4ec288791cc027b2b52ffa0"), looks := false }, kinds := [], alts := [], laidByText := true, laidKinds := [.data, .data, .data, .data, .pinned], laidTests := true, laidLooks := .later }
def SagaStaysUptoCardSaid : Prop := Claim7.holds Tryd.pinned (.plain (OpenSpec.upto sagaStaysSpec)) sagaStaysUptoCard

/-- THE SECOND FORM's CARD OF 'usufructlaw14.SagaDoes'. -/
def sagaDoesUptoCard : Claim7 := { stood := { row := sagaDoesUptoRow, standIns := [], harness := (true, "290a3632d9ffbf12d5023a826264f7fe9efbe586d4ec288791cc027b2b52ffa0"), looks := false }, kinds := [], alts := [], laidByText := true, laidKinds := [.data, .data, .data, .data, .pinned], laidTests := true, laidLooks := .later }
def SagaDoesUptoCardSaid : Prop := Claim7.holds Tryd.pinned (.plain (OpenSpec.upto sagaDoesSpec)) sagaDoesUptoCard

/-- THE SECOND FORM's CARD OF 'usufructlaw14.SagaDue'. -/
def sagaDueUptoCard : Claim7 := { stood := { row := sagaDueUptoRow, standIns := [], harness := (true, "290a3632d9ffbf12d5023a826264f7fe9efbe586d4ec288791cc027b2b52ffa0"), looks := false }, kinds := [], alts := [], laidByText := true, laidKinds := [.data, .data, .data, .data, .pinned], laidTests := true, laidLooks := .later }
def SagaDueUptoCardSaid : Prop := Claim7.holds Tryd.pinned (.plain (OpenSpec.upto sagaDueSpec)) sagaDueUptoCard
end Rows
end Go.Proofs.YtmfddmhomkcikaaDoor
