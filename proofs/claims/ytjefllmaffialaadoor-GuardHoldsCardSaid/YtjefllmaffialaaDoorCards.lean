/-
  DERIVED. GIVEN WITH THE SEED: THE CARDS: each row of YtjefllmaffialaaDoorRows.lean that lists a variable, with what it lists TIED to the program's text (the seventh form; the later family's looks); each row that meets fmt, with fmt's text TOLD by the authors' own Lean function (tested against real Go, not proved from fmt's source: count such statements apart). THE CARD IS WHAT COUNTS. Prove the row's statement (the work); the ties are given (YtjefllmaffialaaDoorTie.lean); close each card by the builder's one call (the guide's Derived/Test/ToyasCard.lean, 'card_holds'). Laid BY PROGRAM, IN A SANDBOX (cutbox-door.mjs). By AI agents, Wed Nov 11 2026. No macro, syntax, notation, axiom, sorry.
-/
import Derived.Test.YtjefllmaffialaaDoorRows
import GoSem.ClaimSeven
namespace Go.Proofs.YtjefllmaffialaaDoor
namespace Rows

/-- THE TIED CARD OF 'usufructlaw12.GuardHolds'. -/
def guardHoldsCard : Claim7 := { stood := { row := guardHoldsRow, standIns := [], harness := (true, "f9fcbce9cf2c81160c3efc0bcb8dccdba205ac21950b308cbc27117257a402af"), looks := false }, kinds := [], alts := [], laidByText := true, laidKinds := [.data, .pinned], laidTests := true, laidLooks := .later }
def GuardHoldsCardSaid : Prop := Claim7.holds Tryd.pinned (.plain (OpenSpec.ofChange guardHoldsSpec)) guardHoldsCard

/-- THE TIED CARD OF 'usufructlaw12.GuardRestores'. -/
def guardRestoresCard : Claim7 := { stood := { row := guardRestoresRow, standIns := [], harness := (true, "f9fcbce9cf2c81160c3efc0bcb8dccdba205ac21950b308cbc27117257a402af"), looks := false }, kinds := [], alts := [], laidByText := true, laidKinds := [.data, .pinned], laidTests := true, laidLooks := .later }
def GuardRestoresCardSaid : Prop := Claim7.holds Tryd.pinned (.plain (OpenSpec.ofChange guardRestoresSpec)) guardRestoresCard

/-- THE SECOND FORM's CARD OF 'usufructlaw12.GuardHolds'. -/
def guardHoldsUptoCard : Claim7 := { stood := { row := guardHoldsUptoRow, standIns := [], harness := (true, "f9fcbce9cf2c81160c3efc0bcb8dccdba205ac21950b308cbc27117257a402af"), looks := false }, kinds := [], alts := [], laidByText := true, laidKinds := [.data, .pinned], laidTests := true, laidLooks := .later }
def GuardHoldsUptoCardSaid : Prop := Claim7.holds Tryd.pinned (.plain (OpenSpec.upto guardHoldsSpec)) guardHoldsUptoCard

/-- THE SECOND FORM's CARD OF 'usufructlaw12.GuardRestores'. -/
def guardRestoresUptoCard : Claim7 := { stood := { row := guardRestoresUptoRow, standIns := [], harness := (true, "f9fcbce9cf2c81160c3efc0bcb8dccdba205ac21950b308cbc27117257a402af"), looks := false }, kinds := [], alts := [], laidByText := true, laidKinds := [.data, .pinned], laidTests := true, laidLooks := .later }
def GuardRestoresUptoCardSaid : Prop := Claim7.holds Tryd.pinned (.plain (OpenSpec.upto guardRestoresSpec)) guardRestoresUptoCard
end Rows
end Go.Proofs.YtjefllmaffialaaDoor
