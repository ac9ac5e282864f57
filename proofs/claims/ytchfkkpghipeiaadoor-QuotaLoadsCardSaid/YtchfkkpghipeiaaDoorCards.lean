/-
  DERIVED. GIVEN WITH THE SEED: THE CARDS: each row of YtchfkkpghipeiaaDoorRows.lean that lists a variable, with what it lists TIED to the program's text (the seventh form; the later family's looks); each row that meets fmt, with fmt's text TOLD by the authors' own Lean function (tested against real Go, not proved from fmt's source: count such statements apart). THE CARD IS WHAT COUNTS. Prove the row's statement (the work); the ties are given (YtchfkkpghipeiaaDoorTie.lean); close each card by the builder's one call (the guide's Derived/Test/ToyasCard.lean, 'card_holds'). Laid BY PROGRAM, IN A SANDBOX (cutbox-door.mjs). By AI agents, Wed Nov 11 2026. No macro, syntax, notation, axiom, sorry.
-/
import Derived.Test.YtchfkkpghipeiaaDoorRows
import GoSem.ClaimSeven
namespace Go.Proofs.YtchfkkpghipeiaaDoor
namespace Rows

/-- THE TIED CARD OF 'usufructlaw32.QuotaHolds'. -/
def quotaHoldsCard : Claim7 := { stood := { row := quotaHoldsRow, standIns := [], harness := (true, "1190762b8a2e4b17feb991bc07bd0b034cd6dc630e89a30d49ebddbad4789531"), looks := false }, kinds := [], alts := [], laidByText := true, laidKinds := [.data, .pinned], laidTests := true, laidLooks := .later }
def QuotaHoldsCardSaid : Prop := Claim7.holds Tryd.pinned (.plain (OpenSpec.ofChange quotaHoldsSpec)) quotaHoldsCard

/-- THE TIED CARD OF 'usufructlaw32.QuotaNexts'. -/
def quotaNextsCard : Claim7 := { stood := { row := quotaNextsRow, standIns := [], harness := (true, "1190762b8a2e4b17feb991bc07bd0b034cd6dc630e89a30d49ebddbad4789531"), looks := false }, kinds := [], alts := [], laidByText := true, laidKinds := [.data, .pinned], laidTests := true, laidLooks := .later }
def QuotaNextsCardSaid : Prop := Claim7.holds Tryd.pinned (.plain (OpenSpec.ofChange quotaNextsSpec)) quotaNextsCard

/-- THE TIED CARD OF 'usufructlaw32.QuotaLoads'. -/
def quotaLoadsCard : Claim7 := { stood := { row := quotaLoadsRow, standIns := [], harness := (true, "1190762b8a2e4b17feb991bc07bd0b034cd6dc630e89a30d49ebddbad4789531"), looks := false }, kinds := [], alts := [], laidByText := true, laidKinds := [.data, .pinned], laidTests := true, laidLooks := .later }
def QuotaLoadsCardSaid : Prop := Claim7.holds Tryd.pinned (.plain (OpenSpec.ofChange quotaLoadsSpec)) quotaLoadsCard

/-- THE SECOND FORM's CARD OF 'usufructlaw32.QuotaHolds'. -/
def quotaHoldsUptoCard : Claim7 := { stood := { row := quotaHoldsUptoRow, standIns := [], harness := (true, "1190762b8a2e4b17feb991bc07bd0b034cd6dc630e89a30d49ebddbad4789531"), looks := false }, kinds := [], alts := [], laidByText := true, laidKinds := [.data, .pinned], laidTests := true, laidLooks := .later }
def QuotaHoldsUptoCardSaid : Prop := Claim7.holds Tryd.pinned (.plain (OpenSpec.upto quotaHoldsSpec)) quotaHoldsUptoCard

/-- THE SECOND FORM's CARD OF 'usufructlaw32.QuotaNexts'. -/
def quotaNextsUptoCard : Claim7 := { stood := { row := quotaNextsUptoRow, standIns := [], harness := (true, "1190762b8a2e4b17feb991bc07bd0b034cd6dc630e89a30d49ebddbad4789531"), looks := false }, kinds := [], alts := [], laidByText := true, laidKinds := [.data, .pinned], laidTests := true, laidLooks := .later }
def QuotaNextsUptoCardSaid : Prop := Claim7.holds Tryd.pinned (.plain (OpenSpec.upto quotaNextsSpec)) quotaNextsUptoCard

/-- THE SECOND FORM's CARD OF 'usufructlaw32.QuotaLoads'. -/
def quotaLoadsUptoCard : Claim7 := { stood := { row := quotaLoadsUptoRow, standIns := [], harness := (true, "1190762b8a2e4b17feb991bc07bd0b034cd6dc630e89a30d49ebddbad4789531"), looks := false }, kinds := [], alts := [], laidByText := true, laidKinds := [.data, .pinned], laidTests := true, laidLooks := .later }
def QuotaLoadsUptoCardSaid : Prop := Claim7.holds Tryd.pinned (.plain (OpenSpec.upto quotaLoadsSpec)) quotaLoadsUptoCard
end Rows
end Go.Proofs.YtchfkkpghipeiaaDoor
