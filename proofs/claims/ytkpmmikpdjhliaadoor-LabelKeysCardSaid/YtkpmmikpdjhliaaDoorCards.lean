/-
  DERIVED. GIVEN WITH THE SEED: THE CARDS: each row of YtkpmmikpdjhliaaDoorRows.lean that lists a variable, with what it lists TIED to the program's text (the seventh form; the later family's looks); each row that meets fmt, with fmt's text TOLD by the authors' own Lean function (tested against real Go, not proved from fmt's source: count such statements apart). THE CARD IS WHAT COUNTS. Prove the row's statement (the work); the ties are given (YtkpmmikpdjhliaaDoorTie.lean); close each card by the builder's one call (the guide's Derived/Test/ToyasCard.lean, 'card_holds'). Laid BY PROGRAM, IN A SANDBOX (cutbox-door.mjs). By AI agents, Wed Nov 11 2026. No macro, syntax, notation, axiom, sorry.
-/
import Derived.Test.YtkpmmikpdjhliaaDoorRows
import GoSem.ClaimSeven
namespace Go.Proofs.YtkpmmikpdjhliaaDoor
namespace Rows

/-- THE TIED CARD OF 'usufructlaw02.LabelNames'. -/
def labelNamesCard : Claim7 := { stood := { row := labelNamesRow, standIns := [], harness := (true, "375566138ccadfe016619ee77cac8e025793df83166f4e7cac74543dde2ccb16"), looks := false }, kinds := [], alts := [], laidByText := true, laidKinds := [.data, .pinned], laidTests := true, laidLooks := .later }
def LabelNamesCardSaid : Prop := Claim7.holds Tryd.pinned (.plain (OpenSpec.ofChange labelNamesSpec)) labelNamesCard

/-- THE TIED CARD OF 'usufructlaw02.LabelKeys'. -/
def labelKeysCard : Claim7 := { stood := { row := labelKeysRow, standIns := [], harness := (true, "375566138ccadfe016619ee77cac8e025793df83166f4e7cac74543dde2ccb16"), looks := false }, kinds := [], alts := [], laidByText := true, laidKinds := [.data, .pinned], laidTests := true, laidLooks := .later }
def LabelKeysCardSaid : Prop := Claim7.holds Tryd.pinned (.plain (OpenSpec.ofChange labelKeysSpec)) labelKeysCard

/-- THE TIED CARD OF 'usufructlaw02.LabelMasks'. -/
def labelMasksCard : Claim7 := { stood := { row := labelMasksRow, standIns := [], harness := (true, "375566138ccadfe016619ee77cac8e025793df83166f4e7cac74543dde2ccb16"), looks := false }, kinds := [], alts := [], laidByText := true, laidKinds := [.data, .pinned], laidTests := true, laidLooks := .later }
def LabelMasksCardSaid : Prop := Claim7.holds Tryd.pinned (.plain (OpenSpec.ofChange labelMasksSpec)) labelMasksCard

/-- THE TIED CARD OF 'usufructlaw02.LabelJoins'. -/
def labelJoinsCard : Claim7 := { stood := { row := labelJoinsRow, standIns := [], harness := (true, "375566138ccadfe016619ee77cac8e025793df83166f4e7cac74543dde2ccb16"), looks := false }, kinds := [], alts := [], laidByText := true, laidKinds := [.data, .pinned], laidTests := true, laidLooks := .later }
def LabelJoinsCardSaid : Prop := Claim7.holds Tryd.pinned (.plain (OpenSpec.ofChange labelJoinsSpec)) labelJoinsCard

/-- THE SECOND FORM's CARD OF 'usufructlaw02.LabelNames'. -/
def labelNamesUptoCard : Claim7 := { stood := { row := labelNamesUptoRow, standIns := [], harness := (true, "375566138ccadfe016619ee77cac8e025793df83166f4e7cac74543dde2ccb16"), looks := false }, kinds := [], alts := [], laidByText := true, laidKinds := [.data, .pinned], laidTests := true, laidLooks := .later }
def LabelNamesUptoCardSaid : Prop := Claim7.holds Tryd.pinned (.plain (OpenSpec.upto labelNamesSpec)) labelNamesUptoCard

/-- THE SECOND FORM's CARD OF 'usufructlaw02.LabelKeys'. -/
def labelKeysUptoCard : Claim7 := { stood := { row := labelKeysUptoRow, standIns := [], harness := (true, "375566138ccadfe016619ee77cac8e025793df83166f4e7cac74543dde2ccb16"), looks := false }, kinds := [], alts := [], laidByText := true, laidKinds := [.data, .pinned], laidTests := true, laidLooks := .later }
def LabelKeysUptoCardSaid : Prop := Claim7.holds Tryd.pinned (.plain (OpenSpec.upto labelKeysSpec)) labelKeysUptoCard

/-- THE SECOND FORM's CARD OF 'usufructlaw02.LabelMasks'. -/
def labelMasksUptoCard : Claim7 := { stood := { row := labelMasksUptoRow, standIns := [], harness := (true, "375566138ccadfe016619ee77cac8e025793df83166f4e7cac74543dde2ccb16"), looks := false }, kinds := [], alts := [], laidByText := true, laidKinds := [.data, .pinned], laidTests := true, laidLooks := .later }
def LabelMasksUptoCardSaid : Prop := Claim7.holds Tryd.pinned (.plain (OpenSpec.upto labelMasksSpec)) labelMasksUptoCard

/-- THE SECOND FORM's CARD OF 'usufructlaw02.LabelJoins'. -/
def labelJoinsUptoCard : Claim7 := { stood := { row := labelJoinsUptoRow, standIns := [], harness := (true, "375566138ccadfe016619ee77cac8e025793df83166f4e7cac74543dde2ccb16"), looks := false }, kinds := [], alts := [], laidByText := true, laidKinds := [.data, .pinned], laidTests := true, laidLooks := .later }
def LabelJoinsUptoCardSaid : Prop := Claim7.holds Tryd.pinned (.plain (OpenSpec.upto labelJoinsSpec)) labelJoinsUptoCard
end Rows
end Go.Proofs.YtkpmmikpdjhliaaDoor
