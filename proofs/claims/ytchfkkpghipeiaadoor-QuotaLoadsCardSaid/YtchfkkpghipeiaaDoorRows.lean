/-
  NARROWER THAN 'FOR EVERY INPUT', by the rows' own cells (each row's printed sentence says how): QuotaHolds: laid · QuotaNexts: laid · QuotaLoads: laid.
  DERIVED. THE GIVEN ROWS OF THIS SEAT. 3 by the template 'for every input the law returns true; each argument reads behind the call as it read before'; 0 by the template 'total and deterministic' (their statements: YtchfkkpghipeiaaDoorTotals.lean).
  GIVEN WITH THE SEED: the statements are not yours to turn. If you find one false, say at which input.
  Laid BY PROGRAM, IN A SANDBOX (cutbox-rows.mjs): the forced cells as the released guide's own fill.sh prints them over the translation 7e59291ce28ff50a… (all of the seat's roots in one cut). By AI agents, Wed Nov 11 2026. No macro, syntax, notation, axiom, sorry.
-/
import Derived.Test.YtchfkkpghipeiaaDoorChecked
import GoSem.PinnedTables
import GoSem.Claim
import GoSem.ClaimJoined
import GoSem.ClaimMapViews
import Derived.JoinedTies
import Derived.KernelRfl
namespace Go.Proofs.YtchfkkpghipeiaaDoor
/- THE CELL 'sum', in the pinned program and in every row, IS THE sha256 OF THE DUMP (.gsa) THAT YtchfkkpghipeiaaDoorProg.lean LOADS. Nothing in Lean hashes anything: it is a label: what it is worth is what the hold of that sum in a sandbox is worth. -/
noncomputable def Tryd.pinned : Pinned := { name := "ytchfkkpghipeiaadoor", sum := "7e59291ce28ff50adea03f5c9977a232a8cd0f47f8fe50dcab26d6b0f87cfd5c", checked := Tryd.checked }
namespace Rows
def none {H : Type} : Left H := { results := [], args := [] }

/- WHAT THE LISTED PACKAGE-LEVEL VARIABLES READ AS WHEN THE CALL BEGINS. Each datum BY PROGRAM (the guide's laid-datum.mjs) off the statement by which the dump's own 'gosem.cut.vars' lays the variable. In a bare row this is a premise. The card (YtchfkkpghipeiaaDoorCards.lean) ties it to the program's text. -/
def laid_unicode_utf8_acceptRanges {H : Type} : DataW H := .agg [.agg [.lit (.int .u8 128), .lit (.int .u8 191)], .agg [.lit (.int .u8 160), .lit (.int .u8 191)], .agg [.lit (.int .u8 128), .lit (.int .u8 159)], .agg [.lit (.int .u8 144), .lit (.int .u8 191)], .agg [.lit (.int .u8 128), .lit (.int .u8 143)], .agg [.lit (.int .u8 0), .lit (.int .u8 0)], .agg [.lit (.int .u8 0), .lit (.int .u8 0)], .agg [.lit (.int .u8 0), .lit (.int .u8 0)], .agg [.lit (.int .u8 0), .lit (.int .u8 0)], .agg [.lit (.int .u8 0), .lit (.int .u8 0)], .agg [.lit (.int .u8 0), .lit (.int .u8 0)], .agg [.lit (.int .u8 0), .lit (.int .u8 0)], .agg [.lit (.int .u8 0), .lit (.int .u8 0)], .agg [.lit (.int .u8 0), .lit (.int .u8 0)], .agg [.lit (.int .u8 0), .lit (.int .u8 0)], .agg [.lit (.int .u8 0), .lit (.int .u8 0)]]
/-- One of Go's own tables, pinned by name: the form's constant. -/
def laid_unicode_utf8_first : DataW Unit := Go.Pinned.utf8First

/-- 'usufructlaw32.QuotaHolds': WHATEVER THE INPUT: true; the input reads as it did. -/
def quotaHoldsSpec : ChangeSpec := { name := "quotaHolds", fn := fun _ => fun
  | [d1, d2] => { results := [.lit (.bool true)], args := [d1, d2] }
  | _ => none }
def quotaHoldsRow : OpenClaim := { program := "ytchfkkpghipeiaadoor", sum := "7e59291ce28ff50adea03f5c9977a232a8cd0f47f8fe50dcab26d6b0f87cfd5c", func := "usufruct/usufructlaw32.QuotaHolds", spec := "quotaHolds", unfollowed := true, recurses := true, named := ["unicode/utf8.first", "unicode/utf8.acceptRanges"], apart := false, laid := [("unicode/utf8.acceptRanges", laid_unicode_utf8_acceptRanges), ("unicode/utf8.first", laid_unicode_utf8_first)] }
def QuotaHoldsSaid : Prop := quotaHoldsRow.holds Tryd.pinned (OpenSpec.ofChange quotaHoldsSpec)

/-- ITS FALSE NEIGHBOUR: 'it returns false'. Refute it at one input. -/
def quotaHoldsWrong : ChangeSpec := { name := "quotaHolds", fn := fun _ => fun
  | [d1, d2] => { results := [.lit (.bool false)], args := [d1, d2] }
  | _ => none }
def QuotaHoldsWrongFalsely : Prop := quotaHoldsRow.holds Tryd.pinned (OpenSpec.ofChange quotaHoldsWrong)

/-- 'usufructlaw32.QuotaNexts': WHATEVER THE INPUT: true; the input reads as it did. -/
def quotaNextsSpec : ChangeSpec := { name := "quotaNexts", fn := fun _ => fun
  | [d1, d2, d3, d4] => { results := [.lit (.bool true)], args := [d1, d2, d3, d4] }
  | _ => none }
def quotaNextsRow : OpenClaim := { program := "ytchfkkpghipeiaadoor", sum := "7e59291ce28ff50adea03f5c9977a232a8cd0f47f8fe50dcab26d6b0f87cfd5c", func := "usufruct/usufructlaw32.QuotaNexts", spec := "quotaNexts", unfollowed := true, recurses := true, named := ["unicode/utf8.first", "unicode/utf8.acceptRanges"], apart := false, laid := [("unicode/utf8.acceptRanges", laid_unicode_utf8_acceptRanges), ("unicode/utf8.first", laid_unicode_utf8_first)] }
def QuotaNextsSaid : Prop := quotaNextsRow.holds Tryd.pinned (OpenSpec.ofChange quotaNextsSpec)

/-- ITS FALSE NEIGHBOUR: 'it returns false'. Refute it at one input. -/
def quotaNextsWrong : ChangeSpec := { name := "quotaNexts", fn := fun _ => fun
  | [d1, d2, d3, d4] => { results := [.lit (.bool false)], args := [d1, d2, d3, d4] }
  | _ => none }
def QuotaNextsWrongFalsely : Prop := quotaNextsRow.holds Tryd.pinned (OpenSpec.ofChange quotaNextsWrong)

/-- 'usufructlaw32.QuotaLoads': WHATEVER THE INPUT: true; the input reads as it did. -/
def quotaLoadsSpec : ChangeSpec := { name := "quotaLoads", fn := fun _ => fun
  | [d1, d2] => { results := [.lit (.bool true)], args := [d1, d2] }
  | _ => none }
def quotaLoadsRow : OpenClaim := { program := "ytchfkkpghipeiaadoor", sum := "7e59291ce28ff50adea03f5c9977a232a8cd0f47f8fe50dcab26d6b0f87cfd5c", func := "usufruct/usufructlaw32.QuotaLoads", spec := "quotaLoads", unfollowed := true, recurses := true, named := ["unicode/utf8.first", "unicode/utf8.acceptRanges"], apart := false, laid := [("unicode/utf8.acceptRanges", laid_unicode_utf8_acceptRanges), ("unicode/utf8.first", laid_unicode_utf8_first)] }
def QuotaLoadsSaid : Prop := quotaLoadsRow.holds Tryd.pinned (OpenSpec.ofChange quotaLoadsSpec)

/-- ITS FALSE NEIGHBOUR: 'it returns false'. Refute it at one input. -/
def quotaLoadsWrong : ChangeSpec := { name := "quotaLoads", fn := fun _ => fun
  | [d1, d2] => { results := [.lit (.bool false)], args := [d1, d2] }
  | _ => none }
def QuotaLoadsWrongFalsely : Prop := quotaLoadsRow.holds Tryd.pinned (OpenSpec.ofChange quotaLoadsWrong)

/- THE SECOND FORM. 'bulk': how many values and letters a reading holds, each counted each time it is reached (what is shared counts as often as it is met; a slice's spare places count too). A statement '..UptoSaid' is the law's where the arguments, and the package variables that the reading takes, are together of bulk at most 1048576: NARROWER than '..Said'. Prove '..Said' where nothing that the law and all that it calls make is longer than what came in: it says more and counts as full. Else prove '..UptoSaid'. A law counts once. -/
mutual
def uptoBulk {H : Type} : DataW H → Nat
  | .lit (.string bytes) => bytes.length + 1
  | .lit _ => 1
  | .nil => 1
  | .ptr d => uptoBulk d + 1
  | .slice elems spare => uptoBulkAll elems + uptoBulkAll spare + 1
  | .agg parts => uptoBulkAll parts + 1
  | .iface _ d => uptoBulk d + 1
  | .map entries => uptoBulkEntries entries + 1
  | .held _ => 1
def uptoBulkAll {H : Type} : List (DataW H) → Nat
  | [] => 0
  | d :: r => uptoBulk d + uptoBulkAll r
def uptoBulkEntries {H : Type} : List (Lit × DataW H) → Nat
  | [] => 0
  | x :: r => uptoBulkEntry x + uptoBulkEntries r
def uptoBulkEntry {H : Type} : Lit × DataW H → Nat
  | (.string bytes, d) => bytes.length + uptoBulk d + 1
  | (_, d) => uptoBulk d + 1
 end
def uptoSmall : (H : Type) → List (DataW H) → Bool := fun _ ds => decide (uptoBulkAll ds ≤ 1048576)
def OpenSpec.upto (s : _root_.Go.ChangeSpec) : _root_.Go.OpenSpec := { _root_.Go.OpenSpec.ofChange s with cond := some uptoSmall }

/-- 'usufructlaw32.QuotaHolds', WHERE WHAT IT READS IS OF BULK AT MOST 1048576: true; the input reads as it did. -/
def quotaHoldsUptoRow : OpenClaim := { program := "ytchfkkpghipeiaadoor", sum := "7e59291ce28ff50adea03f5c9977a232a8cd0f47f8fe50dcab26d6b0f87cfd5c", func := "usufruct/usufructlaw32.QuotaHolds", spec := "quotaHolds", unfollowed := true, recurses := true, named := ["unicode/utf8.first", "unicode/utf8.acceptRanges"], apart := false, laid := [("unicode/utf8.acceptRanges", laid_unicode_utf8_acceptRanges), ("unicode/utf8.first", laid_unicode_utf8_first)], narrowed := true }
def QuotaHoldsUptoSaid : Prop := quotaHoldsUptoRow.holds Tryd.pinned (OpenSpec.upto quotaHoldsSpec)

/-- 'usufructlaw32.QuotaNexts', WHERE WHAT IT READS IS OF BULK AT MOST 1048576: true; the input reads as it did. -/
def quotaNextsUptoRow : OpenClaim := { program := "ytchfkkpghipeiaadoor", sum := "7e59291ce28ff50adea03f5c9977a232a8cd0f47f8fe50dcab26d6b0f87cfd5c", func := "usufruct/usufructlaw32.QuotaNexts", spec := "quotaNexts", unfollowed := true, recurses := true, named := ["unicode/utf8.first", "unicode/utf8.acceptRanges"], apart := false, laid := [("unicode/utf8.acceptRanges", laid_unicode_utf8_acceptRanges), ("unicode/utf8.first", laid_unicode_utf8_first)], narrowed := true }
def QuotaNextsUptoSaid : Prop := quotaNextsUptoRow.holds Tryd.pinned (OpenSpec.upto quotaNextsSpec)

/-- 'usufructlaw32.QuotaLoads', WHERE WHAT IT READS IS OF BULK AT MOST 1048576: true; the input reads as it did. -/
def quotaLoadsUptoRow : OpenClaim := { program := "ytchfkkpghipeiaadoor", sum := "7e59291ce28ff50adea03f5c9977a232a8cd0f47f8fe50dcab26d6b0f87cfd5c", func := "usufruct/usufructlaw32.QuotaLoads", spec := "quotaLoads", unfollowed := true, recurses := true, named := ["unicode/utf8.first", "unicode/utf8.acceptRanges"], apart := false, laid := [("unicode/utf8.acceptRanges", laid_unicode_utf8_acceptRanges), ("unicode/utf8.first", laid_unicode_utf8_first)], narrowed := true }
def QuotaLoadsUptoSaid : Prop := quotaLoadsUptoRow.holds Tryd.pinned (OpenSpec.upto quotaLoadsSpec)

end Rows
end Go.Proofs.YtchfkkpghipeiaaDoor
