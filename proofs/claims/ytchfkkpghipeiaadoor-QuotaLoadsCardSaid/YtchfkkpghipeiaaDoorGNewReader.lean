/- field.NewReader: a reader over a copy of bytes, by hand. The world behind the copy is told (wb): the copy lies below it. -/
import Derived.Test.YtchfkkpghipeiaaDoorGReaderNum
import Derived.Test.YtchfkkpghipeiaaDoorGClone
namespace Go.Proofs.YtchfkkpghipeiaaDoor.Q
open Go.RowKit Go.Proofs.YtchfkkpghipeiaaDoorW.PrintWords Go.Proofs.YtchfkkpghipeiaaDoorW.PrintLast Go.Proofs.YtchfkkpghipeiaaDoorW.PrintMore
set_option linter.unusedVariables false
set_option linter.unusedSimpArgs false

def field_NewReader.f (l0 : List Int) : Option (List Int × Int × Int × Int) := if l0.length < 140737488355328 then some (l0, 0, 0, 0) else none
set_option maxHeartbeats 1000000 in
set_option maxRecDepth 100000 in
theorem field_NewReader.calls (A0 : Option Addr) (c0 : Nat) (l0 : List Int) (r1 : List Int) (r2 : Int) (r3 : Int) (r4 : Int) (w0 w : World) (hB : Below w0.heap.size w0 w) (hr0 : Kd.C (Kd.int .u8) w0 A0 l0.length l0) (hc0 : l0.length ≤ c0) (h : field_NewReader.f l0 = some (r1, r2, r3, r4)) :
    Calls Tryd.prog 20 #[.slice A0 l0.length c0] w fun e w' => ∃ (g_ : Nat) (wb : World), e = .returned (.pointer (some ⟨g_, 0, none⟩)) ∧ IsS73 wb w' g_ r1 r2 r3 r4 ∧ Below wb.heap.size wb w' ∧ Below w.heap.size w w' ∧ Below w0.heap.size w0 wb := by
  unfold field_NewReader.f at h
  by_cases hl : l0.length < 140737488355328
  · rw [if_pos hl] at h
    simp only [Option.some.injEq, Prod.mk.injEq] at h
    obtain ⟨rfl, rfl, rfl, rfl⟩ := h
    have hcl := Aside0.mk (show slices_Clone_byte_byte.f l0 = some l0 from by unfold slices_Clone_byte_byte.f; rw [if_pos hl])
    have HR := Aside0.mk (Kd.C_below hr0 hB)
    have HC := Aside0.mk hc0
    have HB := Aside0.mk hB
    clear hl hr0 hc0 hB
    go_enter Tryd.func20, Tryd.ntmps20
    go_wp2_with (first | (go_at_call 31; refine (slices_Clone_byte_byte.calls _ _ l0 l0 _ HR.out HC.out hcl.out).mono ?_; rintro e w1 ⟨v1, rfl, hR, hb⟩; obtain ⟨A1, c1, e1⟩ := Kd.R_slice hR; subst e1; have HO := Aside0.mk hR; have HB1 := Aside0.mk hb; clear hR hb) | ((with_reducible refine gate_dst (N := 6) rfl ?_); refine box_event ?hg (N := 6) ?hd (cs := #[.slice A1 l0.length c1, .int .i64 0, .int .i64 0, .int .i64 0]) (t := 73) ?hr ?_; (case hd => rfl); (case hg => rfl); (case hr => first | (go_simp; done) | (go_simp; rfl)); intro gb hg w9 hbox hb; have HX := Aside0.mk hbox; have HY := Aside0.mk hb; have HG := Aside0.mk hg; clear hbox hb hg))
    go_ret
    exact ⟨gb, w1, rfl, ⟨A1, c1, HX.out, Nat.le_of_eq HG.out.symm, (Kd.R_reads' HO.out).2.2, (Kd.R_reads' HO.out).2.1⟩, HY.out, below_step HB1.out HY.out, below_step HB.out HB1.out⟩
  · rw [if_neg hl] at h
    cases h
end Go.Proofs.YtchfkkpghipeiaaDoor.Q
