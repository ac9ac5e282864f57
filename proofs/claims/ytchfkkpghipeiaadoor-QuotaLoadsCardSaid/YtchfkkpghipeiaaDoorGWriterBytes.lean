/- (*field.Writer).Bytes: a copy of what was put, by hand. -/
import Derived.Test.YtchfkkpghipeiaaDoorGWriterNum
import Derived.Test.YtchfkkpghipeiaaDoorGClone
namespace Go.Proofs.YtchfkkpghipeiaaDoor.Q
open Go.RowKit Go.Proofs.YtchfkkpghipeiaaDoorW.PrintWords Go.Proofs.YtchfkkpghipeiaaDoorW.PrintLast Go.Proofs.YtchfkkpghipeiaaDoorW.PrintMore
set_option linter.unusedVariables false
set_option linter.unusedSimpArgs false

set_option maxHeartbeats 1000000 in
set_option maxRecDepth 100000 in
theorem writer_Bytes.callsT (T : TypeId) (g : Nat) (v : Value) (xs : List Int) (w0 w : World) (hI : IsWT T w0 w g v xs) (hx : xs.length < 100000000) :
    Calls Tryd.prog 19 #[.pointer (some ⟨g, 0, none⟩)] w fun e w' => ∃ v0_ : Value, e = .returned v0_ ∧ Kd.R (Kd.int .u8) 5 w' w.heap.size (fun _ => True) v0_ xs ∧ IsWT T w0 w' g v xs ∧ Below w.heap.size w w' := by
  obtain ⟨hg, hge, hR⟩ := hI
  obtain ⟨A1, c1, e1⟩ := Kd.R_slice hR
  subst e1
  have HI := Aside0.mk (show IsWT T w0 w g (.slice A1 xs.length c1) xs from ⟨hg, hge, hR⟩)
  have hc := (blk_cell hg 0).trans rfl
  have hc' : w.cell? ⟨g, 0, none⟩ = some (.slice A1 xs.length c1) := (blk_cell hg 0).trans rfl
  have HR := Aside0.mk (Kd.R_reads' hR)
  have hcl := Aside0.mk (show slices_Clone_byte_byte.f xs = some xs from by unfold slices_Clone_byte_byte.f; rw [if_pos (by omega)])
  clear hR hge hg hc
  go_enter Tryd.func19, Tryd.ntmps19
  go_wp2_with (first | (go_at_call 31; refine (slices_Clone_byte_byte.calls _ _ xs xs _ HR.out.2.2 HR.out.2.1 hcl.out).mono ?_; rintro e w1 ⟨v1, rfl, hR, hb⟩; have HO := Aside0.mk hR; have HB1 := Aside0.mk hb; clear hR hb))
  go_ret
  exact ⟨_, rfl, HO.out, ⟨blk_grown HI.out.1 (grown_of_below HB1.out none) (by simp), HI.out.2.1, Kd.R_below HI.out.2.2 HB1.out⟩, HB1.out⟩
theorem writer_Bytes.calls (g : Nat) (v : Value) (xs : List Int) (w0 w : World) (hI : IsW w0 w g v xs) (hx : xs.length < 100000000) :
    Calls Tryd.prog 19 #[.pointer (some ⟨g, 0, none⟩)] w fun e w' => ∃ v0_ : Value, e = .returned v0_ ∧ Kd.R (Kd.int .u8) 5 w' w.heap.size (fun _ => True) v0_ xs ∧ IsW w0 w' g v xs ∧ Below w.heap.size w w' :=
  writer_Bytes.callsT _ g v xs w0 w hI hx
end Go.Proofs.YtchfkkpghipeiaaDoor.Q
