/- slices.Clone at bytes: a walk. -/
import Derived.Test.YtchfkkpghipeiaaDoorQx0
import Derived.Lib.SliceRun
import Derived.Lib.Hide
import Derived.Outline
namespace Go.Proofs.YtchfkkpghipeiaaDoor.Q
open Go.RowKit Go.Proofs.YtchfkkpghipeiaaDoorW.PrintWords Go.Proofs.YtchfkkpghipeiaaDoorW.PrintLast Go.Proofs.YtchfkkpghipeiaaDoorW.PrintMore
set_option linter.unusedVariables false
set_option linter.unusedSimpArgs false

theorem infoB : (Tryd.prog.info? 5).map (fun i => (i.zero, i.size, i.bytes)) = some (some (.int .u8 0), 1, 1) := by kernel_rfl
def slices_Clone_byte_byte.f (l0 : List Int) : Option (List Int) := if l0.length < 140737488355328 then some l0 else none
set_option maxHeartbeats 400000 in
set_option maxRecDepth 100000 in
theorem slices_Clone_byte_byte.calls (A0 : Option Addr) (c0 : Nat) (l0 : List Int) (r : List Int) (w : World) (hr0 : Kd.C (Kd.int .u8) w A0 l0.length l0) (hc0 : l0.length ≤ c0) (h : slices_Clone_byte_byte.f l0 = some r) :
    Calls Tryd.prog 31 #[.slice A0 l0.length c0] w fun e w' => ∃ v0_ : Value, e = .returned (v0_) ∧ Kd.R (Kd.int .u8) 5 w' w.heap.size (fun _ => True) v0_ r ∧ Below w.heap.size w w' := by
  unfold slices_Clone_byte_byte.f at h
  by_cases hl : l0.length < 140737488355328
  · rw [if_pos hl] at h
    obtain rfl := Option.some.inj h
    clear h
    have hHR := Aside0.mk hr0
    have hHL := Aside0.mk hl
    clear hl
    cases A0 with
    | none =>
      have h0 : l0 = [] := by
        by_cases hn : 0 < l0.length
        · obtain ⟨ad, e, _⟩ := hr0.2.2 hn
          cases e
        · exact List.length_eq_zero_iff.1 (by omega)
      subst h0
      clear hr0 hHR hHL hc0
      have he := fun W => Lib.run_eql_slice_nil (P := Tryd.prog) W 35 5 none 0 c0 0 0 Tryd.underlying35
      go_enter Tryd.func31, Tryd.ntmps31
      go_wp2
      go_ret
      exact ⟨_, rfl, Kd.R_nil _ _ _ _ _, Below.refl _ _⟩
    | some ad =>
      clear hr0 hc0
      have HB := Aside0.mk (Below.refl w.heap.size w)
      have he := fun W => Lib.run_eql_slice_nil (P := Tryd.prog) W 35 5 (some ad) l0.length c0 0 0 Tryd.underlying35
      go_enter Tryd.func31, Tryd.ntmps31
      go_wp2_with (first | ((with_reducible refine gate_dst (N := 5) rfl ?_); refine Kd.R_lit (Kd.int .u8) w.heap.size 5 ?hg (N := 5) ?hd (xs := ([] : List Int)) (inner := []) (ok := fun _ => True) (okp := fun _ => True) ?hr ?hp (fun _ hk => hk) trivial (Below.refl _ _) (Nat.le_refl _) (by simp) ?_; (case hd => rfl); (case hg => rfl); (case hr => first | (go_simp; done) | (go_simp; rfl)); (case hp => exact (Reps.none _ _)); intro v1 w1 ho hb hg_ hnew_; clear hg_ hnew_; have HO := Aside0.mk ho; have HB1 := Aside0.mk hb; clear ho hb) | ((with_reducible refine gate_builtin (b := .append) (xs := #[.tmp 5, .tmp 6]) rfl ?_); at_builtin; refine Kd.R_append_rows (Kd.int .u8) (w0 := w) w.heap.size rfl (.tmp 5) (.tmp 6) 35 5 (.int .u8 0) 1 rfl Tryd.underlying35 infoB rfl (by decide) (by omega) v1 [] l0 _ _ _ (fun _ => True) (fun _ => False) rfl rfl HO.out (Kd.C_below hHR.out HB1.out) (fun _ _ h => h) (fun _ h => h.elim) (fun _ _ => trivial) HB1.out HB1.out.size ?aL ?_; (case aL => have := hHL.out; simp; omega); intro v2 w2 ho hb hg hat; have HO2 := Aside0.mk ho; have HB2 := Aside0.mk hb; clear ho hb hg hat))
      go_ret
      exact ⟨_, rfl, HO2.out, HB2.out⟩
  · rw [if_neg hl] at h
    cases h
end Go.Proofs.YtchfkkpghipeiaaDoor.Q
