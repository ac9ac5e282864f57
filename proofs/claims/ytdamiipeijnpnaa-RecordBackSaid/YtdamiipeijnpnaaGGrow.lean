/- slices.Grow of no slice, at bytes: a walk. -/
import Derived.Test.YtdamiipeijnpnaaGClone
namespace Go.Proofs.Ytdamiipeijnpnaa.Q
open Go.RowKit Go.Proofs.YtdamiipeijnpnaaW.PrintWords Go.Proofs.YtdamiipeijnpnaaW.PrintLast Go.Proofs.YtdamiipeijnpnaaW.PrintMore
set_option linter.unusedVariables false
set_option linter.unusedSimpArgs false

set_option maxHeartbeats 400000 in
set_option maxRecDepth 100000 in
theorem grow_nil (n : Int) (w : World) (h0 : 0 ≤ n) (h1 : n < 140737488355328) :
    Calls Try.prog 50 #[.slice none 0 0, .int .i64 n] w fun e w' => ∃ v0_ : Value, e = .returned (v0_) ∧ Kd.R (Kd.int .u8) 5 w' w.heap.size (fun _ => True) v0_ [] ∧ Below w.heap.size w w' := by
  by_cases hn : 0 < n
  · have HB := Aside0.mk (Below.refl w.heap.size w)
    obtain ⟨i0, hi0, _, hsz, _⟩ := info_parts infoB
    have hcut0 : ∀ W : World, (Instr.slice 25 (.slice none 0 0) none (some (.int .i64 0)) none).run Try.prog W = .ok (.slice none 0 0) W := cut_to (P := Try.prog) 25 5 .i64 Try.underlying25 hi0 none 0 0 0 (by omega) (by omega) (by omega)
    go_enter Try.func50, Try.ntmps50
    go_wp2_with (first | ((with_reducible refine gate_builtin (b := .append) (xs := #[.tmp 20, .tmp 21]) rfl ?_); at_builtin; refine Kd.R_append_zeros (Kd.int .u8) (w0 := w) w.heap.size rfl (.tmp 20) (.tmp 21) 25 3 5 (.int .u8 0) 1 rfl Try.underlying25 Try.underlying3 infoB rfl (by decide) (by omega) (.slice none 0 0) [] 0 n (fun _ => True) rfl rfl rfl (fun _ _ => trivial) (Kd.R_nil _ _ _ _ _) h0 (Below.refl _ _) (Nat.le_refl _) ?aL ?_; (case aL => simp; omega); intro v1 w1 ho hb hg hat; obtain ⟨A, c, rfl, hc, _⟩ := Kd.R_reads ho; have HO := Aside0.mk (Kd.R_take (m := 0) ho (by omega)); have HB1 := Aside0.mk hb; have hcut1 := cut_to (P := Try.prog) 25 5 .i64 Try.underlying25 hi0 A ([] ++ List.replicate n.toNat (0 : Int)).length c 0 (by omega) (by omega) hc; simp only [List.nil_append, List.length_replicate] at hcut1; clear ho hb hg hat hc))
    go_ret
    exact ⟨_, rfl, HO.out, HB1.out⟩
  · have : n = 0 := by omega
    subst this
    go_enter Try.func50, Try.ntmps50
    go_wp2
    go_ret
    exact ⟨_, rfl, Kd.R_nil _ _ _ _ _, Below.refl _ _⟩
end Go.Proofs.Ytdamiipeijnpnaa.Q
