/- label.Runes: how many runes a text has: a walk. -/
import Derived.Test.YtjefllmaffialaaDoorGTabs
namespace Go.Proofs.YtjefllmaffialaaDoor.Q
open Go.RowKit Go.Proofs.YtjefllmaffialaaDoorW.PrintWords Go.Proofs.YtjefllmaffialaaDoorW.PrintLast Go.Proofs.YtjefllmaffialaaDoorW.PrintMore
set_option linter.unusedVariables false
set_option linter.unusedSimpArgs false

def label_Runes.f (a0 : ByteArray) : Option (Int) := if a0.size < 9223372036854775807 then some ((Utf.runes a0.data.toList).length : Int) else none
set_option maxHeartbeats 4000000 in
set_option maxRecDepth 1000000 in
theorem label_Runes.calls (a0 : ByteArray) (r : Int) (w : World) (h : label_Runes.f a0 = some r) :
    Calls Tryd.prog 29 #[.string a0] w fun e w' => e = .returned (.int .i64 r) ∧ Below w.heap.size w w' := by
  unfold label_Runes.f at h
  by_cases hs : a0.size < 9223372036854775807
  · rw [if_pos hs] at h
    obtain rfl := Option.some.inj h
    clear h
    go_enter Tryd.func29, Tryd.ntmps29
    go_wp2
    go_loopw [3] (fun n w' => ∃ (pos acc : Nat), w' = w.iter a0 pos ∧ n = .int .i64 acc ∧ acc + (Utf.runes (a0.data.toList.drop pos)).length = (Utf.runes a0.data.toList).length ∧ acc ≤ pos) (fun _ w' => a0.size - w'.iterPos w.heap.size)
    case atStart => exact ⟨0, 0, rfl, rfl, by simp, Nat.le_refl _⟩
    case round =>
      obtain ⟨pos, acc, rfl, rfl, hc, ha⟩ := hrel
      by_cases hp : pos < a0.size
      · have hnx : ∀ ty, (Instr.next (.pointer (some ⟨w.heap.size, 0, none⟩)) true ty).run Tryd.prog (w.iter a0 pos) = _ := fun ty => run_next_any w a0 pos ty hp
        have hwd := Lib.decode_width_pos a0 pos hp
        go_wp2
        go_roundw
        case rel =>
          refine ⟨pos + (Utf8.decode a0 pos).2, acc + 1, rfl, by go_num, ?_, by omega⟩
          rw [← hc, runes_at a0 pos hp]
          simp
          omega
        case measure =>
          simp
          omega
      · have hnx : ∀ ty, (Instr.next (.pointer (some ⟨w.heap.size, 0, none⟩)) true ty).run Tryd.prog (w.iter a0 pos) = _ := fun ty => run_next_end w a0 pos ty hp
        go_wp2
        go_ret
        rw [runes_end a0 pos hp, List.length_nil, Nat.add_zero] at hc
        subst hc
        exact ⟨rfl, below_alloc (Below.refl _ _) _⟩
  · rw [if_neg hs] at h
    cases h
end Go.Proofs.YtjefllmaffialaaDoor.Q
