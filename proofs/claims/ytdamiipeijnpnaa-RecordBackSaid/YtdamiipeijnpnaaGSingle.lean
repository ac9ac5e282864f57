/- The table of the sums of single bytes: a walk. -/
import Derived.Test.YtdamiipeijnpnaaQx0
import Derived.Outline
import Derived.Laws.Rows
import Derived.Deep.WholeRow
import Derived.Lib.Hide
namespace Go.Proofs.Ytdamiipeijnpnaa.Q
open Go.RowKit Go.Proofs.YtdamiipeijnpnaaW.PrintWords Go.Proofs.YtdamiipeijnpnaaW.PrintLast Go.Proofs.YtdamiipeijnpnaaW.PrintMore
set_option linter.unusedVariables false
set_option linter.unusedSimpArgs false

/-- One bit's step. -/
def cstep (v : Int) : Int := Go.bits .xor .u32 (v / 2) ((3988292384 * Go.bits .and .u32 v 1) % 4294967296)
def csteps : Nat → Int → Int
  | 0, v => v
  | n + 1, v => cstep (csteps n v)
/-- The table, its first n entries set. -/
def tabTo (n : Nat) : Array Value := ((List.range n).map (fun i : Nat => Value.int .u32 (csteps 8 (i : Int))) ++ List.replicate (256 - n) (Value.int .u32 0)).toArray
theorem zero37 (W : World) : (zeroValue 97).run Try.prog W = .ok (.agg (tabTo 0)) W := by kernel_rfl

theorem tabTo_size (n : Nat) (h : n ≤ 256) : (tabTo n).size = 256 := by
  unfold tabTo; simp; omega
theorem tabTo_set (n : Nat) (h : n < 256) : (tabTo n).setIfInBounds n (.int .u32 (csteps 8 (n : Int))) = tabTo (n + 1) := by
  have e : 256 - n = (256 - (n + 1)) + 1 := by omega
  rw [← Array.toList_inj]
  unfold tabTo
  rw [e, List.replicate_succ, List.range_succ, List.map_append]
  simp [List.set_append_right]
theorem csteps_lo (v : Int) : ∀ n, csteps (n + 1) v = cstep (csteps n v) := fun _ => rfl

theorem tabTo_one (n : Nat) : (tabTo n).all (·.oneCell') = true := by
  unfold tabTo; simp [Array.all_eq_true_iff_forall_mem]
  exact ⟨fun _ _ => rfl, .inr rfl⟩
theorem info37 {c : Array Value} (h : c.size = 256) : (Try.prog.info? 97).map (·.size) = some c.size := by rw [h]; kernel_rfl

set_option maxHeartbeats 400000 in
set_option maxRecDepth 100000 in
/-- The table: a call of it makes one block, and hands back the table. -/
theorem sum_single.calls0 (w : World) :
    Calls Try.prog 53 #[] w fun e w' => e = .returned (.agg (tabTo 256)) ∧ Below w.heap.size w w' := by
  have hal := zero37
  have hu37 := Try.underlying97
  go_enter Try.func53, Try.ntmps53
  go_wp2
  go_loopw [3] (fun v3 W => ∃ i : Nat, i ≤ 256 ∧ v3 = .int .i64 i ∧ W = w.alloc (.cells (tabTo i) 97)) (fun v3 _ => 256 - (intOf v3).toNat)
  case atStart => exact ⟨0, by omega, rfl, rfl⟩
  case round =>
    obtain ⟨i, hi, rfl, rfl⟩ := hrel
    have hts := tabTo_size i hi
    by_cases hlt : i < 256
    · have hset := Lib.hid (tabTo_set i hlt)
      go_wp2
      go_loop [2, 8] (fun v2 v8 => ∃ j : Nat, j ≤ 8 ∧ v8 = .int .i64 j ∧ v2 = .int .u32 (csteps j i)) (fun _ v8 => 8 - (intOf v8).toNat)
      case atStart => exact ⟨0, by omega, rfl, rfl⟩
      case round =>
        obtain ⟨j, hj, rfl, rfl⟩ := hrel
        by_cases hlj : j < 8
        · go_wp2
          go_round
          case rel => exact ⟨j + 1, by omega, by go_num, rfl⟩
          case measure => simp [intOf]; omega
        · have hj8 : Hid (j = 8) := Lib.hid (by omega)
          go_wp2
          refine ⟨⟨i + 1, by omega, by go_num, ?_⟩, by simp [intOf]; omega⟩
          rw [hj8.out, hset.out]
    · have hi256 : i = 256 := by omega
      subst hi256
      go_wp2_with (first | (refine wpList_load_row rfl 97 _ rfl w.heap.size rfl 97 (tabTo 256) (0, 0) _ (heap_alloc_last w _) hu37 rfl (info37 hts) ?_) | (refine wpList_store_row rfl 97 _ _ rfl w.heap.size (tabTo 256) rfl rfl 97 (tabTo 256) (heap_alloc_last w _) (info37 hts) rfl (tabTo_one _) ?_))
      rw [World.setRow_alloc_new]
      exact bodyPost_ret (results_cell_row rfl _ _ w.heap.size 97 (tabTo 256) (0, 0) _ rfl (heap_alloc_last w _) hu37 rfl (info37 hts)) rfl ⟨rfl, below_alloc (Below.refl _ _) _⟩
end Go.Proofs.Ytdamiipeijnpnaa.Q
