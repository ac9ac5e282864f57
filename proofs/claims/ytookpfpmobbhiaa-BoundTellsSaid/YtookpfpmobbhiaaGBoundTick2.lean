/- bound.Ticks itself. -/
import Derived.Test.YtookpfpmobbhiaaGBoundTicks
import Derived.Test.YtookpfpmobbhiaaGBoundLong
namespace Go.Proofs.Ytookpfpmobbhiaa.Q
open Go.RowKit Go.Shelf Go.Proofs.YtookpfpmobbhiaaW.PrintWords Go.Proofs.YtookpfpmobbhiaaW.PrintLast Go.Proofs.YtookpfpmobbhiaaW.PrintMore
set_option linter.unusedVariables false
set_option linter.unusedSimpArgs false
attribute [local go_sem] Oper.semAt_some

def bound_Ticks.f (l0 : List S28) (l1 : List S44) (nx : Int) (l2 : List S51) : Option Int :=
  if ((l0.length < 1000000 ∧ l2.length < 1000000) ∧ ∀ d ∈ l0, d.f2.length < 1000000) ∧ l1.length < 1000000 then bound_all.f (sumT (ticksL l0 l1)) ((liveL l1).length : Int) (greT (waitL l0 l2)) else none

set_option maxRecDepth 100000 in
set_option maxHeartbeats 4000000 in
theorem bound_Ticks.calls (A0 : Option Addr) (c0 : Nat) (l0 : List S28) (A1 : Option Addr) (c1 : Nat) (l1 : List S44) (nx : Int) (A2 : Option Addr) (c2 : Nat) (l2 : List S51) (r : Int) (w : World)
    (hr0 : Kd.C k28 w A0 l0.length l0) (hc0 : l0.length ≤ c0) (hr1 : Kd.C k44 w A1 l1.length l1) (hc1 : l1.length ≤ c1) (hr2 : Kd.C k51 w A2 l2.length l2) (hc2 : l2.length ≤ c2) (h : bound_Ticks.f l0 l1 nx l2 = some r) :
    Calls Try.prog 17 #[.agg #[.slice A0 l0.length c0, .slice A1 l1.length c1, .int .i64 nx], .slice A2 l2.length c2] w fun e w' => e = .returned (.int .i64 r) ∧ Below w.heap.size w w' := by
  unfold bound_Ticks.f at h
  by_cases hl : ((l0.length < 1000000 ∧ l2.length < 1000000) ∧ ∀ d ∈ l0, d.f2.length < 1000000) ∧ l1.length < 1000000
  · rw [if_pos hl] at h
    obtain ⟨⟨⟨hl0, hl2⟩, hst⟩, hl1⟩ := hl
    have HT := Aside0.mk h
    have HL := Aside0.mk (show bound_Longest.f l0 l2 = some (greT (waitL l0 l2)) by unfold bound_Longest.f; rw [if_pos ⟨⟨hl0, hl2⟩, hst⟩])
    have HV := Aside0.mk (show bound_Live.f l0 l1 nx = some ((liveL l1).length : Int) by unfold bound_Live.f; rw [if_pos hl1])
    clear h
    refine (callsIn_wide (n := 8)).1 ?_
    refine callsIn_of_wp Try.func17 rfl trivial ?_ rfl
    simp only [Try.ntmps17, List.size_toArray, List.length_cons, List.length_nil, Nat.reduceAdd, Nat.reduceSub, Array.replicate_succ, Array.replicate_zero, List.push_toArray, List.append_toArray, List.nil_append, List.cons_append]
    have hmx : Try.prog.follows .mixedOrders = true := by kernel_rfl
    gi_upto_region 1 with (fail)
    have bx := blk_new w (.cells #[.slice A0 l0.length c0, .slice A1 l1.length c1, .int .i64 nx] 25)
    have hb1 : Below w.heap.size w (w.alloc (.cells #[.slice A0 l0.length c0, .slice A1 l1.length c1, .int .i64 nx] 25)) := (Below.refl _ w).alloc (Nat.le_refl _) _
    have hlt := blk_lt bx
    generalize w.alloc (.cells #[.slice A0 l0.length c0, .slice A1 l1.length c1, .int .i64 nx] 25) = W1 at *
    obtain ⟨b, hb⟩ : ∃ q, w.heap.size = q := ⟨_, rfl⟩
    have hf23 : Fence.wide.fn 23 := trivial
    have hf15 : Fence.wide.fn 15 := trivial
    have hf14 : Fence.wide.fn 14 := trivial
    have hf31 : Fence.wide.fn 31 := trivial
    have HB := Aside0.mk hb1
    have HBB := Aside0.mk hb
    rw [hb] at bx ⊢
    have hba : Below W1.heap.size W1 (W1.alloc (.cells #[.int .i64 0] 3)) := (Below.refl _ W1).alloc (Nat.le_refl _) _
    have hR := ticks_rounds b A0 c0 l0 A1 c1 l1 nx W1.heap.size w (W1.alloc (.cells #[.int .i64 0] 3)) (by simp) (by omega) hb1.size (hb1.trans (hba.mono hb1.size)) ((hba.block b (blk_lt bx)).trans bx) hr0 hr1 hl0 hl1 hst
    gi_upto_region 2 with (gi_at_call 23; refine (callsIn_wide.2 (bound_sumR.calls 29 #[.pointer (some ⟨b, 0, none⟩)] (enters_of Try.func29 (by kernel_rfl) rfl) (ticksL l0 l1) _ hR)).mono ?_; rintro e w2 ⟨rfl, hb2⟩)
    have hbc : Below w.heap.size w w2.drew := below_drew1 (hb1.trans (hb2.mono hb1.size))
    have zx : w2.drew.heap[b]? = some (.cells #[.slice A0 l0.length c0, .slice A1 l1.length c1, .int .i64 nx] 25 (0, 0)) := (hb2.block b (blk_lt bx)).trans bx
    have y0 : w2.drew.cell? ⟨b, 0, none⟩ = some (.slice A0 l0.length c0) := (blk_cell zx 0).trans rfl
    have y1 : w2.drew.cell? ⟨b, 1, none⟩ = some (.slice A1 l1.length c1) := (blk_cell zx 1).trans rfl
    have y2 : w2.drew.cell? ⟨b, 2, none⟩ = some (.int .i64 nx) := (blk_cell zx 2).trans rfl
    clear hR hba bx hlt hb1 hb2
    gi_region_with_o (first
      | (gi_at_call 15; go_loud (refine (callsIn_wide.2 (bound_Live.calls A0 c0 l0 A1 c1 l1 nx _ _ (Kd.C_below hr0 hbc) hc0 (Kd.C_below hr1 hbc) hc1 HV.out)).mono ?_; rintro e w3 ⟨rfl, hb3⟩; replace hbc := below_step hbc hb3; replace zx := (hb3.block b (blk_lt zx)).trans zx; clear y0 y1 y2; have y0 := (blk_cell zx 0).trans rfl; have y1 := (blk_cell zx 1).trans rfl; have y2 := (blk_cell zx 2).trans rfl; clear hb3))
      | (gi_at_call 14; go_loud (refine (callsIn_wide.2 (bound_Longest.calls A0 c0 l0 A2 c2 l2 _ _ (Kd.C_below hr0 hbc) hc0 (Kd.C_below hr2 hbc) hc2 HL.out)).mono ?_; rintro e w3 ⟨rfl, hb3⟩; replace hbc := below_step hbc hb3; replace zx := (hb3.block b (blk_lt zx)).trans zx; clear y0 y1 y2; have y0 := (blk_cell zx 0).trans rfl; have y1 := (blk_cell zx 1).trans rfl; have y2 := (blk_cell zx 2).trans rfl; clear hb3))
      | (gi_at_call 31; go_loud (refine (callsIn_wide.2 (bound_all.calls _ _ _ r _ HT.out)).mono ?_; rintro e w5 ⟨rfl, hb5⟩; replace hbc := below_step hbc hb5; clear hb5 zx y0 y1 y2)))
    all_goals gi_wp2
    all_goals go_ret
    all_goals exact ⟨rfl, hbc⟩
  · rw [if_neg hl] at h
    cases h
end Go.Proofs.Ytookpfpmobbhiaa.Q
