/- bound.Total, and rows of one element. -/
import Derived.Test.YtookpfpmobbhiaaGBoundTick2
namespace Go.Proofs.Ytookpfpmobbhiaa.Q
open Go.RowKit Go.Shelf Go.Proofs.YtookpfpmobbhiaaW.PrintWords Go.Proofs.YtookpfpmobbhiaaW.PrintLast Go.Proofs.YtookpfpmobbhiaaW.PrintMore
set_option linter.unusedVariables false
set_option linter.unusedSimpArgs false
attribute [local go_sem] Oper.semAt_some

theorem C_one {α : Type} {d : Kd α} {w : World} {b : Nat} {x : α} {cs : List Value} {t : TypeId} (h : w.heap[b]? = some (.cells cs.toArray t (0, 0))) (hs : cs.length = d.sz) (hk : d.K w x cs) : d.C w (some ⟨b, 0, none⟩) 1 [x] := by
  refine ⟨rfl, by omega, fun _ => ⟨_, rfl, fun j p hp => ?_⟩⟩
  cases j with
  | succ j => simp at hp
  | zero =>
    obtain rfl : x = p := by simpa using hp
    refine ⟨cs, hs, hk, fun i u hi => ?_⟩
    rw [Nat.zero_mul, Nat.zero_add]
    have := blk_cell h i
    have e : (⟨b, 0, none⟩ : Addr).add i = ⟨b, i, none⟩ := by
      simp only [Addr.add, Nat.zero_add]
      split
      · next h0 => rw [h0]
      · rfl
    rw [e, this]
    simpa using hi
theorem below_al {w X : World} (h : Below w.heap.size w X) (o : Obj) : Below w.heap.size w (X.alloc o) := h.alloc h.size o
theorem C_one28 {w : World} {b : Nat} {nm : ByteArray} {dl : Int} {A : Option Addr} {c : Nat} {l : List S49} (h : w.heap[b]? = some (.cells #[.string nm, .int .i64 dl, .slice A l.length c] 28 (0, 0))) (hc : l.length ≤ c) (hr : Kd.C k49 w A l.length l) : Kd.C k28 w (some ⟨b, 0, none⟩) 1 [⟨nm, dl, l⟩] :=
  C_one (cs := [.string nm, .int .i64 dl, .slice A l.length c]) h rfl (k28_mk w ⟨nm, dl, l⟩ hc hr)

def bound_Total.f (nm : ByteArray) (dl : Int) (l0 : List S49) (l1 : List S51) (lim : Int) : Option Int :=
  if l0.length < 1000000 ∧ l1.length < 1000000 then (tick_Times.f (sumT (emL l0)) (ofT lim)).bind fun t => bound_all.f t (ofT lim) (greT (waitL [⟨nm, dl, l0⟩] l1)) else none

set_option maxRecDepth 100000 in
set_option maxHeartbeats 4000000 in
theorem bound_Total.calls (nm : ByteArray) (dl : Int) (A0 : Option Addr) (c0 : Nat) (l0 : List S49) (A1 : Option Addr) (c1 : Nat) (l1 : List S51) (lim : Int) (r : Int) (w : World)
    (hr0 : Kd.C k49 w A0 l0.length l0) (hc0 : l0.length ≤ c0) (hr1 : Kd.C k51 w A1 l1.length l1) (hc1 : l1.length ≤ c1) (h : bound_Total.f nm dl l0 l1 lim = some r) :
    Calls Try.prog 19 #[.agg #[.string nm, .int .i64 dl, .slice A0 l0.length c0], .slice A1 l1.length c1, .int .i64 lim] w fun e w' => e = .returned (.int .i64 r) ∧ Below w.heap.size w w' := by
  unfold bound_Total.f at h
  by_cases hl : l0.length < 1000000 ∧ l1.length < 1000000
  · rw [if_pos hl] at h
    obtain ⟨hl0, hl1⟩ := hl
    obtain ⟨t, ht, ha⟩ := Option.bind_eq_some_iff.1 h
    have HT := Aside0.mk ht
    have HA := Aside0.mk ha
    have HL := Aside0.mk (show bound_Longest.f [⟨nm, dl, l0⟩] l1 = some (greT (waitL [⟨nm, dl, l0⟩] l1)) by unfold bound_Longest.f; rw [if_pos ⟨⟨by simp, hl1⟩, fun d hd => by rw [List.mem_singleton] at hd; rw [hd]; exact hl0⟩])
    have HE := Aside0.mk (show bound_Emissions.f nm dl l0 = some (sumT (emL l0)) by unfold bound_Emissions.f; rw [if_pos hl0])
    clear h ht ha
    refine (callsIn_wide (n := 8)).1 ?_
    refine callsIn_of_wp Try.func19 rfl trivial ?_ rfl
    simp only [Try.ntmps19, List.size_toArray, List.length_cons, List.length_nil, Nat.reduceAdd, Nat.reduceSub, Array.replicate_succ, Array.replicate_zero, List.push_toArray, List.append_toArray, List.nil_append, List.cons_append]
    have hmx : Try.prog.follows .mixedOrders = true := by kernel_rfl
    gi_upto_region 1 with (fail)
    have bx := blk_new w (.cells #[.string nm, .int .i64 dl, .slice A0 l0.length c0] 28)
    have hb1 : Below w.heap.size w (w.alloc (.cells #[.string nm, .int .i64 dl, .slice A0 l0.length c0] 28)) := (Below.refl _ w).alloc (Nat.le_refl _) _
    generalize w.alloc (.cells #[.string nm, .int .i64 dl, .slice A0 l0.length c0] 28) = W1 at *
    obtain ⟨b, hb⟩ : ∃ q, w.heap.size = q := ⟨_, rfl⟩
    have hf33 : Fence.wide.fn 33 := trivial
    have hf13 : Fence.wide.fn 13 := trivial
    have hf34 : Fence.wide.fn 34 := trivial
    have hf14 : Fence.wide.fn 14 := trivial
    have hf31 : Fence.wide.fn 31 := trivial
    have HBB := Aside0.mk hb
    rw [hb] at bx ⊢
    gi_upto_region 2 with (gi_at_call 33; refine (callsIn_wide.2 (tick_Of.calls _ _ _ (ofT_f _))).mono ?_; rintro e w2 ⟨rfl, hb2⟩)
    have hbc : Below w.heap.size w w2.drew := below_drew1 (hb1.trans (hb2.mono hb1.size))
    have zx : w2.drew.heap[b]? = some (.cells #[.string nm, .int .i64 dl, .slice A0 l0.length c0] 28 (0, 0)) := (hb2.block b (blk_lt bx)).trans bx
    have y0 : w2.drew.cell? ⟨b, 0, none⟩ = some (.string nm) := (blk_cell zx 0).trans rfl
    have y1 : w2.drew.cell? ⟨b, 1, none⟩ = some (.int .i64 dl) := (blk_cell zx 1).trans rfl
    have y2 : w2.drew.cell? ⟨b, 2, none⟩ = some (.slice A0 l0.length c0) := (blk_cell zx 2).trans rfl
    have hsz : b < w2.heap.size := blk_lt zx
    have a0 : (w2.alloc (.cells #[.string nm, .int .i64 dl, .slice A0 l0.length c0] 28)).cell? ⟨b, 0, none⟩ = some (Value.string nm) := (blk_cell (blk_alloc zx (.cells #[.string nm, .int .i64 dl, .slice A0 l0.length c0] 28)) 0).trans rfl
    have a1 : (w2.alloc (.cells #[.string nm, .int .i64 dl, .slice A0 l0.length c0] 28)).cell? ⟨b, 1, none⟩ = some (Value.int .i64 dl) := (blk_cell (blk_alloc zx (.cells #[.string nm, .int .i64 dl, .slice A0 l0.length c0] 28)) 1).trans rfl
    have a2 : (w2.alloc (.cells #[.string nm, .int .i64 dl, .slice A0 l0.length c0] 28)).cell? ⟨b, 2, none⟩ = some (Value.slice A0 l0.length c0) := (blk_cell (blk_alloc zx (.cells #[.string nm, .int .i64 dl, .slice A0 l0.length c0] 28)) 2).trans rfl
    clear bx hb1 hb2
    gi_region_with_o (first
      | (gi_at_call 13; refine (callsIn_wide.2 (bound_Emissions.calls nm dl A0 c0 l0 _ _ (Kd.C_below hr0 hbc) hc0 HE.out)).mono ?_; rintro e w3 ⟨rfl, hb3⟩; replace hbc := below_step hbc hb3; replace zx := (hb3.block b (blk_lt zx)).trans zx; clear y0 y1 y2 hsz a0 a1 a2; have hsz := blk_lt zx; have a0 : (w3.alloc (.cells #[.string nm, .int .i64 dl, .slice A0 l0.length c0] 28)).cell? ⟨b, 0, none⟩ = some (Value.string nm) := (blk_cell (blk_alloc zx (.cells #[.string nm, .int .i64 dl, .slice A0 l0.length c0] 28)) 0).trans rfl; have a1 : (w3.alloc (.cells #[.string nm, .int .i64 dl, .slice A0 l0.length c0] 28)).cell? ⟨b, 1, none⟩ = some (Value.int .i64 dl) := (blk_cell (blk_alloc zx (.cells #[.string nm, .int .i64 dl, .slice A0 l0.length c0] 28)) 1).trans rfl; have a2 : (w3.alloc (.cells #[.string nm, .int .i64 dl, .slice A0 l0.length c0] 28)).cell? ⟨b, 2, none⟩ = some (Value.slice A0 l0.length c0) := (blk_cell (blk_alloc zx (.cells #[.string nm, .int .i64 dl, .slice A0 l0.length c0] 28)) 2).trans rfl; have y0 := (blk_cell zx 0).trans (show _ = some (Value.string nm : Value) from rfl); have y1 := (blk_cell zx 1).trans (show _ = some (Value.int .i64 dl : Value) from rfl); have y2 := (blk_cell zx 2).trans (show _ = some (Value.slice A0 l0.length c0 : Value) from rfl); (try (replace zs := (hb3.block _ (blk_lt zs)).trans zs)); clear hb3)
      | (gi_at_call 13; refine (callsIn_wide.2 (bound_Emissions.calls nm dl A0 c0 l0 _ _ (Kd.C_below hr0 (below_al hbc (.cells #[.string nm, .int .i64 dl, .slice A0 l0.length c0] 28))) hc0 HE.out)).mono ?_; rintro e w3 ⟨rfl, hb3⟩; have zs := (hb3.block _ (blk_lt (blk_new _ (.cells #[.string nm, .int .i64 dl, .slice A0 l0.length c0] 28)))).trans (blk_new _ (.cells #[.string nm, .int .i64 dl, .slice A0 l0.length c0] 28)); replace hbc := below_step (below_al hbc (.cells #[.string nm, .int .i64 dl, .slice A0 l0.length c0] 28)) hb3; replace zx := (hb3.block b (blk_lt (blk_alloc zx (.cells #[.string nm, .int .i64 dl, .slice A0 l0.length c0] 28)))).trans (blk_alloc zx (.cells #[.string nm, .int .i64 dl, .slice A0 l0.length c0] 28)); clear y0 y1 y2 hsz a0 a1 a2; have hsz := blk_lt zx; have a0 : (w3.alloc (.cells #[.string nm, .int .i64 dl, .slice A0 l0.length c0] 28)).cell? ⟨b, 0, none⟩ = some (Value.string nm) := (blk_cell (blk_alloc zx (.cells #[.string nm, .int .i64 dl, .slice A0 l0.length c0] 28)) 0).trans rfl; have a1 : (w3.alloc (.cells #[.string nm, .int .i64 dl, .slice A0 l0.length c0] 28)).cell? ⟨b, 1, none⟩ = some (Value.int .i64 dl) := (blk_cell (blk_alloc zx (.cells #[.string nm, .int .i64 dl, .slice A0 l0.length c0] 28)) 1).trans rfl; have a2 : (w3.alloc (.cells #[.string nm, .int .i64 dl, .slice A0 l0.length c0] 28)).cell? ⟨b, 2, none⟩ = some (Value.slice A0 l0.length c0) := (blk_cell (blk_alloc zx (.cells #[.string nm, .int .i64 dl, .slice A0 l0.length c0] 28)) 2).trans rfl; have y0 := (blk_cell zx 0).trans (show _ = some (Value.string nm : Value) from rfl); have y1 := (blk_cell zx 1).trans (show _ = some (Value.int .i64 dl : Value) from rfl); have y2 := (blk_cell zx 2).trans (show _ = some (Value.slice A0 l0.length c0 : Value) from rfl); clear hb3)
      | (gi_at_call 34; refine (callsIn_wide.2 (tick_Times.calls _ _ _ _ HT.out)).mono ?_; rintro e w3 ⟨rfl, hb3⟩; replace hbc := below_step hbc hb3; replace zx := (hb3.block b (blk_lt zx)).trans zx; clear y0 y1 y2 hsz a0 a1 a2; have hsz := blk_lt zx; have a0 : (w3.alloc (.cells #[.string nm, .int .i64 dl, .slice A0 l0.length c0] 28)).cell? ⟨b, 0, none⟩ = some (Value.string nm) := (blk_cell (blk_alloc zx (.cells #[.string nm, .int .i64 dl, .slice A0 l0.length c0] 28)) 0).trans rfl; have a1 : (w3.alloc (.cells #[.string nm, .int .i64 dl, .slice A0 l0.length c0] 28)).cell? ⟨b, 1, none⟩ = some (Value.int .i64 dl) := (blk_cell (blk_alloc zx (.cells #[.string nm, .int .i64 dl, .slice A0 l0.length c0] 28)) 1).trans rfl; have a2 : (w3.alloc (.cells #[.string nm, .int .i64 dl, .slice A0 l0.length c0] 28)).cell? ⟨b, 2, none⟩ = some (Value.slice A0 l0.length c0) := (blk_cell (blk_alloc zx (.cells #[.string nm, .int .i64 dl, .slice A0 l0.length c0] 28)) 2).trans rfl; have y0 := (blk_cell zx 0).trans (show _ = some (Value.string nm : Value) from rfl); have y1 := (blk_cell zx 1).trans (show _ = some (Value.int .i64 dl : Value) from rfl); have y2 := (blk_cell zx 2).trans (show _ = some (Value.slice A0 l0.length c0 : Value) from rfl); (try (replace zs := (hb3.block _ (blk_lt zs)).trans zs)); clear hb3)
      | (gi_at_call 34; refine (callsIn_wide.2 (tick_Times.calls _ _ _ _ HT.out)).mono ?_; rintro e w3 ⟨rfl, hb3⟩; have zs := (hb3.block _ (blk_lt (blk_new _ (.cells #[.string nm, .int .i64 dl, .slice A0 l0.length c0] 28)))).trans (blk_new _ (.cells #[.string nm, .int .i64 dl, .slice A0 l0.length c0] 28)); replace hbc := below_step (below_al hbc (.cells #[.string nm, .int .i64 dl, .slice A0 l0.length c0] 28)) hb3; replace zx := (hb3.block b (blk_lt (blk_alloc zx (.cells #[.string nm, .int .i64 dl, .slice A0 l0.length c0] 28)))).trans (blk_alloc zx (.cells #[.string nm, .int .i64 dl, .slice A0 l0.length c0] 28)); clear y0 y1 y2 hsz a0 a1 a2; have hsz := blk_lt zx; have a0 : (w3.alloc (.cells #[.string nm, .int .i64 dl, .slice A0 l0.length c0] 28)).cell? ⟨b, 0, none⟩ = some (Value.string nm) := (blk_cell (blk_alloc zx (.cells #[.string nm, .int .i64 dl, .slice A0 l0.length c0] 28)) 0).trans rfl; have a1 : (w3.alloc (.cells #[.string nm, .int .i64 dl, .slice A0 l0.length c0] 28)).cell? ⟨b, 1, none⟩ = some (Value.int .i64 dl) := (blk_cell (blk_alloc zx (.cells #[.string nm, .int .i64 dl, .slice A0 l0.length c0] 28)) 1).trans rfl; have a2 : (w3.alloc (.cells #[.string nm, .int .i64 dl, .slice A0 l0.length c0] 28)).cell? ⟨b, 2, none⟩ = some (Value.slice A0 l0.length c0) := (blk_cell (blk_alloc zx (.cells #[.string nm, .int .i64 dl, .slice A0 l0.length c0] 28)) 2).trans rfl; have y0 := (blk_cell zx 0).trans (show _ = some (Value.string nm : Value) from rfl); have y1 := (blk_cell zx 1).trans (show _ = some (Value.int .i64 dl : Value) from rfl); have y2 := (blk_cell zx 2).trans (show _ = some (Value.slice A0 l0.length c0 : Value) from rfl); clear hb3)
      | (gi_at_call 14; refine (callsIn_wide.2 (bound_Longest.calls (some ⟨_, 0, none⟩) 1 [⟨nm, dl, l0⟩] A1 c1 l1 _ _ (C_one28 zs hc0 (Kd.C_below hr0 hbc)) (Nat.le_refl _) (Kd.C_below hr1 hbc) hc1 HL.out)).mono ?_; rintro e w3 ⟨rfl, hb3⟩; replace hbc := below_step hbc hb3; replace zx := (hb3.block b (blk_lt zx)).trans zx; clear y0 y1 y2 hsz a0 a1 a2; have hsz := blk_lt zx; have a0 : (w3.alloc (.cells #[.string nm, .int .i64 dl, .slice A0 l0.length c0] 28)).cell? ⟨b, 0, none⟩ = some (Value.string nm) := (blk_cell (blk_alloc zx (.cells #[.string nm, .int .i64 dl, .slice A0 l0.length c0] 28)) 0).trans rfl; have a1 : (w3.alloc (.cells #[.string nm, .int .i64 dl, .slice A0 l0.length c0] 28)).cell? ⟨b, 1, none⟩ = some (Value.int .i64 dl) := (blk_cell (blk_alloc zx (.cells #[.string nm, .int .i64 dl, .slice A0 l0.length c0] 28)) 1).trans rfl; have a2 : (w3.alloc (.cells #[.string nm, .int .i64 dl, .slice A0 l0.length c0] 28)).cell? ⟨b, 2, none⟩ = some (Value.slice A0 l0.length c0) := (blk_cell (blk_alloc zx (.cells #[.string nm, .int .i64 dl, .slice A0 l0.length c0] 28)) 2).trans rfl; have y0 := (blk_cell zx 0).trans (show _ = some (Value.string nm : Value) from rfl); have y1 := (blk_cell zx 1).trans (show _ = some (Value.int .i64 dl : Value) from rfl); have y2 := (blk_cell zx 2).trans (show _ = some (Value.slice A0 l0.length c0 : Value) from rfl); clear hb3 zs)
      | (gi_at_call 14; go_loud (refine (callsIn_wide.2 (bound_Longest.calls (some ⟨_, 0, none⟩) 1 [⟨nm, dl, l0⟩] A1 c1 l1 _ _ (C_one28 (blk_new _ (.cells #[.string nm, .int .i64 dl, .slice A0 l0.length c0] 28)) hc0 (Kd.C_below hr0 (below_al hbc (.cells #[.string nm, .int .i64 dl, .slice A0 l0.length c0] 28)))) (Nat.le_refl _) (Kd.C_below hr1 (below_al hbc (.cells #[.string nm, .int .i64 dl, .slice A0 l0.length c0] 28))) hc1 HL.out)).mono ?_; rintro e w3 ⟨rfl, hb3⟩; replace hbc := below_step (below_al hbc (.cells #[.string nm, .int .i64 dl, .slice A0 l0.length c0] 28)) hb3; replace zx := (hb3.block b (blk_lt (blk_alloc zx (.cells #[.string nm, .int .i64 dl, .slice A0 l0.length c0] 28)))).trans (blk_alloc zx (.cells #[.string nm, .int .i64 dl, .slice A0 l0.length c0] 28)); clear y0 y1 y2 hsz a0 a1 a2; have hsz := blk_lt zx; have a0 : (w3.alloc (.cells #[.string nm, .int .i64 dl, .slice A0 l0.length c0] 28)).cell? ⟨b, 0, none⟩ = some (Value.string nm) := (blk_cell (blk_alloc zx (.cells #[.string nm, .int .i64 dl, .slice A0 l0.length c0] 28)) 0).trans rfl; have a1 : (w3.alloc (.cells #[.string nm, .int .i64 dl, .slice A0 l0.length c0] 28)).cell? ⟨b, 1, none⟩ = some (Value.int .i64 dl) := (blk_cell (blk_alloc zx (.cells #[.string nm, .int .i64 dl, .slice A0 l0.length c0] 28)) 1).trans rfl; have a2 : (w3.alloc (.cells #[.string nm, .int .i64 dl, .slice A0 l0.length c0] 28)).cell? ⟨b, 2, none⟩ = some (Value.slice A0 l0.length c0) := (blk_cell (blk_alloc zx (.cells #[.string nm, .int .i64 dl, .slice A0 l0.length c0] 28)) 2).trans rfl; have y0 := (blk_cell zx 0).trans (show _ = some (Value.string nm : Value) from rfl); have y1 := (blk_cell zx 1).trans (show _ = some (Value.int .i64 dl : Value) from rfl); have y2 := (blk_cell zx 2).trans (show _ = some (Value.slice A0 l0.length c0 : Value) from rfl); clear hb3))
      | (gi_at_call 31; go_loud (refine (callsIn_wide.2 (bound_all.calls _ _ _ r _ HA.out)).mono ?_; rintro e w5 ⟨rfl, hb5⟩; replace hbc := below_step hbc hb5; clear hb5 zx y0 y1 y2 hsz a0 a1 a2)))
    all_goals gi_wp2
    all_goals go_ret
    all_goals exact ⟨rfl, hbc⟩
  · rw [if_neg hl] at h
    cases h
end Go.Proofs.Ytookpfpmobbhiaa.Q
