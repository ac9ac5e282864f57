/- bound.waits and bound.Longest: the greatest of what an iterator over definitions and parties tells. -/
import Derived.Test.YtookpfpmobbhiaaGBoundGre
import Derived.Sort.CutIn
namespace Go.Proofs.Ytookpfpmobbhiaa.Q
open Go.RowKit Go.Shelf Go.Proofs.YtookpfpmobbhiaaW.PrintWords Go.Proofs.YtookpfpmobbhiaaW.PrintLast Go.Proofs.YtookpfpmobbhiaaW.PrintMore
set_option linter.unusedVariables false
set_option linter.unusedSimpArgs false
attribute [local go_sem] Oper.semAt_some

theorem flat_succ {α : Type} (f : α → List Int) (l : List α) (j : Nat) (h : j < l.length) : (l.take (j + 1)).flatMap f = (l.take j).flatMap f ++ f l[j] := by
  rw [List.take_succ_eq_append_getElem h, List.flatMap_append]
  simp
theorem flat_prefix {α : Type} (f : α → List Int) (l : List α) (j : Nat) : (l.take j).flatMap f <+: l.flatMap f := by
  refine ⟨(l.drop j).flatMap f, ?_⟩
  conv => rhs; rw [← List.take_append_drop j l]
  rw [List.flatMap_append]
def stW (s : S49) : List Int := [s.f2, s.f3.f3, s.f4.f3]
def dfW (d : S28) : List Int := d.f2.flatMap stW
def paW (p : S51) : List Int := [p.f3]
def waitL (l0 : List S28) (l1 : List S51) : List Int := l0.flatMap dfW ++ l1.flatMap paW
theorem rd_ST (l : List S49) (j : Nat) (h : j < l.length) : rd_T49 l (j : Int) = l[j] := by
  unfold rd_T49
  rw [Int.toNat_natCast, List.getD_eq_getElem?_getD, List.getElem?_eq_getElem h]
  rfl
theorem rd_DF (l : List S28) (j : Nat) (h : j < l.length) : rd_T28 l (j : Int) = l[j] := by
  unfold rd_T28
  rw [Int.toNat_natCast, List.getD_eq_getElem?_getD, List.getElem?_eq_getElem h]
  rfl
theorem rd_PA (l : List S51) (j : Nat) (h : j < l.length) : rd_T51 l (j : Int) = l[j] := by
  unfold rd_T51
  rw [Int.toNat_natCast, List.getD_eq_getElem?_getD, List.getElem?_eq_getElem h]
  rfl
theorem pre_lt {p q L : List Int} (x : Int) (h : p ++ x :: q <+: L) : p.length < L.length := by
  have := h.length_le
  simp at this
  omega

set_option maxRecDepth 100000 in
set_option maxHeartbeats 8000000 in
theorem waits_stops (b1 b2 : Nat) (A0 : Option Addr) (c0 : Nat) (l0 : List S28) (A1 : Option Addr) (c1 : Nat) (l1 : List S51) (w : World) (hb1 : w.heap[b1]? = some (.cells #[.slice A0 l0.length c0] 22 (0, 0))) (hb2 : w.heap[b2]? = some (.cells #[.slice A1 l1.length c1] 29 (0, 0)))
    (hr0 : Kd.C k28 w A0 l0.length l0) (hr1 : Kd.C k51 w A1 l1.length l1) (hl0 : l0.length < 1000000) (hl1 : l1.length < 1000000) (hls : ∀ d ∈ l0, d.f2.length < 1000000) :
    SeqStopsK Fence.wide 7 Try.prog 37 #[.pointer (some ⟨b1, 0, none⟩), .pointer (some ⟨b2, 0, none⟩)] (fun x : Int => #[Value.int .i64 x]) (KpC w.heap.size) (fun ys => ys = waitL l0 l1) (fun pre => pre <+: waitL l0 l1) (waitL l0 l1).length (w.alloc (.cells #[.int .i64 0] 3)) := fun l J Jx W hW0 hJ hJx hY h0 => by
  have hn0 : w.heap.size < W.heap.size := by have := hW0.size; simp at this; omega
  have hW : Below w.heap.size w W := ((Below.refl _ w).alloc (Nat.le_refl _) _).trans (hW0.mono (by simp))
  have z1 : W.cell? ⟨b1, 0, none⟩ = some (.slice A0 l0.length c0) := (hW.cell (p := ⟨b1, 0, none⟩) (blk_lt hb1)).trans ((blk_cell hb1 0).trans rfl)
  have hP1 : l0.flatMap dfW <+: waitL l0 l1 := List.prefix_append _ _
  clear hW0
  refine callsIn_of_wp Try.func37 rfl trivial ?_ rfl
  simp only [Try.ntmps37, List.size_toArray, List.length_cons, List.length_nil, Nat.reduceAdd, Nat.reduceSub, Array.replicate_succ, Array.replicate_zero, List.push_toArray, List.append_toArray, List.nil_append, List.cons_append]
  gi_wp2
  gi_loopw [12] (fun i wr => ∃ k : Nat, k ≤ l0.length ∧ i = .int .i64 k ∧ J ((l0.take k).flatMap dfW) wr ∧ Aside0 (Below w.heap.size w wr) ∧ Aside0 (w.heap.size < wr.heap.size)) (fun i _ => l0.length - (intOf i).toNat)
  case atStart => exact ⟨0, Nat.zero_le _, rfl, h0, ⟨hW⟩, ⟨hn0⟩⟩
  case round =>
    obtain ⟨k, hk, rfl, hJs, HW, HNwr⟩ := hrel
    by_cases hlt : k < l0.length
    · have HX := Aside0.mk ((flat_succ dfW l0 k hlt).trans (by rw [← rd_DF l0 k hlt]))
      have HLS := Aside0.mk (show (rd_T28 l0 (k : Int)).f2.length < 1000000 by rw [rd_DF l0 k hlt]; exact hls _ (List.getElem_mem hlt))
      have HPX := Aside0.mk ((flat_prefix dfW l0 (k + 1)).trans hP1)
      obtain ⟨ad, A2, c2, e, x0, x1, x2, hc2, hr2⟩ := at_T28 hr0 (k : Int) (by omega) (by omega)
      cases e
      replace x0 := (HW.out.cell (World.block_lt_of_cell? w _ x0)).trans x0
      replace x1 := (HW.out.cell (World.block_lt_of_cell? w _ x1)).trans x1
      replace x2 := (HW.out.cell (World.block_lt_of_cell? w _ x2)).trans x2
      generalize rd_T28 l0 (k : Int) = d at *
      obtain ⟨i, hi⟩ : ∃ i : Int, (k : Int) = i := ⟨_, rfl⟩
      have HI1 := Aside0.mk hi
      have hp1 : (0 ≤ i) = True := eq_true (by omega)
      have hq1 : (i < (l0.length : Int)) = True := eq_true (by omega)
      have hd1 : decide (i < (l0.length : Int)) = true := decide_eq_true (by omega)
      have HK1 := Aside0.mk (show wrap64 (i + 1) = ((k + 1 : Nat) : Int) by unfold wrap64; omega)
      rw [hi] at x0 x1 x2 ⊢
      clear hi
      gi_upto_region 3 with (fail)
      have b3 := blk_new wr (.cells #[.string d.f0, .int .i64 d.f1, .slice A2 d.f2.length c2] 28)
      have hb3 : Below wr.heap.size wr (wr.alloc (.cells #[.string d.f0, .int .i64 d.f1, .slice A2 d.f2.length c2] 28)) := (Below.refl _ wr).alloc (Nat.le_refl _) _
      have J3 := hJ _ wr _ none hJs (grown_of_below hb3 none) (fun r h => by cases h)
      have HW3 := Aside0.mk (HW.out.trans (hb3.mono HW.out.size))
      have Q3 := Aside0.mk (show wr.heap.size ≠ w.heap.size from fun h => by have := HNwr.out; omega)
      have HNW3 := Aside0.mk (show w.heap.size < (wr.alloc (.cells #[.string d.f0, .int .i64 d.f1, .slice A2 d.f2.length c2] 28)).heap.size by have := HNwr.out; have := hb3.size; omega)
      clear hb3
      generalize wr.alloc (.cells #[.string d.f0, .int .i64 d.f1, .slice A2 d.f2.length c2] 28) = W3 at *
      generalize wr.heap.size = q3 at *
      clear x0 x1 x2 z1
      have y2 : W3.cell? ⟨q3, 2, none⟩ = some (.slice A2 d.f2.length c2) := (blk_cell b3 2).trans rfl
      gi_wp2
      obtain ⟨P, hP⟩ : ∃ P, (l0.take k).flatMap dfW = P := ⟨_, rfl⟩
      rw [hP] at J3 HX
      clear hP hJs
      gi_loopw [19] (fun i wr => ∃ m : Nat, m ≤ d.f2.length ∧ i = .int .i64 m ∧ J (P ++ (d.f2.take m).flatMap stW) wr ∧ Aside0 (Below w.heap.size w wr) ∧ Aside0 (w.heap.size < wr.heap.size)) (fun i _ => d.f2.length - (intOf i).toNat)
      case atStart => exact ⟨0, Nat.zero_le _, rfl, by simpa using J3, HW3, HNW3⟩
      case round =>
        clear J3 y2 b3 HW HW3
        obtain ⟨m, hm, rfl, hJs2, HW2, HNwr⟩ := hrel
        by_cases hlt2 : m < d.f2.length
        · have HY := Aside0.mk ((flat_succ stW d.f2 m hlt2).trans (by rw [← rd_ST d.f2 m hlt2]))
          have HPY := Aside0.mk (show P ++ (d.f2.take (m + 1)).flatMap stW <+: waitL l0 l1 from ((List.prefix_append_right_inj P).2 (flat_prefix stW d.f2 (m + 1))).trans (by have := HPX.out; rw [HX.out] at this; exact this))
          obtain ⟨ad2, e, x0, x1, x2, x3, x4, x5, x6, x7, x8, x9, x10, x11⟩ := at_T49 hr2 (m : Int) (by omega) (by omega)
          cases e
          replace x0 := (HW2.out.cell (World.block_lt_of_cell? w _ x0)).trans x0
          replace x1 := (HW2.out.cell (World.block_lt_of_cell? w _ x1)).trans x1
          replace x2 := (HW2.out.cell (World.block_lt_of_cell? w _ x2)).trans x2
          replace x3 := (HW2.out.cell (World.block_lt_of_cell? w _ x3)).trans x3
          replace x4 := (HW2.out.cell (World.block_lt_of_cell? w _ x4)).trans x4
          replace x5 := (HW2.out.cell (World.block_lt_of_cell? w _ x5)).trans x5
          replace x6 := (HW2.out.cell (World.block_lt_of_cell? w _ x6)).trans x6
          replace x7 := (HW2.out.cell (World.block_lt_of_cell? w _ x7)).trans x7
          replace x8 := (HW2.out.cell (World.block_lt_of_cell? w _ x8)).trans x8
          replace x9 := (HW2.out.cell (World.block_lt_of_cell? w _ x9)).trans x9
          replace x10 := (HW2.out.cell (World.block_lt_of_cell? w _ x10)).trans x10
          replace x11 := (HW2.out.cell (World.block_lt_of_cell? w _ x11)).trans x11
          generalize rd_T49 d.f2 (m : Int) = x at *
          obtain ⟨j, hi⟩ : ∃ i : Int, (m : Int) = i := ⟨_, rfl⟩
          have HI2 := Aside0.mk hi
          have hp2 : (0 ≤ j) = True := eq_true (by omega)
          have hq2 : (j < (d.f2.length : Int)) = True := eq_true (by omega)
          have hd2 : decide (j < (d.f2.length : Int)) = true := decide_eq_true (by omega)
          have HK2 := Aside0.mk (show wrap64 (j + 1) = ((m + 1 : Nat) : Int) by have := HLS.out; unfold wrap64; omega)
          rw [hi] at x0 x1 x2 x3 x4 x5 x6 x7 x8 x9 x10 x11 ⊢
          clear hi
          gi_upto_region 6 with (fail)
          have b6 := blk_new wr (.cells #[.string x.f0, .string x.f1, .int .i64 x.f2, .int .i64 x.f3.f0, .int .i64 x.f3.f1, .int .i64 x.f3.f2, .int .i64 x.f3.f3, .int .i64 x.f4.f0, .int .i64 x.f4.f1, .int .i64 x.f4.f2, .int .i64 x.f4.f3, .int .i64 x.f5] 49)
          have hb6 : Below wr.heap.size wr (wr.alloc (.cells #[.string x.f0, .string x.f1, .int .i64 x.f2, .int .i64 x.f3.f0, .int .i64 x.f3.f1, .int .i64 x.f3.f2, .int .i64 x.f3.f3, .int .i64 x.f4.f0, .int .i64 x.f4.f1, .int .i64 x.f4.f2, .int .i64 x.f4.f3, .int .i64 x.f5] 49)) := (Below.refl _ wr).alloc (Nat.le_refl _) _
          have J6 := hJ _ wr _ none hJs2 (grown_of_below hb6 none) (fun r h => by cases h)
          have HW6 := Aside0.mk (HW2.out.trans (hb6.mono HW2.out.size))
          have Q6 := Aside0.mk (show wr.heap.size ≠ w.heap.size from fun h => by have := HNwr.out; omega)
          have HNW6 := Aside0.mk (show w.heap.size < (wr.alloc (.cells #[.string x.f0, .string x.f1, .int .i64 x.f2, .int .i64 x.f3.f0, .int .i64 x.f3.f1, .int .i64 x.f3.f2, .int .i64 x.f3.f3, .int .i64 x.f4.f0, .int .i64 x.f4.f1, .int .i64 x.f4.f2, .int .i64 x.f4.f3, .int .i64 x.f5] 49)).heap.size by have := HNwr.out; have := hb6.size; omega)
          clear hb6
          generalize wr.alloc (.cells #[.string x.f0, .string x.f1, .int .i64 x.f2, .int .i64 x.f3.f0, .int .i64 x.f3.f1, .int .i64 x.f3.f2, .int .i64 x.f3.f3, .int .i64 x.f4.f0, .int .i64 x.f4.f1, .int .i64 x.f4.f2, .int .i64 x.f4.f3, .int .i64 x.f5] 49) = W6 at *
          generalize wr.heap.size = q6 at *
          clear x0 x1 x2 x3 x4 x5 x6 x7 x8 x9 x10 x11
          obtain ⟨M, hM⟩ : ∃ M, P ++ (d.f2.take m).flatMap stW = M := ⟨_, rfl⟩
          have HZ := Aside0.mk (show P ++ (d.f2.take (m + 1)).flatMap stW = M ++ [x.f2, x.f3.f3, x.f4.f3] by rw [HY.out, ← List.append_assoc, hM]; rfl)
          have HPZ := Aside0.mk (show M ++ [x.f2, x.f3.f3, x.f4.f3] <+: waitL l0 l1 by rw [← HZ.out]; exact HPY.out)
          rw [hM] at J6
          clear hM hJs2
          have y2 : W6.cell? ⟨q6, 2, none⟩ = some (.int .i64 x.f2) := (blk_cell b6 2).trans rfl
          obtain ⟨fn, tmps, assign, body, hy, hR⟩ := hY M x.f2 W6 J6 (pre_lt _ HPZ.out)
          try dsimp only at hy
          gi_wp2
          refine hR.mono ?_
          rintro e w7 (⟨rfl, J7, hk7⟩ | ⟨rfl, Jx7⟩)
          · have b7 := hk7.2 q6 _ b6 rfl Q6.out
            have HW7 := Aside0.mk (HW6.out.trans hk7.1)
            have HN7 := Aside0.mk (show w.heap.size < w7.heap.size by have := HNW6.out; have := hk7.1.size; omega)
            have y6 : w7.cell? ⟨q6, 6, none⟩ = some (.int .i64 x.f3.f3) := (blk_cell b7 6).trans rfl
            obtain ⟨fn2, tmps2, assign2, body2, hy2, hR2⟩ := hY (M ++ [x.f2]) x.f3.f3 w7 J7 (pre_lt (q := [x.f4.f3]) _ (by have := HPZ.out; simpa using this))
            try dsimp only at hy2
            gi_wp2
            refine hR2.mono ?_
            rintro e w8 (⟨rfl, J8, hk8⟩ | ⟨rfl, Jx8⟩)
            · have b8 := hk8.2 q6 _ b7 rfl Q6.out
              have HW8 := Aside0.mk (HW7.out.trans hk8.1)
              have HN8 := Aside0.mk (show w.heap.size < w8.heap.size by have := HN7.out; have := hk8.1.size; omega)
              have y10 : w8.cell? ⟨q6, 10, none⟩ = some (.int .i64 x.f4.f3) := (blk_cell b8 10).trans rfl
              obtain ⟨fn3, tmps3, assign3, body3, hy3, hR3⟩ := hY (M ++ [x.f2] ++ [x.f3.f3]) x.f4.f3 w8 J8 (pre_lt (q := []) _ (by have := HPZ.out; simpa using this))
              try dsimp only at hy3
              gi_wp2
              refine hR3.mono ?_
              rintro e w9 (⟨rfl, J9, hk9⟩ | ⟨rfl, Jx9⟩)
              · gi_wp2
                go_roundw
                case rel => exact ⟨m + 1, by omega, by rw [HK2.out], by rw [HZ.out]; simpa using J9, ⟨HW8.out.trans hk9.1⟩, ⟨by have := HN8.out; have := hk9.1.size; omega⟩⟩
                case measure => have := HI2.out; simp [intOf, HK2.out]; omega
              · gi_wp2
                refine bodyPost_ret (results_none rfl _ _ _) rfl ?_
                exact ⟨⟨_, rfl⟩, .inr ⟨_, by have := HPZ.out; simpa using this, Jx9⟩⟩
            · gi_wp2
              refine ⟨fun _ h => (by cases h), ?_⟩
              gi_wp2
              refine bodyPost_ret (results_none rfl _ _ _) rfl ?_
              exact ⟨⟨_, rfl⟩, .inr ⟨_, List.IsPrefix.trans ⟨[x.f4.f3], by simp⟩ HPZ.out, Jx8⟩⟩
          · gi_wp2
            refine ⟨fun _ h => (by cases h), ?_⟩
            gi_wp2
            refine bodyPost_ret (results_none rfl _ _ _) rfl ?_
            exact ⟨⟨_, rfl⟩, .inr ⟨_, List.IsPrefix.trans ⟨[x.f3.f3, x.f4.f3], by simp⟩ HPZ.out, Jx7⟩⟩
        · obtain rfl : m = d.f2.length := by omega
          have hd9 : decide ((d.f2.length : Int) < (d.f2.length : Int)) = false := decide_eq_false (by omega)
          have JE : J ((l0.take (k + 1)).flatMap dfW) wr := by rw [HX.out]; rw [List.take_length] at hJs2; exact hJs2
          gi_wp2
          go_roundw
          case rel => exact ⟨k + 1, by omega, by rw [HK1.out], JE, HW2, HNwr⟩
          case measure => have := HI1.out; simp [intOf, HK1.out]; omega
    · obtain rfl : k = l0.length := by omega
      have hd8 : decide ((l0.length : Int) < (l0.length : Int)) = false := decide_eq_false (by omega)
      have z2 : wr.cell? ⟨b2, 0, none⟩ = some (.slice A1 l1.length c1) := (HW.out.cell (p := ⟨b2, 0, none⟩) (blk_lt hb2)).trans ((blk_cell hb2 0).trans rfl)
      rw [List.take_length] at hJs
      gi_wp2
      gi_loopw [48] (fun i wr => ∃ p : Nat, p ≤ l1.length ∧ i = .int .i64 p ∧ J (l0.flatMap dfW ++ (l1.take p).flatMap paW) wr ∧ Aside0 (Below w.heap.size w wr) ∧ Aside0 (w.heap.size < wr.heap.size)) (fun i _ => l1.length - (intOf i).toNat)
      case atStart => exact ⟨0, Nat.zero_le _, rfl, by simpa using hJs, HW, HNwr⟩
      case round =>
        clear hJs z2 HW z1
        obtain ⟨p, hp, rfl, hJs3, HW3, HNwr⟩ := hrel
        by_cases hlt3 : p < l1.length
        · have HY := Aside0.mk ((flat_succ paW l1 p hlt3).trans (by rw [← rd_PA l1 p hlt3]))
          have HPY := Aside0.mk (show l0.flatMap dfW ++ (l1.take (p + 1)).flatMap paW <+: waitL l0 l1 from (List.prefix_append_right_inj _).2 (flat_prefix paW l1 (p + 1)))
          obtain ⟨ad3, e, x0, x1, x2, x3, x4⟩ := at_T51 hr1 (p : Int) (by omega) (by omega)
          cases e
          replace x0 := (HW3.out.cell (World.block_lt_of_cell? w _ x0)).trans x0
          replace x1 := (HW3.out.cell (World.block_lt_of_cell? w _ x1)).trans x1
          replace x2 := (HW3.out.cell (World.block_lt_of_cell? w _ x2)).trans x2
          replace x3 := (HW3.out.cell (World.block_lt_of_cell? w _ x3)).trans x3
          replace x4 := (HW3.out.cell (World.block_lt_of_cell? w _ x4)).trans x4
          generalize rd_T51 l1 (p : Int) = y at *
          obtain ⟨j, hi⟩ : ∃ i : Int, (p : Int) = i := ⟨_, rfl⟩
          have HI3 := Aside0.mk hi
          have hp3 : (0 ≤ j) = True := eq_true (by omega)
          have hq3 : (j < (l1.length : Int)) = True := eq_true (by omega)
          have hd3 : decide (j < (l1.length : Int)) = true := decide_eq_true (by omega)
          have HK3 := Aside0.mk (show wrap64 (j + 1) = ((p + 1 : Nat) : Int) by unfold wrap64; omega)
          rw [hi] at x0 x1 x2 x3 x4 ⊢
          clear hi
          gi_upto_region 12 with (fail)
          have b5 := blk_new wr (.cells #[.string y.f0, .int .i64 y.f1, .int .i64 y.f2, .int .i64 y.f3, .int .i64 y.f4] 51)
          have hb5 : Below wr.heap.size wr (wr.alloc (.cells #[.string y.f0, .int .i64 y.f1, .int .i64 y.f2, .int .i64 y.f3, .int .i64 y.f4] 51)) := (Below.refl _ wr).alloc (Nat.le_refl _) _
          have J5 := hJ _ wr _ none hJs3 (grown_of_below hb5 none) (fun r h => by cases h)
          have HW5 := Aside0.mk (HW3.out.trans (hb5.mono HW3.out.size))
          have Q5 := Aside0.mk (show wr.heap.size ≠ w.heap.size from fun h => by have := HNwr.out; omega)
          have HNW5 := Aside0.mk (show w.heap.size < (wr.alloc (.cells #[.string y.f0, .int .i64 y.f1, .int .i64 y.f2, .int .i64 y.f3, .int .i64 y.f4] 51)).heap.size by have := HNwr.out; have := hb5.size; omega)
          clear hb5
          generalize wr.alloc (.cells #[.string y.f0, .int .i64 y.f1, .int .i64 y.f2, .int .i64 y.f3, .int .i64 y.f4] 51) = W5 at *
          generalize wr.heap.size = q5 at *
          clear x0 x1 x2 x3 x4
          obtain ⟨M, hM⟩ : ∃ M, l0.flatMap dfW ++ (l1.take p).flatMap paW = M := ⟨_, rfl⟩
          have HZ := Aside0.mk (show l0.flatMap dfW ++ (l1.take (p + 1)).flatMap paW = M ++ [y.f3] by rw [HY.out, ← List.append_assoc, hM]; rfl)
          rw [hM] at J5
          clear hM hJs3
          have y3 : W5.cell? ⟨q5, 3, none⟩ = some (.int .i64 y.f3) := (blk_cell b5 3).trans rfl
          obtain ⟨fn, tmps, assign, body, hy, hR⟩ := hY M y.f3 W5 J5 (pre_lt (q := []) _ (by rw [← HZ.out]; exact HPY.out))
          try dsimp only at hy
          gi_wp2
          refine hR.mono ?_
          rintro e w7 (⟨rfl, J7, hk7⟩ | ⟨rfl, Jx7⟩)
          · gi_wp2
            go_roundw
            case rel => exact ⟨p + 1, by omega, by rw [HK3.out], by rw [HZ.out]; exact J7, ⟨HW5.out.trans hk7.1⟩, ⟨by have := HNW5.out; have := hk7.1.size; omega⟩⟩
            case measure => have := HI3.out; simp [intOf, HK3.out]; omega
          · gi_wp2
            refine bodyPost_ret (results_none rfl _ _ _) rfl ?_
            exact ⟨⟨_, rfl⟩, .inr ⟨_, by rw [← HZ.out]; exact HPY.out, Jx7⟩⟩
        · obtain rfl : p = l1.length := by omega
          have hd7 : decide ((l1.length : Int) < (l1.length : Int)) = false := decide_eq_false (by omega)
          gi_wp2
          go_end0
          exact ⟨⟨_, rfl⟩, .inl ⟨_, rfl, by rw [List.take_length] at hJs3; exact hJs3⟩⟩
instance (d : List S28) : Decidable (∀ x ∈ d, x.f2.length < 1000000) := inferInstance
def bound_Longest.f (l0 : List S28) (l1 : List S51) : Option Int := if (l0.length < 1000000 ∧ l1.length < 1000000) ∧ ∀ d ∈ l0, d.f2.length < 1000000 then some (greT (waitL l0 l1)) else none
set_option maxRecDepth 100000 in
set_option maxHeartbeats 2000000 in
theorem bound_waits.calls (A0 : Option Addr) (c0 : Nat) (l0 : List S28) (A1 : Option Addr) (c1 : Nat) (l1 : List S51) (w : World) :
    Calls Try.prog 27 #[.slice A0 l0.length c0, .slice A1 l1.length c1] w fun e w' => ∃ b1 b2 : Nat, e = .returned (.func (.func 37) #[] #[.pointer (some ⟨b1, 0, none⟩), .pointer (some ⟨b2, 0, none⟩)]) ∧ w'.heap[b1]? = some (.cells #[.slice A0 l0.length c0] 22 (0, 0)) ∧ w'.heap[b2]? = some (.cells #[.slice A1 l1.length c1] 29 (0, 0)) ∧ Below w.heap.size w w' := by
  have HB := Aside0.mk (Below.refl w.heap.size w)
  go_enter Try.func27, Try.ntmps27
  go_wp2_with (first | ((with_reducible refine gate_dst (N := 2) rfl ?_); refine box_event ?hg (N := 2) ?hd (cs := #[.slice A0 l0.length c0]) (t := 22) ?hr ?_; (case hd => rfl); (case hg => rfl); (case hr => first | (go_simp; done) | (go_simp; rfl)); intro b1 hg w1 hbox hb; have HB1 := Aside0.mk hb; have BX := Aside0.mk hbox; clear hb hbox hg) | ((with_reducible refine gate_dst (N := 3) rfl ?_); refine box_event ?hg (N := 3) ?hd (cs := #[.slice A1 l1.length c1]) (t := 29) ?hr ?_; (case hd => rfl); (case hg => rfl); (case hr => first | (go_simp; done) | (go_simp; rfl)); intro b2 hg w2 hbox hb; have HB2 := Aside0.mk (below_step HB1.out hb); have BX1 := Aside0.mk (blk_below BX.out hb); have BX2 := Aside0.mk hbox; clear hb hbox hg))
  go_ret
  exact ⟨b1, b2, rfl, BX1.out, BX2.out, HB2.out⟩
set_option maxRecDepth 100000 in
set_option maxHeartbeats 2000000 in
theorem bound_Longest.calls (A0 : Option Addr) (c0 : Nat) (l0 : List S28) (A1 : Option Addr) (c1 : Nat) (l1 : List S51) (r : Int) (w : World) (hr0 : Kd.C k28 w A0 l0.length l0) (hc0 : l0.length ≤ c0) (hr1 : Kd.C k51 w A1 l1.length l1) (hc1 : l1.length ≤ c1) (h : bound_Longest.f l0 l1 = some r) :
    Calls Try.prog 14 #[.slice A0 l0.length c0, .slice A1 l1.length c1] w fun e w' => e = .returned (.int .i64 r) ∧ Below w.heap.size w w' := by
  unfold bound_Longest.f at h
  by_cases hl : (l0.length < 1000000 ∧ l1.length < 1000000) ∧ ∀ d ∈ l0, d.f2.length < 1000000
  · rw [if_pos hl] at h
    obtain rfl := Option.some.inj h
    have HL := Aside0.mk hl
    have HR0 := Aside0.mk hr0
    have HR1 := Aside0.mk hr1
    clear hl hr0 hr1 h
    go_enter Try.func14, Try.ntmps14
    go_wp2_with (first | (go_at_call 27; refine (bound_waits.calls A0 c0 l0 A1 c1 l1 _).mono ?_; rintro e w1 ⟨b1, b2, rfl, h1, h2, hb⟩; have HB1 := Aside0.mk hb; have X1 := Aside0.mk h1; have X2 := Aside0.mk h2; clear hb h1 h2) | (go_at_call 26; refine (bound_greatest.calls 37 #[.pointer (some ⟨b1, 0, none⟩), .pointer (some ⟨b2, 0, none⟩)] (enters_of Try.func37 (by kernel_rfl) rfl) (waitL l0 l1) (waitL l0 l1).length _ (waits_stops b1 b2 A0 c0 l0 A1 c1 l1 _ X1.out X2.out (Kd.C_below HR0.out HB1.out) (Kd.C_below HR1.out HB1.out) HL.out.1.1 HL.out.1.2 HL.out.2)).mono ?_; rintro e w2 ⟨rfl, hb⟩; have HB2 := Aside0.mk hb; clear hb))
    go_ret
    exact ⟨rfl, below_step HB1.out HB2.out⟩
  · rw [if_neg hl] at h
    cases h
end Go.Proofs.Ytookpfpmobbhiaa.Q
