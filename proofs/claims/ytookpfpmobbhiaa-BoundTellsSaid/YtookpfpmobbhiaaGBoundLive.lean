/- bound.live's iterator: the sagas that are live; bound.Live: how many. -/
import Derived.Test.YtookpfpmobbhiaaGBoundGre
import Derived.Sort.CutIn
namespace Go.Proofs.Ytookpfpmobbhiaa.Q
open Go.RowKit Go.Shelf Go.Proofs.YtookpfpmobbhiaaW.PrintWords Go.Proofs.YtookpfpmobbhiaaW.PrintLast Go.Proofs.YtookpfpmobbhiaaW.PrintMore
set_option linter.unusedVariables false
set_option linter.unusedSimpArgs false
attribute [local go_sem] Oper.semAt_some

def isLive (s : S44) : Bool := s.f3 == 0 || s.f3 == 1
def liveL (l : List S44) : List S44 := l.filter isLive
def encG (x : S44) : Array Value := #[.agg #[.int .i64 x.f0, .string x.f1, .int .i64 x.f2, .int .i64 x.f3, .int .i64 x.f4, .int .i64 x.f5, .bool x.f6, .int .i64 x.f7, .int .i64 x.f8]]
theorem rd_SG (l : List S44) (j : Nat) (h : j < l.length) : rd_T44 l (j : Int) = l[j] := by
  unfold rd_T44
  rw [Int.toNat_natCast, List.getD_eq_getElem?_getD, List.getElem?_eq_getElem h]
  rfl
theorem liveL_succ (l : List S44) (j : Nat) (h : j < l.length) : liveL (l.take (j + 1)) = liveL (l.take j) ++ (if isLive (rd_T44 l (j : Int)) = true then [rd_T44 l (j : Int)] else []) := by
  rw [rd_SG l j h]
  unfold liveL
  rw [List.take_succ_eq_append_getElem h, List.filter_append]
  congr 1
  simp only [List.filter]
  split <;> simp_all
theorem liveL_prefix (l : List S44) (j : Nat) : liveL (l.take j) <+: liveL l := by
  refine ⟨liveL (l.drop j), ?_⟩
  conv => rhs; rw [← List.take_append_drop j l]
  unfold liveL
  rw [List.filter_append]

set_option maxRecDepth 100000 in
set_option maxHeartbeats 4000000 in
theorem live_stops (b : Nat) (sd : Value) (A : Option Addr) (c : Nat) (nx : Int) (l0 : List S44) (w0 w : World) (hw : Below w0.heap.size w0 w) (hb : w.heap[b]? = some (.cells #[sd, .slice A l0.length c, .int .i64 nx] 25 (0, 0))) (hr : Kd.C k44 w0 A l0.length l0) (hl : l0.length < 1000000) :
    SeqStopsK Fence.wide 7 Try.prog 38 #[.pointer (some ⟨b, 0, none⟩)] encG (Below w0.heap.size) (fun ys => ys = liveL l0) (fun pre => pre <+: liveL l0) (liveL l0).length w := fun l J Jx W hW hJ hJx hY h0 => by
  have z1 : W.cell? ⟨b, 1, none⟩ = some (.slice A l0.length c) := (hW.cell (p := ⟨b, 1, none⟩) (blk_lt hb)).trans ((blk_cell hb 1).trans rfl)
  refine callsIn_of_wp Try.func38 rfl trivial ?_ rfl
  simp only [Try.ntmps38, List.size_toArray, List.length_cons, List.length_nil, Nat.reduceAdd, Nat.reduceSub, Array.replicate_succ, Array.replicate_zero, List.push_toArray, List.append_toArray, List.nil_append, List.cons_append]
  gi_wp2
  gi_loopw [8] (fun i wr => ∃ k : Nat, k ≤ l0.length ∧ i = .int .i64 k ∧ J (liveL (l0.take k)) wr ∧ Aside0 (Below w0.heap.size w0 wr)) (fun i _ => l0.length - (intOf i).toNat)
  case atStart => exact ⟨0, Nat.zero_le _, rfl, h0, ⟨hw.trans (hW.mono hw.size)⟩⟩
  case round =>
    obtain ⟨k, hk, rfl, hJs, HW⟩ := hrel
    by_cases hlt : k < l0.length
    · have HX := Aside0.mk (liveL_succ l0 k hlt)
      have HPX := Aside0.mk (liveL_prefix l0 (k + 1))
      obtain ⟨ad, e, x0, x1, x2, x3, x4, x5, x6, x7, x8⟩ := at_T44 hr (k : Int) (by omega) (by omega)
      cases e
      replace x0 := (HW.out.cell (World.block_lt_of_cell? w0 _ x0)).trans x0
      replace x1 := (HW.out.cell (World.block_lt_of_cell? w0 _ x1)).trans x1
      replace x2 := (HW.out.cell (World.block_lt_of_cell? w0 _ x2)).trans x2
      replace x3 := (HW.out.cell (World.block_lt_of_cell? w0 _ x3)).trans x3
      replace x4 := (HW.out.cell (World.block_lt_of_cell? w0 _ x4)).trans x4
      replace x5 := (HW.out.cell (World.block_lt_of_cell? w0 _ x5)).trans x5
      replace x6 := (HW.out.cell (World.block_lt_of_cell? w0 _ x6)).trans x6
      replace x7 := (HW.out.cell (World.block_lt_of_cell? w0 _ x7)).trans x7
      replace x8 := (HW.out.cell (World.block_lt_of_cell? w0 _ x8)).trans x8
      generalize rd_T44 l0 (k : Int) = x at *
      obtain ⟨i, hi⟩ : ∃ i : Int, (k : Int) = i := ⟨_, rfl⟩
      have HI := Aside0.mk hi
      have hp : (0 ≤ i) = True := eq_true (by omega)
      have hq : (i < (l0.length : Int)) = True := eq_true (by omega)
      have hqd : decide (i < (l0.length : Int)) = true := decide_eq_true (by omega)
      have HK := Aside0.mk (show wrap64 (i + 1) = ((k + 1 : Nat) : Int) by unfold wrap64; omega)
      rw [hi] at x0 x1 x2 x3 x4 x5 x6 x7 x8 ⊢
      clear hi
      gi_upto_region 3 with (fail)
      have b3 := blk_new wr (.cells #[.int .i64 x.f0, .string x.f1, .int .i64 x.f2, .int .i64 x.f3, .int .i64 x.f4, .int .i64 x.f5, .bool x.f6, .int .i64 x.f7, .int .i64 x.f8] 44)
      have hb3 : Below wr.heap.size wr (wr.alloc (.cells #[.int .i64 x.f0, .string x.f1, .int .i64 x.f2, .int .i64 x.f3, .int .i64 x.f4, .int .i64 x.f5, .bool x.f6, .int .i64 x.f7, .int .i64 x.f8] 44)) := (Below.refl _ wr).alloc (Nat.le_refl _) _
      have J3 := hJ _ wr _ none hJs (grown_of_below hb3 none) (fun r h => by cases h)
      have HW3 := Aside0.mk (HW.out.trans (hb3.mono HW.out.size))
      clear hb3 hJs x0 x1 x2 x3 x4 x5 x6 x7 x8 z1 HW
      generalize wr.alloc (.cells #[.int .i64 x.f0, .string x.f1, .int .i64 x.f2, .int .i64 x.f3, .int .i64 x.f4, .int .i64 x.f5, .bool x.f6, .int .i64 x.f7, .int .i64 x.f8] 44) = W3 at *
      generalize wr.heap.size = q at *
      have y0 : W3.cell? ⟨q, 0, none⟩ = some (.int .i64 x.f0) := (blk_cell b3 0).trans rfl
      have y1 : W3.cell? ⟨q, 1, none⟩ = some (.string x.f1) := (blk_cell b3 1).trans rfl
      have y2 : W3.cell? ⟨q, 2, none⟩ = some (.int .i64 x.f2) := (blk_cell b3 2).trans rfl
      have y3 : W3.cell? ⟨q, 3, none⟩ = some (.int .i64 x.f3) := (blk_cell b3 3).trans rfl
      have y4 : W3.cell? ⟨q, 4, none⟩ = some (.int .i64 x.f4) := (blk_cell b3 4).trans rfl
      have y5 : W3.cell? ⟨q, 5, none⟩ = some (.int .i64 x.f5) := (blk_cell b3 5).trans rfl
      have y6 : W3.cell? ⟨q, 6, none⟩ = some (.bool x.f6) := (blk_cell b3 6).trans rfl
      have y7 : W3.cell? ⟨q, 7, none⟩ = some (.int .i64 x.f7) := (blk_cell b3 7).trans rfl
      have y8 : W3.cell? ⟨q, 8, none⟩ = some (.int .i64 x.f8) := (blk_cell b3 8).trans rfl
      obtain ⟨M, hM⟩ : ∃ M, liveL (l0.take k) = M := ⟨_, rfl⟩
      rw [hM] at J3 HX
      clear hM
      by_cases hv : isLive x = true
      · have HZ := Aside0.mk (show liveL (l0.take (k + 1)) = M ++ [x] by rw [HX.out, if_pos hv])
        obtain ⟨fn, tmps, assign, body, hy, hR⟩ := hY M x W3 J3 (by have := HPX.out.length_le; rw [HZ.out] at this; simp at this; omega)
        dsimp only [encG] at hy
        by_cases c0 : x.f3 = 0
        · have c0a : (x.f3 == 0) = true := beq_iff_eq.mpr c0
          clear c0 hv
          gi_wp2
          refine hR.mono ?_
          rintro e w7 (⟨rfl, J7, hk7⟩ | ⟨rfl, Jx7⟩)
          · gi_wp2
            go_roundw
            case rel => exact ⟨k + 1, by omega, by rw [HK.out], by rw [HZ.out]; exact J7, ⟨HW3.out.trans hk7⟩⟩
            case measure => have := HI.out; simp [intOf, HK.out]; omega
          · gi_wp2
            refine bodyPost_ret (results_none rfl _ _ _) rfl ?_
            exact ⟨⟨_, rfl⟩, .inr ⟨_, by rw [← HZ.out]; exact HPX.out, Jx7⟩⟩
        have c0a : (x.f3 == 0) = false := beq_eq_false_iff_ne.mpr c0
        have c1a : (x.f3 == 1) = true := by
          unfold isLive at hv
          rw [c0a, Bool.false_or] at hv
          exact hv
        clear c0 hv
        gi_wp2
        refine hR.mono ?_
        rintro e w7 (⟨rfl, J7, hk7⟩ | ⟨rfl, Jx7⟩)
        · gi_wp2
          go_roundw
          case rel => exact ⟨k + 1, by omega, by rw [HK.out], by rw [HZ.out]; exact J7, ⟨HW3.out.trans hk7⟩⟩
          case measure => have := HI.out; simp [intOf, HK.out]; omega
        · gi_wp2
          refine bodyPost_ret (results_none rfl _ _ _) rfl ?_
          exact ⟨⟨_, rfl⟩, .inr ⟨_, by rw [← HZ.out]; exact HPX.out, Jx7⟩⟩
      · have HZ := Aside0.mk (show liveL (l0.take (k + 1)) = M by rw [HX.out, if_neg hv, List.append_nil])
        have hv' : isLive x = false := Bool.eq_false_iff.mpr hv
        have c0a : (x.f3 == 0) = false := by
          unfold isLive at hv'
          exact (Bool.or_eq_false_iff.1 hv').1
        have c1a : (x.f3 == 1) = false := by
          unfold isLive at hv'
          exact (Bool.or_eq_false_iff.1 hv').2
        clear hv hv'
        gi_wp2
        refine ⟨fun _ h => (by cases h), ?_⟩
        gi_wp2
        go_roundw
        case rel => exact ⟨k + 1, by omega, by rw [HK.out], by rw [HZ.out]; exact J3, HW3⟩
        case measure => have := HI.out; simp [intOf, HK.out]; omega
    · obtain rfl : k = l0.length := by omega
      have hd : decide ((l0.length : Int) < (l0.length : Int)) = false := decide_eq_false (by omega)
      gi_wp2
      go_end0
      exact ⟨⟨_, rfl⟩, .inl ⟨_, rfl, by rw [List.take_length] at hJs; exact hJs⟩⟩
theorem bound_live.calls (A0_0 : Option Addr) (c0_0 : Nat) (l0_0 : List S28) (A0_1 : Option Addr) (c0_1 : Nat) (l0_1 : List S44) (a0_2 : Int) (w : World) :
    Calls Try.prog 28 #[.agg #[.slice A0_0 l0_0.length c0_0, .slice A0_1 l0_1.length c0_1, .int .i64 a0_2]] w fun e w' => ∃ b : Nat, e = .returned (.func (.func 38) #[] #[.pointer (some ⟨b, 0, none⟩)]) ∧ w'.heap[b]? = some (.cells #[.slice A0_0 l0_0.length c0_0, .slice A0_1 l0_1.length c0_1, .int .i64 a0_2] 25 (0, 0)) ∧ Below w.heap.size w w' := by
  have HB := Aside0.mk (Below.refl w.heap.size w)
  go_enter Try.func28, Try.ntmps28
  go_wp2_with (first | ((with_reducible refine gate_dst (N := 1) rfl ?_); refine box_event ?hg (N := 1) ?hd (cs := #[.slice A0_0 l0_0.length c0_0, .slice A0_1 l0_1.length c0_1, .int .i64 a0_2]) (t := 25) ?hr ?_; (case hd => rfl); (case hg => rfl); (case hr => first | (go_simp; done) | (go_simp; rfl)); intro b1 hg w1 hbox hb; have HB1 := Aside0.mk hb; have BX := Aside0.mk hbox; clear hb hbox hg))
  go_ret
  exact ⟨b1, rfl, BX.out, HB1.out⟩
def bound_Live.f (l0_0 : List S28) (l0_1 : List S44) (a0_2 : Int) : Option Int := if l0_1.length < 1000000 then some ((liveL l0_1).length : Int) else none
set_option maxRecDepth 100000 in
set_option maxHeartbeats 2000000 in
theorem bound_Live.calls (A0_0 : Option Addr) (c0_0 : Nat) (l0_0 : List S28) (A0_1 : Option Addr) (c0_1 : Nat) (l0_1 : List S44) (a0_2 : Int) (r : Int) (w : World) (hr0_0 : Kd.C k28 w A0_0 l0_0.length l0_0) (hc0_0 : l0_0.length ≤ c0_0) (hr0_1 : Kd.C k44 w A0_1 l0_1.length l0_1) (hc0_1 : l0_1.length ≤ c0_1) (h : bound_Live.f l0_0 l0_1 a0_2 = some r) :
    Calls Try.prog 15 #[.agg #[.slice A0_0 l0_0.length c0_0, .slice A0_1 l0_1.length c0_1, .int .i64 a0_2]] w fun e w' => e = .returned (.int .i64 r) ∧ Below w.heap.size w w' := by
  unfold bound_Live.f at h
  by_cases hl : l0_1.length < 1000000
  · rw [if_pos hl] at h
    obtain rfl := Option.some.inj h
    clear h
    have hln : (liveL l0_1).length ≤ 1000000 := by unfold liveL; have := List.length_filter_le isLive l0_1; omega
    refine (callsIn_wide (n := 8)).1 ?_
    refine callsIn_of_wp_marks Try.func15 rfl trivial ?_ rfl
    simp only [Try.ntmps15, List.size_toArray, List.length_cons, List.length_nil, Nat.reduceAdd, Nat.reduceSub, Array.replicate_succ, Array.replicate_zero, List.push_toArray, List.append_toArray, List.nil_append, List.cons_append]
    have hfn : Fence.wide.fn 28 := trivial
    gi_wp2_with (gi_at_call 28; refine (callsIn_wide.2 (bound_live.calls A0_0 c0_0 l0_0 A0_1 c0_1 l0_1 a0_2 _)).mono ?_; rintro e w1 ⟨b, rfl, hbx, hb⟩)
    have hz : w1.heap[w.heap.size + 1]? = some (.cells #[.int .i64 0] 3 (0, 0)) := (hb.block _ (by simp)).trans (by have := blk_new (w.alloc (.cells #[.slice A0_0 l0_0.length c0_0, .slice A0_1 l0_1.length c0_1, .int .i64 a0_2] 25)) (.cells #[.int .i64 0] 3); rwa [World.size_alloc] at this)
    have hB1 : Below w.heap.size w w1 := (((Below.refl _ w).alloc (Nat.le_refl _) _).alloc (by simp) _).trans (hb.mono (by simp; omega))
    have hsz : w.heap.size + 2 ≤ w1.heap.size := by have := hb.size; simp at this; omega
    refine wpIn_rangeFunc_ownF rfl (by omega) (gf := 38) (lb := #[.pointer (some ⟨b, 0, none⟩)]) rfl trivial (enters_of Try.func38 (by kernel_rfl) rfl)
      (live_stops b (.slice A0_0 l0_0.length c0_0) A0_1 c0_1 a0_2 l0_1 w w1 hB1 hbx hr0_1 hl) belowK_t (belowK_b (by omega)) (Below.refl _ _) (fun _ => rfl)
      (fun pre W => (W.cell? ⟨w.heap.size + 1, 0, none⟩ = some (.int .i64 (pre.length : Int)) ∧ W.frozen? ⟨w.heap.size + 1, 0, none⟩ = false) ∧ Below w.heap.size w W)
      (fun _ _ _ => False)
      (OwnFrom.and (Own.from (fun s A B row hs hg hr => ⟨cell_kept hs.1 hg hr, (frozen_kept hs.1 hg hr).trans hs.2⟩) _) (ownFrom_below (Nat.le_refl _) (by omega)))
      (fun _ _ _ _ _ hs _ _ => hs)
      ⟨⟨(blk_cell hz 0).trans rfl, blk_frozen hz 0⟩, hB1⟩
      (fun x => { tmps := #[.agg #[.slice A0_0 l0_0.length c0_0, .slice A0_1 l0_1.length c0_1, .int .i64 a0_2], .pointer (some ⟨w.heap.size, 0, none⟩), .int .i64 0, .pointer (some ⟨w.heap.size + 1, 0, none⟩), .agg #[.slice A0_0 l0_0.length c0_0, .slice A0_1 l0_1.length c0_1, .int .i64 a0_2], .func (.func 38) #[] #[.pointer (some ⟨b, 0, none⟩)], .agg #[.int .i64 x.f0, .string x.f1, .int .i64 x.f2, .int .i64 x.f3, .int .i64 x.f4, .int .i64 x.f5, .bool x.f6, .int .i64 x.f7, .int .i64 x.f8], undef, undef, undef], defers := [] }) ?assign ?body ?done ?stop
    case assign =>
      intro l x W K hK
      gi_wp2
      simpa [encG] using hK
    case body =>
      rintro l pre x W ⟨⟨hc, hf⟩, hB⟩ hlen
      have hw : wrap64 ((pre.length : Int) + 1) = ((pre ++ [x]).length : Int) := by rw [List.length_append]; unfold wrap64; simp; omega
      gi_wp2
      exact ⟨KeepsOthers.setCell _ _ _, (Below.refl w.heap.size W).setCell (p := ⟨w.heap.size + 1, 0, none⟩) (Nat.le_succ _) _, ⟨by rw [show ((pre ++ [x]).length : Int) = (pre.length : Int) + 1 by simp]; exact World.cell?_setCell_same' _ _ _ (by rw [hc]; rfl), by rw [World.frozen?_setCell]; exact hf⟩, hB.setCell (p := ⟨w.heap.size + 1, 0, none⟩) (Nat.le_succ _) _⟩
    case done =>
      rintro D ys W hD rfl ⟨⟨hc, _⟩, hB⟩ hK
      gi_wp2
      refine ⟨by simp, .inl ⟨_, _, rfl, run_takeDeferred hK, ?_⟩⟩
      exact ⟨_, results_tmp rfl _ _ _, rfl, hB.trans (belowK_b (w := w) (Nat.le_refl _) W D _ _ (by omega) hK rfl rfl)⟩
    case stop =>
      rintro D c pre W _ _ h _
      exact h.elim
  · rw [if_neg hl] at h
    cases h
end Go.Proofs.Ytookpfpmobbhiaa.Q
