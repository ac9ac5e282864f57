/- bound.Ticks: a sum over an iterator that ranges over the live sagas. -/
import Derived.Test.YtookpfpmobbhiaaGStateDef
import Derived.Test.YtookpfpmobbhiaaGBoundEmis
import Derived.Test.YtookpfpmobbhiaaGBoundLive
import Derived.Test.YtookpfpmobbhiaaGRounds
import Derived.Test.YtookpfpmobbhiaaQx2
namespace Go.Proofs.Ytookpfpmobbhiaa.Q
open Go.RowKit Go.Shelf Go.Proofs.YtookpfpmobbhiaaW.PrintWords Go.Proofs.YtookpfpmobbhiaaW.PrintLast Go.Proofs.YtookpfpmobbhiaaW.PrintMore
set_option linter.unusedVariables false
set_option linter.unusedSimpArgs false
attribute [local go_sem] Oper.semAt_some

theorem yieldAt_wide {m m' : Nat} {P : Program} {l : Nat} {args : Array Value} {W : World} {R : Ending → World → Prop} (h : YieldAt Fence.wide m P l args W R) : YieldAt Fence.wide m' P l args W R := by
  obtain ⟨fn, tmps, assign, body, h1, h2, h3⟩ := h
  exact ⟨fn, tmps, assign, body, h1, h2, fun c cs _ => h3 c cs (room_wide _)⟩
theorem seqStopsK_wide {α : Type} {n m : Nat} {P : Program} {g : Nat} {lb : Array Value} {encs : α → Array Value} {Kp : World → World → Prop} {S Sp : List α → Prop} {N : Nat} {w : World} (h : SeqStopsK Fence.wide n P g lb encs Kp S Sp N w) : SeqStopsK Fence.wide m P g lb encs Kp S Sp N w :=
  fun l J Jx W hW hJ hJx hY h0 => callsIn_wide.2 (callsIn_wide.1 (h l J Jx W hW hJ hJx (fun pre x W1 hj hl => yieldAt_wide (hY pre x W1 hj hl)) h0))
theorem ownFrom_up {β : Type} {B B' : Nat} {I : β → World → Prop} (h : OwnFrom B I) (hB : B ≤ B') : OwnFrom B' I := fun s A C row hs hg hr => h s A C row hs hg (fun r e => ⟨Nat.le_trans hB (hr r e).1, (hr r e).2⟩)
theorem block_own {β : Type} (b : Nat) (cs : Array Value) (t : TypeId) (o : Nat × Nat) : Own (fun (_ : β) W => W.heap[b]? = some (.cells cs t o)) := fun _ X Y row hs hg hrow =>
  (hg.block b (Array.getElem?_eq_some_iff.1 hs).1 (fun e => by obtain ⟨q, hq, hc⟩ := hrow b e.symm; rw [hs] at hq; cases hq; cases hc)).trans hs

def tickOf (defs : List S28) (s : S44) : Int := sumT (emL (defOf defs s.f1).f2)
def ticksL (defs : List S28) (l : List S44) : List Int := (liveL l).map (tickOf defs)

set_option maxRecDepth 100000 in
set_option maxHeartbeats 4000000 in
theorem ticks_rounds (b : Nat) (A0 : Option Addr) (c0 : Nat) (l0 : List S28) (A1 : Option Addr) (c1 : Nat) (l1 : List S44) (nx : Int) (n₀ : Nat) (w0 w : World) (hn : n₀ < w.heap.size) (hbn : b < n₀) (hwn : w0.heap.size ≤ n₀) (hw : Below w0.heap.size w0 w) (hb : w.heap[b]? = some (.cells #[.slice A0 l0.length c0, .slice A1 l1.length c1, .int .i64 nx] 25 (0, 0)))
    (hr0 : Kd.C k28 w0 A0 l0.length l0) (hr1 : Kd.C k44 w0 A1 l1.length l1) (hl0 : l0.length < 1000000) (hl1 : l1.length < 1000000) (hst : ∀ d ∈ l0, d.f2.length < 1000000) :
    Rounds Fence.wide 7 Try.prog 29 #[.pointer (some ⟨b, 0, none⟩)] (fun x : Int => #[.int .i64 x]) (KpC n₀) (fun _ _ _ => True) (ticksL l0 l1) w := fun l J W hW hJ hY h0 => by
  have z : W.heap[b]? = some (.cells #[.slice A0 l0.length c0, .slice A1 l1.length c1, .int .i64 nx] 25 (0, 0)) := (hW.block b (blk_lt hb)).trans hb
  have HB := Aside0.mk hb
  refine callsIn_of_wp_marks Try.func29 rfl trivial ?_ rfl
  simp only [Try.ntmps29, List.size_toArray, List.length_cons, List.length_nil, Nat.reduceAdd, Nat.reduceSub, Array.replicate_succ, Array.replicate_zero, List.push_toArray, List.append_toArray, List.nil_append, List.cons_append]
  have hfn : Fence.wide.fn 28 := trivial
  gi_upto_region 1 with (fail)
  have bx := blk_new W (.cells #[.func (.yield l) #[] #[]] 53)
  have hb1 : Below W.heap.size W (W.alloc (.cells #[.func (.yield l) #[] #[]] 53)) := (Below.refl _ W).alloc (Nat.le_refl _) _
  have J1 := hJ.alloc (.cells #[.func (.yield l) #[] #[]] 53) h0
  generalize W.alloc (.cells #[.func (.yield l) #[] #[]] 53) = W1 at *
  obtain ⟨B0, hB0⟩ : ∃ q, W.heap.size = q := ⟨_, rfl⟩
  rw [hB0] at bx
  rw [hB0]
  have zb := (hb1.block b (blk_lt z)).trans z
  have hW1 : Below w.heap.size w W1 := hW.trans (hb1.mono hW.size)
  clear z h0
  have z0 : W1.cell? ⟨b, 0, none⟩ = some (.slice A0 l0.length c0) := (blk_cell zb 0).trans rfl
  have z1 : W1.cell? ⟨b, 1, none⟩ = some (.slice A1 l1.length c1) := (blk_cell zb 1).trans rfl
  have z2 : W1.cell? ⟨b, 2, none⟩ = some (.int .i64 nx) := (blk_cell zb 2).trans rfl
  gi_wp2_with (gi_at_call 28; refine (callsIn_wide.2 (bound_live.calls A0 c0 l0 A1 c1 l1 nx _)).mono ?_; rintro e w1 ⟨b', rfl, hbx, hb2⟩; have J2 := hJ _ W1 w1 none J1 (grown_of_below hb2 none) (fun r h => by cases h); have zt := (hb2.block B0 (blk_lt bx)).trans bx; clear J1 bx zb z0 z1 z2)
  have hB : Below w.heap.size w w1 := hW1.trans (hb2.mono hW1.size)
  have hB00 : Below w0.heap.size w0 w1 := hw.trans (hB.mono hw.size)
  have hs1 : W.heap.size ≤ w1.heap.size := Nat.le_trans hb1.size hb2.size
  refine wpIn_rangeFunc_ownH rfl (by omega) (gf := 38) (lb := #[.pointer (some ⟨b', 0, none⟩)]) rfl trivial (enters_of Try.func38 (by kernel_rfl) rfl)
    (seqStopsK_wide (live_stops b' (.slice A0 l0.length c0) A1 c1 nx l1 w0 w1 hB00 hbx hr1 hl1)) belowK_t (belowK_b (by have := hB00.size; omega)) (Below.refl _ _) (fun _ => rfl)
    (fun pre V => J (pre.map (tickOf l0)) V ∧ V.heap[B0]? = some (.cells #[.func (.yield l) #[] #[]] 53 (0, 0)) ∧ Below n₀ w V)
    (fun _ _ _ => False)
    (OwnFrom.and (fun s A C row hs hg hr => ownFrom_up hJ hs1 _ A C row hs hg hr) (OwnFrom.and (Own.from (block_own B0 _ 53 (0, 0)) _) (ownFrom_below (Nat.le_of_lt hn) (Nat.le_trans (Nat.le_of_lt hn) hB.size))))
    (fun _ _ _ _ _ hs _ _ => hs) ⟨J2, zt, hB.mono (Nat.le_of_lt hn)⟩
    (fun x a' V => ∃ q, V.heap[q]? = some (.cells #[.int .i64 x.f0, .string x.f1, .int .i64 x.f2, .int .i64 x.f3, .int .i64 x.f4, .int .i64 x.f5, .bool x.f6, .int .i64 x.f7, .int .i64 x.f8] 44 (0, 0)) ∧ a' = { tmps := #[.func (.yield l) #[] #[], .pointer (some ⟨b, 0, none⟩), .pointer (some ⟨B0, 0, none⟩), .pointer (some ⟨q, 0, none⟩), undef, undef, .agg #[.slice A0 l0.length c0, .slice A1 l1.length c1, .int .i64 nx], .func (.func 38) #[] #[.pointer (some ⟨b', 0, none⟩)], .agg #[.int .i64 x.f0, .string x.f1, .int .i64 x.f2, .int .i64 x.f3, .int .i64 x.f4, .int .i64 x.f5, .bool x.f6, .int .i64 x.f7, .int .i64 x.f8], undef, undef, undef, undef, undef, undef, undef, undef, undef, undef, undef, undef], defers := [] })
    ?ax ?assign ?body ?done ?stop
  case ax =>
    rintro x a' _ A C row ⟨q, hq, ha⟩ hg hr
    exact ⟨q, block_own q _ 44 (0, 0) () A C row hq hg (fun r e => (hr r e).2), ha⟩
  case assign =>
    rintro l' pre x V K ⟨hj, ht, hv⟩ hK
    rw [show (#[8] : Array Tmp).zip (encG x) = #[(8, Value.agg #[.int .i64 x.f0, .string x.f1, .int .i64 x.f2, .int .i64 x.f3, .int .i64 x.f4, .int .i64 x.f5, .bool x.f6, .int .i64 x.f7, .int .i64 x.f8])] from by simp [encG]]
    change Code.wpIn (Fence.wide.inRound l') (7 - 1 - 1) Try.prog _ _ { tmps := #[.func (.yield l) #[] #[], .pointer (some ⟨b, 0, none⟩), .pointer (some ⟨B0, 0, none⟩), undef, undef, undef, .agg #[.slice A0 l0.length c0, .slice A1 l1.length c1, .int .i64 nx], .func (.func 38) #[] #[.pointer (some ⟨b', 0, none⟩)], .agg #[.int .i64 x.f0, .string x.f1, .int .i64 x.f2, .int .i64 x.f3, .int .i64 x.f4, .int .i64 x.f5, .bool x.f6, .int .i64 x.f7, .int .i64 x.f8], undef, undef, undef, undef, undef, undef, undef, undef, undef, undef, undef, undef], defers := [] } V
    gi_wp2
    have hb3 : Below V.heap.size V (V.alloc (.cells #[.int .i64 x.f0, .string x.f1, .int .i64 x.f2, .int .i64 x.f3, .int .i64 x.f4, .int .i64 x.f5, .bool x.f6, .int .i64 x.f7, .int .i64 x.f8] 44)) := (Below.refl _ V).alloc (Nat.le_refl _) _
    refine hK _ _ ((keepsO_below hb3).from _) (hb3.mono (Nat.le_trans (hw.trans (hv.mono hwn)).size (Nat.le_refl _))) ⟨hJ.alloc _ hj, (hb3.block _ (blk_lt ht)).trans ht, hv.trans (hb3.mono (Nat.le_trans (Nat.le_of_lt hn) hv.size))⟩ ⟨V.heap.size, blk_new V _, rfl⟩
  case body =>
    rintro l' pre x a' V hl' hr' ⟨hj, ht, hv⟩ ⟨q, hq, rfl⟩ _
    have hb0 := (hv.block b hbn).trans HB.out
    have y0 : V.cell? ⟨b, 0, none⟩ = some (.slice A0 l0.length c0) := (blk_cell hb0 0).trans rfl
    have y1 : V.cell? ⟨b, 1, none⟩ = some (.slice A1 l1.length c1) := (blk_cell hb0 1).trans rfl
    have y2 : V.cell? ⟨b, 2, none⟩ = some (.int .i64 nx) := (blk_cell hb0 2).trans rfl
    have ys : V.cell? ⟨q, 1, none⟩ = some (.string x.f1) := (blk_cell hq 1).trans rfl
    have hvv : Below w0.heap.size w0 V := hw.trans (hv.mono hwn)
    gi_upto_region 4 with (refine ⟨trivial, ?_⟩; gi_at_call 30; refine (CallsIn.inRound l' (callsIn_wide.2 (state_Def.calls A0 c0 l0 A1 c1 l1.length nx x.f1 _ (Kd.C_below hr0 hvv) hl0 hst))).mono ?_; rintro e w2 ⟨A, c, bb, rfl, hrd, hcd, hbd⟩)
    have dx : (defOf l0 x.f1).f2.length < 1000000 := by
      unfold defOf
      cases hf : l0.find? (isNamed x.f1) with
      | none => simp
      | some d => exact hst d (List.mem_of_find?_eq_some hf)
    have hE : tickOf l0 x = sumT (emL (defOf l0 x.f1).f2) := rfl
    generalize defOf l0 x.f1 = d at *
    have bd := blk_new w2 (.cells #[.string d.f0, .int .i64 d.f1, .slice A d.f2.length c] 28)
    have hb3 : Below w2.heap.size w2 (w2.alloc (.cells #[.string d.f0, .int .i64 d.f1, .slice A d.f2.length c] 28)) := (Below.refl _ w2).alloc (Nat.le_refl _) _
    have hb23 : Below V.heap.size V (w2.alloc (.cells #[.string d.f0, .int .i64 d.f1, .slice A d.f2.length c] 28)) := hbd.trans (hb3.mono hbd.size)
    have hrd3 := Kd.C_below hrd hb3
    clear hb3 hbd hrd
    generalize w2.alloc (.cells #[.string d.f0, .int .i64 d.f1, .slice A d.f2.length c] 28) = W3 at *
    generalize w2.heap.size = q3 at *
    have c0' : W3.cell? ⟨q3, 0, none⟩ = some (.string d.f0) := (blk_cell bd 0).trans rfl
    have c1' : W3.cell? ⟨q3, 1, none⟩ = some (.int .i64 d.f1) := (blk_cell bd 1).trans rfl
    have c2' : W3.cell? ⟨q3, 2, none⟩ = some (.slice A d.f2.length c) := (blk_cell bd 2).trans rfl
    have zt3 := (hb23.block B0 (blk_lt ht)).trans ht
    have ct : W3.cell? ⟨B0, 0, none⟩ = some (.func (.yield l) #[] #[]) := (blk_cell zt3 0).trans rfl
    have J3 := hJ _ V W3 none hj (grown_of_below hb23 none) (fun r h => by cases h)
    clear y0 y1 y2 ys bd
    have hem : bound_Emissions.f d.f0 d.f1 d.f2 = some (tickOf l0 x) := by unfold bound_Emissions.f; rw [if_pos dx, hE]
    have hmx : Try.prog.follows .mixedOrders = true := by kernel_rfl
    clear hE dx
    obtain ⟨u, hu⟩ : ∃ u, tickOf l0 x = u := ⟨_, rfl⟩
    rw [hu] at hem
    gi_wp2
    gi_region_with_o (first | (refine ⟨trivial, ?_⟩; gi_at_call 13; refine (CallsIn.inRound l' (callsIn_wide.2 (bound_Emissions.calls d.f0 d.f1 A c d.f2 u _ (Kd.C_below hrd3 (below_drew1 (Below.refl _ W3))) hcd hem))).mono ?_; rintro e w4 ⟨rfl, hb4⟩; have hb34 := below_step (below_drew1 (Below.refl _ W3)) hb4; have ct4 := (hb34.cell (World.block_lt_of_cell? _ _ ct)).trans ct; have zt4 := (hb34.block B0 (blk_lt zt3)).trans zt3; have J4 := hJ _ W3 w4 none J3 (grown_of_below hb34 none) (fun r h => by cases h); obtain ⟨fn, tmps, assign, body, hy, hR⟩ := yieldAt_wide (m' := 7 - 1 - 1 - 1) (hY _ u w4 J4 trivial)) | (refine hR.mono ?_; rintro e w5 ⟨rfl, J5, hk5, hf5⟩))
    all_goals gi_wp2
    all_goals
      have hVw : w.heap.size ≤ V.heap.size := hv.size
      have hb5 : Below n₀ V w5 := (hb23.mono (by omega)).trans ((hb34.mono (by have := hb23.size; omega)).trans hk5.1)
      exact ⟨(((keepsO_below hb23).from _).trans ((keepsO_below hb34).from _)).trans (keepsFrom_up hf5 hs1), hb5.mono hwn, by rw [List.map_append, List.map_singleton, hu]; exact J5, hk5.2 _ _ zt4 rfl (by have := hW.size; omega), hv.trans hb5⟩
  case done =>
    rintro D ys V hD rfl ⟨hj, ht, hv⟩ hK
    gi_wp2
    refine ⟨by simp, .inl ⟨_, _, rfl, run_takeDeferred hK, ?_⟩⟩
    exact ⟨_, results_none rfl _ _ _, ⟨_, rfl⟩, hJ.putObj _ hj (by omega) hK rfl⟩
  case stop =>
    rintro D c pre V _ _ h _
    exact h.elim

set_option maxRecDepth 100000 in
set_option maxHeartbeats 2000000 in
theorem bound_sumR.calls (gf : Nat) (lb : Array Value) (eg : ∀ args w, (callFunc gf args).run Try.prog w = .ok (.enter gf args) w) (xs : List Int) (w : World)
    (hseq : Rounds Fence.wide 7 Try.prog gf lb (fun x : Int => #[Value.int .i64 x]) (KpC w.heap.size) (fun _ _ _ => True) xs (w.alloc (.cells #[.int .i64 0] 3))) :
    Calls Try.prog 23 #[.func (.func gf) #[] lb] w fun e w' => e = .returned (.int .i64 (sumT xs)) ∧ Below w.heap.size w w' := by
  refine (callsIn_wide (n := 8)).1 ?_
  refine callsIn_of_wp_marks Try.func23 rfl trivial ?_ rfl
  simp only [Try.ntmps23, List.size_toArray, List.length_cons, List.length_nil, Nat.reduceAdd, Nat.reduceSub, Array.replicate_succ, Array.replicate_zero, List.push_toArray, List.append_toArray, List.nil_append, List.cons_append]
  gi_wp2
  have hs : (w.alloc (.cells #[.int .i64 0] 3)).cell? ⟨w.heap.size, 0, none⟩ = some (.int .i64 (sumT [])) ∧ (w.alloc (.cells #[.int .i64 0] 3)).frozen? ⟨w.heap.size, 0, none⟩ = false := ⟨(blk_cell (blk_new w (.cells #[.int .i64 0] 3)) 0).trans rfl, blk_frozen (blk_new w (.cells #[.int .i64 0] 3)) 0⟩
  have hB0 : Below w.heap.size w (w.alloc (.cells #[.int .i64 0] 3)) := (Below.refl _ w).alloc (Nat.le_refl _) _
  refine range_rounds rfl (by omega) (gf := gf) (lb := lb) rfl trivial eg hseq (Below.refl _ _) KpC_t (KpC_b (by simp)) (fun _ => rfl)
    (fun pre W => (W.cell? ⟨w.heap.size, 0, none⟩ = some (.int .i64 (sumT pre)) ∧ W.frozen? ⟨w.heap.size, 0, none⟩ = false) ∧ Below w.heap.size w W)
    (OwnFrom.and (Own.from (fun s A B row hs hg hr => ⟨cell_kept hs.1 hg hr, (frozen_kept hs.1 hg hr).trans hs.2⟩) _) (ownFrom_below (Nat.le_refl _) (by simp)))
    ⟨hs, hB0⟩
    (fun _ x a' _ => a' = { tmps := #[.func (.func gf) #[] lb, undef, .int .i64 0, .pointer (some ⟨w.heap.size, 0, none⟩), .int .i64 x, .func (.func gf) #[] lb, .int .i64 x, undef, undef, undef, undef], defers := [] })
    (fun _ _ _ _ _ _ _ hs _ _ => hs) ?assign ?body ?done
  case assign =>
    intro l pre x W K hI _ hK
    gi_wp2
    exact hK _ _ (KeepsFrom.refl _ _) ⟨Below.refl _ _, fun _ _ h _ _ => h⟩ hI rfl
  case body =>
    rintro l pre x a' W hl hr ⟨⟨hc, hf⟩, hB⟩ rfl
    gi_wp2_with (refine ⟨trivial, ?_⟩; gi_at_call 25; refine (CallsIn.inRound l (callsIn_wide.2 (tick_Add.calls _ _ _ _ (addT_f _ _)))).mono ?_; rintro e w' ⟨rfl, hb⟩; have hc' := (hb.cell (World.block_lt_of_cell? W _ hc)).trans hc; have hf' : w'.frozen? ⟨w.heap.size, 0, none⟩ = false := (frozen_below hb (World.block_lt_of_cell? W _ hc)).trans hf)
    exact ⟨((keepsO_below hb).trans (KeepsOthers.setCell _ _ _)).from _, KpC_t (KpC_below hb hB.size) (KpC_set _ _ _ _), ⟨by rw [sumT_snoc]; exact World.cell?_setCell_same' _ _ _ (by rw [hc']; rfl), by rw [World.frozen?_setCell]; exact hf'⟩, (hB.trans (hb.mono hB.size)).setCell (p := ⟨w.heap.size, 0, none⟩) (Nat.le_refl _) _⟩
  case done =>
    rintro D W hD ⟨⟨hc, _⟩, hB⟩ hK
    gi_wp2
    refine ⟨by simp, .inl ⟨_, _, rfl, run_takeDeferred hK, ?_⟩⟩
    exact ⟨_, results_tmp rfl _ _ _, rfl, hB.trans (belowK_b (w := w) (Nat.le_refl _) W D _ _ (by simp at hD; omega) hK rfl rfl)⟩
end Go.Proofs.Ytookpfpmobbhiaa.Q
