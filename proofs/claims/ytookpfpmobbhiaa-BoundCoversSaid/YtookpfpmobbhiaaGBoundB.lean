/- usufructlaw25.awake: what the document tells, is true. -/
import Derived.Test.YtookpfpmobbhiaaGStateDef
import Derived.Test.YtookpfpmobbhiaaGBoundA
import Derived.Test.YtookpfpmobbhiaaGRounds
import Derived.Test.YtookpfpmobbhiaaQx2
section
namespace Go.Proofs.Ytookpfpmobbhiaa.Q
open Go.RowKit Go.Shelf Go.Proofs.YtookpfpmobbhiaaW.PrintWords Go.Proofs.YtookpfpmobbhiaaW.PrintLast Go.Proofs.YtookpfpmobbhiaaW.PrintMore
set_option linter.unusedVariables false
set_option linter.unusedSimpArgs false
attribute [local go_sem] Oper.semAt_some

theorem yieldAt_wide {m m' : Nat} {P : Program} {l : Nat} {args : Array Value} {W : World} {R : Ending → World → Prop} (h : YieldAt Fence.wide m P l args W R) : YieldAt Fence.wide m' P l args W R := by
  obtain ⟨fn, tmps, assign, body, h1, h2, h3⟩ := h
  exact ⟨fn, tmps, assign, body, h1, h2, fun c cs _ => h3 c cs (room_wide _)⟩
theorem seqStopsK_wide {α : Type} {n m : Nat} {P : Program} {g : Nat} {lb : Array Value} {encs : α → Array Value} {Kp : World → World → Prop} {S Sp : List α → Prop} {N : Nat} {w : World} (h : SeqStopsK Fence.wide n P g lb encs Kp S Sp N w) : SeqStopsK Fence.wide m P g lb encs Kp S Sp N w :=
  fun l J Jx W hW hJ hJx hY h0 => callsIn_wide.2 (callsIn_wide.1 (h l J Jx W hW hJ hJx (fun pre x W1 hj hl => yieldAt_wide (hY pre x W1 hj hl)) h0))
theorem ownFrom_up {β : Type} {B B' : Nat} {I : β → World → Prop} (h : OwnFrom B I) (hB : B ≤ B') : OwnFrom B' I := fun s A C row hs hg hr => h s A C row hs hg (fun r e => ⟨Nat.le_trans hB (hr r e).1, (hr r e).2⟩)
theorem block_own {β : Type} (b : Nat) (cs : Array Value) (t : TypeId) (o : Nat × Nat) : Own (fun (_ : β) W => W.heap[b]? = some (.cells cs t o)) := fun _ X Y row hs hg hrow =>
  (hg.block b (Array.getElem?_eq_some_iff.1 hs).1 (fun e => by obtain ⟨q, hq, hc⟩ := hrow b e.symm; rw [hs] at hq; cases hq; cases hc)).trans hs

def tickOf (defs : List S28) (s : S44) : Int := sumT (emL (defOf defs s.f1).f2)
def ticksL (defs : List S28) (l : List S44) : List Int := (liveL l).map (tickOf defs)

set_option maxRecDepth 100000 in
set_option maxHeartbeats 4000000 in
theorem ticks_rounds (b : Nat) (A0 : Option Addr) (c0 : Nat) (l0 : List S28) (A1 : Option Addr) (c1 : Nat) (l1 : List S44) (nx : Int) (n₀ : Nat) (w0 w : World) (hn : n₀ < w.heap.size) (hbn : b < n₀) (hwn : w0.heap.size ≤ n₀) (hw : Below w0.heap.size w0 w) (hb : w.heap[b]? = some (.cells #[.slice A0 l0.length c0, .slice A1 l1.length c1, .int .i64 nx] 25 (0, 0)))
    (hr0 : Kd.C k28 w0 A0 l0.length l0) (hr1 : Kd.C k44 w0 A1 l1.length l1) (hl0 : l0.length < 1000000) (hl1 : l1.length < 1000000) (hst : ∀ d ∈ l0, d.f2.length < 1000000) :
    Rounds Fence.wide 7 Try.prog 29 #[.pointer (some ⟨b, 0, none⟩)] (fun x : Int => #[.int .i64 x]) (KpC n₀) (fun _ _ _ => True) (ticksL l0 l1) w := fun l J W hW hJ hY h0 => by
  have z : W.heap[b]? = some (.cells #[.slice A0 l0.length c0, .slice A1 l1.length c1, .int .i64 nx] 25 (0, 0)) := (hW.block b (blk_lt hb)).trans hb
  have HB := Aside0.mk hb
  refine callsIn_of_wp_marks Try.func29 rfl trivial ?_ rfl
  simp only [Try.ntmps29, List.size_toArray, List.length_cons, List.length_nil, Nat.reduceAdd, Nat.reduceSub, Array.replicate_succ, Array.replicate_zero, List.push_toArray, List.append_toArray, List.nil_append, List.cons_append]
  have hfn : Fence.wide.fn 28 := trivial
  gi_upto_region 1 with (fail)
  have bx := blk_new W (.cells #[.func (.yield l) #[] #[]] 53)
  have hb1 : Below W.heap.size W (W.alloc (.cells #[.func (.yield l) #[] #[]] 53)) := (Below.refl _ W).alloc (Nat.le_refl _) _
  have J1 := hJ.alloc (.cells #[.func (.yield l) #[] #[]] 53) h0
  generalize W.alloc (.cells #[.func (.yield l) #[] #[]] 53) = W1 at *
  obtain ⟨B0, hB0⟩ : ∃ q, W.heap.size = q := ⟨_, rfl⟩
  rw [hB0] at bx
  rw [hB0]
  have zb := (hb1.block b (blk_lt z)).trans z
  have hW1 : Below w.heap.size w W1 := hW.trans (hb1.mono hW.size)
  clear z h0
  have z0 : W1.cell? ⟨b, 0, none⟩ = some (.slice A0 l0.length c0) := (blk_cell zb 0).trans rfl
  have z1 : W1.cell? ⟨b, 1, none⟩ = some (.slice A1 l1.length c1) := (blk_cell zb 1).trans rfl
  have z2 : W1.cell? ⟨b, 2, none⟩ = some (.int .i64 nx) := (blk_cell zb 2).trans rfl
  gi_wp2_with (gi_at_call 28; refine (callsIn_wide.2 (bound_live.calls A0 c0 l0 A1 c1 l1 nx _)).mono ?_; rintro e w1 ⟨b', rfl, hbx, hb2⟩; have J2 := hJ _ W1 w1 none J1 (grown_of_below hb2 none) (fun r h => by cases h); have zt := (hb2.block B0 (blk_lt bx)).trans bx; clear J1 bx zb z0 z1 z2)
  have hB : Below w.heap.size w w1 := hW1.trans (hb2.mono hW1.size)
  have hB00 : Below w0.heap.size w0 w1 := hw.trans (hB.mono hw.size)
  have hs1 : W.heap.size ≤ w1.heap.size := Nat.le_trans hb1.size hb2.size
  refine wpIn_rangeFunc_ownH rfl (by omega) (gf := 38) (lb := #[.pointer (some ⟨b', 0, none⟩)]) rfl trivial (enters_of Try.func38 (by kernel_rfl) rfl)
    (seqStopsK_wide (live_stops b' (.slice A0 l0.length c0) A1 c1 nx l1 w0 w1 hB00 hbx hr1 hl1)) belowK_t (belowK_b (by have := hB00.size; omega)) (Below.refl _ _) (fun _ => rfl)
    (fun pre V => J (pre.map (tickOf l0)) V ∧ V.heap[B0]? = some (.cells #[.func (.yield l) #[] #[]] 53 (0, 0)) ∧ Below n₀ w V)
    (fun _ _ _ => False)
    (OwnFrom.and (fun s A C row hs hg hr => ownFrom_up hJ hs1 _ A C row hs hg hr) (OwnFrom.and (Own.from (block_own B0 _ 53 (0, 0)) _) (ownFrom_below (Nat.le_of_lt hn) (Nat.le_trans (Nat.le_of_lt hn) hB.size))))
    (fun _ _ _ _ _ hs _ _ => hs) ⟨J2, zt, hB.mono (Nat.le_of_lt hn)⟩
    (fun x a' V => ∃ q, V.heap[q]? = some (.cells #[.int .i64 x.f0, .string x.f1, .int .i64 x.f2, .int .i64 x.f3, .int .i64 x.f4, .int .i64 x.f5, .bool x.f6, .int .i64 x.f7, .int .i64 x.f8] 44 (0, 0)) ∧ a' = { tmps := #[.func (.yield l) #[] #[], .pointer (some ⟨b, 0, none⟩), .pointer (some ⟨B0, 0, none⟩), .pointer (some ⟨q, 0, none⟩), undef, undef, .agg #[.slice A0 l0.length c0, .slice A1 l1.length c1, .int .i64 nx], .func (.func 38) #[] #[.pointer (some ⟨b', 0, none⟩)], .agg #[.int .i64 x.f0, .string x.f1, .int .i64 x.f2, .int .i64 x.f3, .int .i64 x.f4, .int .i64 x.f5, .bool x.f6, .int .i64 x.f7, .int .i64 x.f8], undef, undef, undef, undef, undef, undef, undef, undef, undef, undef, undef, undef], defers := [] })
    ?ax ?assign ?body ?done ?stop
  case ax =>
    rintro x a' _ A C row ⟨q, hq, ha⟩ hg hr
    exact ⟨q, block_own q _ 44 (0, 0) () A C row hq hg (fun r e => (hr r e).2), ha⟩
  case assign =>
    rintro l' pre x V K ⟨hj, ht, hv⟩ hK
    rw [show (#[8] : Array Tmp).zip (encG x) = #[(8, Value.agg #[.int .i64 x.f0, .string x.f1, .int .i64 x.f2, .int .i64 x.f3, .int .i64 x.f4, .int .i64 x.f5, .bool x.f6, .int .i64 x.f7, .int .i64 x.f8])] from by simp [encG]]
    change Code.wpIn (Fence.wide.inRound l') (7 - 1 - 1) Try.prog _ _ { tmps := #[.func (.yield l) #[] #[], .pointer (some ⟨b, 0, none⟩), .pointer (some ⟨B0, 0, none⟩), undef, undef, undef, .agg #[.slice A0 l0.length c0, .slice A1 l1.length c1, .int .i64 nx], .func (.func 38) #[] #[.pointer (some ⟨b', 0, none⟩)], .agg #[.int .i64 x.f0, .string x.f1, .int .i64 x.f2, .int .i64 x.f3, .int .i64 x.f4, .int .i64 x.f5, .bool x.f6, .int .i64 x.f7, .int .i64 x.f8], undef, undef, undef, undef, undef, undef, undef, undef, undef, undef, undef, undef], defers := [] } V
    gi_wp2
    have hb3 : Below V.heap.size V (V.alloc (.cells #[.int .i64 x.f0, .string x.f1, .int .i64 x.f2, .int .i64 x.f3, .int .i64 x.f4, .int .i64 x.f5, .bool x.f6, .int .i64 x.f7, .int .i64 x.f8] 44)) := (Below.refl _ V).alloc (Nat.le_refl _) _
    refine hK _ _ ((keepsO_below hb3).from _) (hb3.mono (Nat.le_trans (hw.trans (hv.mono hwn)).size (Nat.le_refl _))) ⟨hJ.alloc _ hj, (hb3.block _ (blk_lt ht)).trans ht, hv.trans (hb3.mono (Nat.le_trans (Nat.le_of_lt hn) hv.size))⟩ ⟨V.heap.size, blk_new V _, rfl⟩
  case body =>
    rintro l' pre x a' V hl' hr' ⟨hj, ht, hv⟩ ⟨q, hq, rfl⟩ _
    have hb0 := (hv.block b hbn).trans HB.out
    have y0 : V.cell? ⟨b, 0, none⟩ = some (.slice A0 l0.length c0) := (blk_cell hb0 0).trans rfl
    have y1 : V.cell? ⟨b, 1, none⟩ = some (.slice A1 l1.length c1) := (blk_cell hb0 1).trans rfl
    have y2 : V.cell? ⟨b, 2, none⟩ = some (.int .i64 nx) := (blk_cell hb0 2).trans rfl
    have ys : V.cell? ⟨q, 1, none⟩ = some (.string x.f1) := (blk_cell hq 1).trans rfl
    have hvv : Below w0.heap.size w0 V := hw.trans (hv.mono hwn)
    gi_upto_region 4 with (refine ⟨trivial, ?_⟩; gi_at_call 30; refine (CallsIn.inRound l' (callsIn_wide.2 (state_Def.calls A0 c0 l0 A1 c1 l1.length nx x.f1 _ (Kd.C_below hr0 hvv) hl0 hst))).mono ?_; rintro e w2 ⟨A, c, bb, rfl, hrd, hcd, hbd⟩)
    have dx : (defOf l0 x.f1).f2.length < 1000000 := by
      unfold defOf
      cases hf : l0.find? (isNamed x.f1) with
      | none => simp
      | some d => exact hst d (List.mem_of_find?_eq_some hf)
    have hE : tickOf l0 x = sumT (emL (defOf l0 x.f1).f2) := rfl
    generalize defOf l0 x.f1 = d at *
    have bd := blk_new w2 (.cells #[.string d.f0, .int .i64 d.f1, .slice A d.f2.length c] 28)
    have hb3 : Below w2.heap.size w2 (w2.alloc (.cells #[.string d.f0, .int .i64 d.f1, .slice A d.f2.length c] 28)) := (Below.refl _ w2).alloc (Nat.le_refl _) _
    have hb23 : Below V.heap.size V (w2.alloc (.cells #[.string d.f0, .int .i64 d.f1, .slice A d.f2.length c] 28)) := hbd.trans (hb3.mono hbd.size)
    have hrd3 := Kd.C_below hrd hb3
    clear hb3 hbd hrd
    generalize w2.alloc (.cells #[.string d.f0, .int .i64 d.f1, .slice A d.f2.length c] 28) = W3 at *
    generalize w2.heap.size = q3 at *
    have c0' : W3.cell? ⟨q3, 0, none⟩ = some (.string d.f0) := (blk_cell bd 0).trans rfl
    have c1' : W3.cell? ⟨q3, 1, none⟩ = some (.int .i64 d.f1) := (blk_cell bd 1).trans rfl
    have c2' : W3.cell? ⟨q3, 2, none⟩ = some (.slice A d.f2.length c) := (blk_cell bd 2).trans rfl
    have zt3 := (hb23.block B0 (blk_lt ht)).trans ht
    have ct : W3.cell? ⟨B0, 0, none⟩ = some (.func (.yield l) #[] #[]) := (blk_cell zt3 0).trans rfl
    have J3 := hJ _ V W3 none hj (grown_of_below hb23 none) (fun r h => by cases h)
    clear y0 y1 y2 ys bd
    have hem : bound_Emissions.f d.f0 d.f1 d.f2 = some (tickOf l0 x) := by unfold bound_Emissions.f; rw [if_pos dx, hE]
    have hmx : Try.prog.follows .mixedOrders = true := by kernel_rfl
    clear hE dx
    obtain ⟨u, hu⟩ : ∃ u, tickOf l0 x = u := ⟨_, rfl⟩
    rw [hu] at hem
    gi_wp2
    gi_region_with_o (first | (refine ⟨trivial, ?_⟩; gi_at_call 13; refine (CallsIn.inRound l' (callsIn_wide.2 (bound_Emissions.calls d.f0 d.f1 A c d.f2 u _ (Kd.C_below hrd3 (below_drew1 (Below.refl _ W3))) hcd hem))).mono ?_; rintro e w4 ⟨rfl, hb4⟩; have hb34 := below_step (below_drew1 (Below.refl _ W3)) hb4; have ct4 := (hb34.cell (World.block_lt_of_cell? _ _ ct)).trans ct; have zt4 := (hb34.block B0 (blk_lt zt3)).trans zt3; have J4 := hJ _ W3 w4 none J3 (grown_of_below hb34 none) (fun r h => by cases h); obtain ⟨fn, tmps, assign, body, hy, hR⟩ := yieldAt_wide (m' := 7 - 1 - 1 - 1) (hY _ u w4 J4 trivial)) | (refine hR.mono ?_; rintro e w5 ⟨rfl, J5, hk5, hf5⟩))
    all_goals gi_wp2
    all_goals
      have hVw : w.heap.size ≤ V.heap.size := hv.size
      have hb5 : Below n₀ V w5 := (hb23.mono (by omega)).trans ((hb34.mono (by have := hb23.size; omega)).trans hk5.1)
      exact ⟨(((keepsO_below hb23).from _).trans ((keepsO_below hb34).from _)).trans (keepsFrom_up hf5 hs1), hb5.mono hwn, by rw [List.map_append, List.map_singleton, hu]; exact J5, hk5.2 _ _ zt4 rfl (by have := hW.size; omega), hv.trans hb5⟩
  case done =>
    rintro D ys V hD rfl ⟨hj, ht, hv⟩ hK
    gi_wp2
    refine ⟨by simp, .inl ⟨_, _, rfl, run_takeDeferred hK, ?_⟩⟩
    exact ⟨_, results_none rfl _ _ _, ⟨_, rfl⟩, hJ.putObj _ hj (by omega) hK rfl⟩
  case stop =>
    rintro D c pre V _ _ h _
    exact h.elim

set_option maxRecDepth 100000 in
set_option maxHeartbeats 2000000 in
theorem bound_sumR.calls (gf : Nat) (lb : Array Value) (eg : ∀ args w, (callFunc gf args).run Try.prog w = .ok (.enter gf args) w) (xs : List Int) (w : World)
    (hseq : Rounds Fence.wide 7 Try.prog gf lb (fun x : Int => #[Value.int .i64 x]) (KpC w.heap.size) (fun _ _ _ => True) xs (w.alloc (.cells #[.int .i64 0] 3))) :
    Calls Try.prog 23 #[.func (.func gf) #[] lb] w fun e w' => e = .returned (.int .i64 (sumT xs)) ∧ Below w.heap.size w w' := by
  refine (callsIn_wide (n := 8)).1 ?_
  refine callsIn_of_wp_marks Try.func23 rfl trivial ?_ rfl
  simp only [Try.ntmps23, List.size_toArray, List.length_cons, List.length_nil, Nat.reduceAdd, Nat.reduceSub, Array.replicate_succ, Array.replicate_zero, List.push_toArray, List.append_toArray, List.nil_append, List.cons_append]
  gi_wp2
  have hs : (w.alloc (.cells #[.int .i64 0] 3)).cell? ⟨w.heap.size, 0, none⟩ = some (.int .i64 (sumT [])) ∧ (w.alloc (.cells #[.int .i64 0] 3)).frozen? ⟨w.heap.size, 0, none⟩ = false := ⟨(blk_cell (blk_new w (.cells #[.int .i64 0] 3)) 0).trans rfl, blk_frozen (blk_new w (.cells #[.int .i64 0] 3)) 0⟩
  have hB0 : Below w.heap.size w (w.alloc (.cells #[.int .i64 0] 3)) := (Below.refl _ w).alloc (Nat.le_refl _) _
  refine range_rounds rfl (by omega) (gf := gf) (lb := lb) rfl trivial eg hseq (Below.refl _ _) KpC_t (KpC_b (by simp)) (fun _ => rfl)
    (fun pre W => (W.cell? ⟨w.heap.size, 0, none⟩ = some (.int .i64 (sumT pre)) ∧ W.frozen? ⟨w.heap.size, 0, none⟩ = false) ∧ Below w.heap.size w W)
    (OwnFrom.and (Own.from (fun s A B row hs hg hr => ⟨cell_kept hs.1 hg hr, (frozen_kept hs.1 hg hr).trans hs.2⟩) _) (ownFrom_below (Nat.le_refl _) (by simp)))
    ⟨hs, hB0⟩
    (fun _ x a' _ => a' = { tmps := #[.func (.func gf) #[] lb, undef, .int .i64 0, .pointer (some ⟨w.heap.size, 0, none⟩), .int .i64 x, .func (.func gf) #[] lb, .int .i64 x, undef, undef, undef, undef], defers := [] })
    (fun _ _ _ _ _ _ _ hs _ _ => hs) ?assign ?body ?done
  case assign =>
    intro l pre x W K hI _ hK
    gi_wp2
    exact hK _ _ (KeepsFrom.refl _ _) ⟨Below.refl _ _, fun _ _ h _ _ => h⟩ hI rfl
  case body =>
    rintro l pre x a' W hl hr ⟨⟨hc, hf⟩, hB⟩ rfl
    gi_wp2_with (refine ⟨trivial, ?_⟩; gi_at_call 25; refine (CallsIn.inRound l (callsIn_wide.2 (tick_Add.calls _ _ _ _ (addT_f _ _)))).mono ?_; rintro e w' ⟨rfl, hb⟩; have hc' := (hb.cell (World.block_lt_of_cell? W _ hc)).trans hc; have hf' : w'.frozen? ⟨w.heap.size, 0, none⟩ = false := (frozen_below hb (World.block_lt_of_cell? W _ hc)).trans hf)
    exact ⟨((keepsO_below hb).trans (KeepsOthers.setCell _ _ _)).from _, KpC_t (KpC_below hb hB.size) (KpC_set _ _ _ _), ⟨by rw [sumT_snoc]; exact World.cell?_setCell_same' _ _ _ (by rw [hc']; rfl), by rw [World.frozen?_setCell]; exact hf'⟩, (hB.trans (hb.mono hB.size)).setCell (p := ⟨w.heap.size, 0, none⟩) (Nat.le_refl _) _⟩
  case done =>
    rintro D W hD ⟨⟨hc, _⟩, hB⟩ hK
    gi_wp2
    refine ⟨by simp, .inl ⟨_, _, rfl, run_takeDeferred hK, ?_⟩⟩
    exact ⟨_, results_tmp rfl _ _ _, rfl, hB.trans (belowK_b (w := w) (Nat.le_refl _) W D _ _ (by simp at hD; omega) hK rfl rfl)⟩
end Go.Proofs.Ytookpfpmobbhiaa.Q
end

section
namespace Go.Proofs.Ytookpfpmobbhiaa.Q
open Go.RowKit Go.Shelf Go.Proofs.YtookpfpmobbhiaaW.PrintWords Go.Proofs.YtookpfpmobbhiaaW.PrintLast Go.Proofs.YtookpfpmobbhiaaW.PrintMore
set_option linter.unusedVariables false
set_option linter.unusedSimpArgs false
attribute [local go_sem] Oper.semAt_some

def bound_Ticks.f (l0 : List S28) (l1 : List S44) (nx : Int) (l2 : List S51) : Option Int :=
  if ((l0.length < 1000000 ∧ l2.length < 1000000) ∧ ∀ d ∈ l0, d.f2.length < 1000000) ∧ l1.length < 1000000 then bound_all.f (sumT (ticksL l0 l1)) ((liveL l1).length : Int) (greT (waitL l0 l2)) else none

set_option maxRecDepth 100000 in
set_option maxHeartbeats 4000000 in
theorem bound_Ticks.calls (A0 : Option Addr) (c0 : Nat) (l0 : List S28) (A1 : Option Addr) (c1 : Nat) (l1 : List S44) (nx : Int) (A2 : Option Addr) (c2 : Nat) (l2 : List S51) (r : Int) (w : World)
    (hr0 : Kd.C k28 w A0 l0.length l0) (hc0 : l0.length ≤ c0) (hr1 : Kd.C k44 w A1 l1.length l1) (hc1 : l1.length ≤ c1) (hr2 : Kd.C k51 w A2 l2.length l2) (hc2 : l2.length ≤ c2) (h : bound_Ticks.f l0 l1 nx l2 = some r) :
    Calls Try.prog 17 #[.agg #[.slice A0 l0.length c0, .slice A1 l1.length c1, .int .i64 nx], .slice A2 l2.length c2] w fun e w' => e = .returned (.int .i64 r) ∧ Below w.heap.size w w' := by
  unfold bound_Ticks.f at h
  by_cases hl : ((l0.length < 1000000 ∧ l2.length < 1000000) ∧ ∀ d ∈ l0, d.f2.length < 1000000) ∧ l1.length < 1000000
  · rw [if_pos hl] at h
    obtain ⟨⟨⟨hl0, hl2⟩, hst⟩, hl1⟩ := hl
    have HT := Aside0.mk h
    have HL := Aside0.mk (show bound_Longest.f l0 l2 = some (greT (waitL l0 l2)) by unfold bound_Longest.f; rw [if_pos ⟨⟨hl0, hl2⟩, hst⟩])
    have HV := Aside0.mk (show bound_Live.f l0 l1 nx = some ((liveL l1).length : Int) by unfold bound_Live.f; rw [if_pos hl1])
    clear h
    refine (callsIn_wide (n := 8)).1 ?_
    refine callsIn_of_wp Try.func17 rfl trivial ?_ rfl
    simp only [Try.ntmps17, List.size_toArray, List.length_cons, List.length_nil, Nat.reduceAdd, Nat.reduceSub, Array.replicate_succ, Array.replicate_zero, List.push_toArray, List.append_toArray, List.nil_append, List.cons_append]
    have hmx : Try.prog.follows .mixedOrders = true := by kernel_rfl
    gi_upto_region 1 with (fail)
    have bx := blk_new w (.cells #[.slice A0 l0.length c0, .slice A1 l1.length c1, .int .i64 nx] 25)
    have hb1 : Below w.heap.size w (w.alloc (.cells #[.slice A0 l0.length c0, .slice A1 l1.length c1, .int .i64 nx] 25)) := (Below.refl _ w).alloc (Nat.le_refl _) _
    have hlt := blk_lt bx
    generalize w.alloc (.cells #[.slice A0 l0.length c0, .slice A1 l1.length c1, .int .i64 nx] 25) = W1 at *
    obtain ⟨b, hb⟩ : ∃ q, w.heap.size = q := ⟨_, rfl⟩
    have hf23 : Fence.wide.fn 23 := trivial
    have hf15 : Fence.wide.fn 15 := trivial
    have hf14 : Fence.wide.fn 14 := trivial
    have hf31 : Fence.wide.fn 31 := trivial
    have HB := Aside0.mk hb1
    have HBB := Aside0.mk hb
    rw [hb] at bx ⊢
    have hba : Below W1.heap.size W1 (W1.alloc (.cells #[.int .i64 0] 3)) := (Below.refl _ W1).alloc (Nat.le_refl _) _
    have hR := ticks_rounds b A0 c0 l0 A1 c1 l1 nx W1.heap.size w (W1.alloc (.cells #[.int .i64 0] 3)) (by simp) (by omega) hb1.size (hb1.trans (hba.mono hb1.size)) ((hba.block b (blk_lt bx)).trans bx) hr0 hr1 hl0 hl1 hst
    gi_upto_region 2 with (gi_at_call 23; refine (callsIn_wide.2 (bound_sumR.calls 29 #[.pointer (some ⟨b, 0, none⟩)] (enters_of Try.func29 (by kernel_rfl) rfl) (ticksL l0 l1) _ hR)).mono ?_; rintro e w2 ⟨rfl, hb2⟩)
    have hbc : Below w.heap.size w w2.drew := below_drew1 (hb1.trans (hb2.mono hb1.size))
    have zx : w2.drew.heap[b]? = some (.cells #[.slice A0 l0.length c0, .slice A1 l1.length c1, .int .i64 nx] 25 (0, 0)) := (hb2.block b (blk_lt bx)).trans bx
    have y0 : w2.drew.cell? ⟨b, 0, none⟩ = some (.slice A0 l0.length c0) := (blk_cell zx 0).trans rfl
    have y1 : w2.drew.cell? ⟨b, 1, none⟩ = some (.slice A1 l1.length c1) := (blk_cell zx 1).trans rfl
    have y2 : w2.drew.cell? ⟨b, 2, none⟩ = some (.int .i64 nx) := (blk_cell zx 2).trans rfl
    clear hR hba bx hlt hb1 hb2
    gi_region_with_o (first
      | (gi_at_call 15; go_loud (refine (callsIn_wide.2 (bound_Live.calls A0 c0 l0 A1 c1 l1 nx _ _ (Kd.C_below hr0 hbc) hc0 (Kd.C_below hr1 hbc) hc1 HV.out)).mono ?_; rintro e w3 ⟨rfl, hb3⟩; replace hbc := below_step hbc hb3; replace zx := (hb3.block b (blk_lt zx)).trans zx; clear y0 y1 y2; have y0 := (blk_cell zx 0).trans rfl; have y1 := (blk_cell zx 1).trans rfl; have y2 := (blk_cell zx 2).trans rfl; clear hb3))
      | (gi_at_call 14; go_loud (refine (callsIn_wide.2 (bound_Longest.calls A0 c0 l0 A2 c2 l2 _ _ (Kd.C_below hr0 hbc) hc0 (Kd.C_below hr2 hbc) hc2 HL.out)).mono ?_; rintro e w3 ⟨rfl, hb3⟩; replace hbc := below_step hbc hb3; replace zx := (hb3.block b (blk_lt zx)).trans zx; clear y0 y1 y2; have y0 := (blk_cell zx 0).trans rfl; have y1 := (blk_cell zx 1).trans rfl; have y2 := (blk_cell zx 2).trans rfl; clear hb3))
      | (gi_at_call 31; go_loud (refine (callsIn_wide.2 (bound_all.calls _ _ _ r _ HT.out)).mono ?_; rintro e w5 ⟨rfl, hb5⟩; replace hbc := below_step hbc hb5; clear hb5 zx y0 y1 y2)))
    all_goals gi_wp2
    all_goals go_ret
    all_goals exact ⟨rfl, hbc⟩
  · rw [if_neg hl] at h
    cases h
end Go.Proofs.Ytookpfpmobbhiaa.Q
end

section
namespace Go.Proofs.Ytookpfpmobbhiaa.Q
open Go.RowKit Go.Shelf Go.Proofs.YtookpfpmobbhiaaW.PrintWords Go.Proofs.YtookpfpmobbhiaaW.PrintLast Go.Proofs.YtookpfpmobbhiaaW.PrintMore
set_option linter.unusedVariables false
set_option linter.unusedSimpArgs false
attribute [local go_sem] Oper.semAt_some

theorem C_one {α : Type} {d : Kd α} {w : World} {b : Nat} {x : α} {cs : List Value} {t : TypeId} (h : w.heap[b]? = some (.cells cs.toArray t (0, 0))) (hs : cs.length = d.sz) (hk : d.K w x cs) : d.C w (some ⟨b, 0, none⟩) 1 [x] := by
  refine ⟨rfl, by omega, fun _ => ⟨_, rfl, fun j p hp => ?_⟩⟩
  cases j with
  | succ j => simp at hp
  | zero =>
    obtain rfl : x = p := by simpa using hp
    refine ⟨cs, hs, hk, fun i u hi => ?_⟩
    rw [Nat.zero_mul, Nat.zero_add]
    have := blk_cell h i
    have e : (⟨b, 0, none⟩ : Addr).add i = ⟨b, i, none⟩ := by
      simp only [Addr.add, Nat.zero_add]
      split
      · next h0 => rw [h0]
      · rfl
    rw [e, this]
    simpa using hi
theorem below_al {w X : World} (h : Below w.heap.size w X) (o : Obj) : Below w.heap.size w (X.alloc o) := h.alloc h.size o
theorem C_one28 {w : World} {b : Nat} {nm : ByteArray} {dl : Int} {A : Option Addr} {c : Nat} {l : List S49} (h : w.heap[b]? = some (.cells #[.string nm, .int .i64 dl, .slice A l.length c] 28 (0, 0))) (hc : l.length ≤ c) (hr : Kd.C k49 w A l.length l) : Kd.C k28 w (some ⟨b, 0, none⟩) 1 [⟨nm, dl, l⟩] :=
  C_one (cs := [.string nm, .int .i64 dl, .slice A l.length c]) h rfl (k28_mk w ⟨nm, dl, l⟩ hc hr)

def bound_Total.f (nm : ByteArray) (dl : Int) (l0 : List S49) (l1 : List S51) (lim : Int) : Option Int :=
  if l0.length < 1000000 ∧ l1.length < 1000000 then (tick_Times.f (sumT (emL l0)) (ofT lim)).bind fun t => bound_all.f t (ofT lim) (greT (waitL [⟨nm, dl, l0⟩] l1)) else none

set_option maxRecDepth 100000 in
set_option maxHeartbeats 4000000 in
theorem bound_Total.calls (nm : ByteArray) (dl : Int) (A0 : Option Addr) (c0 : Nat) (l0 : List S49) (A1 : Option Addr) (c1 : Nat) (l1 : List S51) (lim : Int) (r : Int) (w : World)
    (hr0 : Kd.C k49 w A0 l0.length l0) (hc0 : l0.length ≤ c0) (hr1 : Kd.C k51 w A1 l1.length l1) (hc1 : l1.length ≤ c1) (h : bound_Total.f nm dl l0 l1 lim = some r) :
    Calls Try.prog 19 #[.agg #[.string nm, .int .i64 dl, .slice A0 l0.length c0], .slice A1 l1.length c1, .int .i64 lim] w fun e w' => e = .returned (.int .i64 r) ∧ Below w.heap.size w w' := by
  unfold bound_Total.f at h
  by_cases hl : l0.length < 1000000 ∧ l1.length < 1000000
  · rw [if_pos hl] at h
    obtain ⟨hl0, hl1⟩ := hl
    obtain ⟨t, ht, ha⟩ := Option.bind_eq_some_iff.1 h
    have HT := Aside0.mk ht
    have HA := Aside0.mk ha
    have HL := Aside0.mk (show bound_Longest.f [⟨nm, dl, l0⟩] l1 = some (greT (waitL [⟨nm, dl, l0⟩] l1)) by unfold bound_Longest.f; rw [if_pos ⟨⟨by simp, hl1⟩, fun d hd => by rw [List.mem_singleton] at hd; rw [hd]; exact hl0⟩])
    have HE := Aside0.mk (show bound_Emissions.f nm dl l0 = some (sumT (emL l0)) by unfold bound_Emissions.f; rw [if_pos hl0])
    clear h ht ha
    refine (callsIn_wide (n := 8)).1 ?_
    refine callsIn_of_wp Try.func19 rfl trivial ?_ rfl
    simp only [Try.ntmps19, List.size_toArray, List.length_cons, List.length_nil, Nat.reduceAdd, Nat.reduceSub, Array.replicate_succ, Array.replicate_zero, List.push_toArray, List.append_toArray, List.nil_append, List.cons_append]
    have hmx : Try.prog.follows .mixedOrders = true := by kernel_rfl
    gi_upto_region 1 with (fail)
    have bx := blk_new w (.cells #[.string nm, .int .i64 dl, .slice A0 l0.length c0] 28)
    have hb1 : Below w.heap.size w (w.alloc (.cells #[.string nm, .int .i64 dl, .slice A0 l0.length c0] 28)) := (Below.refl _ w).alloc (Nat.le_refl _) _
    generalize w.alloc (.cells #[.string nm, .int .i64 dl, .slice A0 l0.length c0] 28) = W1 at *
    obtain ⟨b, hb⟩ : ∃ q, w.heap.size = q := ⟨_, rfl⟩
    have hf33 : Fence.wide.fn 33 := trivial
    have hf13 : Fence.wide.fn 13 := trivial
    have hf34 : Fence.wide.fn 34 := trivial
    have hf14 : Fence.wide.fn 14 := trivial
    have hf31 : Fence.wide.fn 31 := trivial
    have HBB := Aside0.mk hb
    rw [hb] at bx ⊢
    gi_upto_region 2 with (gi_at_call 33; refine (callsIn_wide.2 (tick_Of.calls _ _ _ (ofT_f _))).mono ?_; rintro e w2 ⟨rfl, hb2⟩)
    have hbc : Below w.heap.size w w2.drew := below_drew1 (hb1.trans (hb2.mono hb1.size))
    have zx : w2.drew.heap[b]? = some (.cells #[.string nm, .int .i64 dl, .slice A0 l0.length c0] 28 (0, 0)) := (hb2.block b (blk_lt bx)).trans bx
    have y0 : w2.drew.cell? ⟨b, 0, none⟩ = some (.string nm) := (blk_cell zx 0).trans rfl
    have y1 : w2.drew.cell? ⟨b, 1, none⟩ = some (.int .i64 dl) := (blk_cell zx 1).trans rfl
    have y2 : w2.drew.cell? ⟨b, 2, none⟩ = some (.slice A0 l0.length c0) := (blk_cell zx 2).trans rfl
    have hsz : b < w2.heap.size := blk_lt zx
    have a0 : (w2.alloc (.cells #[.string nm, .int .i64 dl, .slice A0 l0.length c0] 28)).cell? ⟨b, 0, none⟩ = some (Value.string nm) := (blk_cell (blk_alloc zx (.cells #[.string nm, .int .i64 dl, .slice A0 l0.length c0] 28)) 0).trans rfl
    have a1 : (w2.alloc (.cells #[.string nm, .int .i64 dl, .slice A0 l0.length c0] 28)).cell? ⟨b, 1, none⟩ = some (Value.int .i64 dl) := (blk_cell (blk_alloc zx (.cells #[.string nm, .int .i64 dl, .slice A0 l0.length c0] 28)) 1).trans rfl
    have a2 : (w2.alloc (.cells #[.string nm, .int .i64 dl, .slice A0 l0.length c0] 28)).cell? ⟨b, 2, none⟩ = some (Value.slice A0 l0.length c0) := (blk_cell (blk_alloc zx (.cells #[.string nm, .int .i64 dl, .slice A0 l0.length c0] 28)) 2).trans rfl
    clear bx hb1 hb2
    gi_region_with_o (first
      | (gi_at_call 13; refine (callsIn_wide.2 (bound_Emissions.calls nm dl A0 c0 l0 _ _ (Kd.C_below hr0 hbc) hc0 HE.out)).mono ?_; rintro e w3 ⟨rfl, hb3⟩; replace hbc := below_step hbc hb3; replace zx := (hb3.block b (blk_lt zx)).trans zx; clear y0 y1 y2 hsz a0 a1 a2; have hsz := blk_lt zx; have a0 : (w3.alloc (.cells #[.string nm, .int .i64 dl, .slice A0 l0.length c0] 28)).cell? ⟨b, 0, none⟩ = some (Value.string nm) := (blk_cell (blk_alloc zx (.cells #[.string nm, .int .i64 dl, .slice A0 l0.length c0] 28)) 0).trans rfl; have a1 : (w3.alloc (.cells #[.string nm, .int .i64 dl, .slice A0 l0.length c0] 28)).cell? ⟨b, 1, none⟩ = some (Value.int .i64 dl) := (blk_cell (blk_alloc zx (.cells #[.string nm, .int .i64 dl, .slice A0 l0.length c0] 28)) 1).trans rfl; have a2 : (w3.alloc (.cells #[.string nm, .int .i64 dl, .slice A0 l0.length c0] 28)).cell? ⟨b, 2, none⟩ = some (Value.slice A0 l0.length c0) := (blk_cell (blk_alloc zx (.cells #[.string nm, .int .i64 dl, .slice A0 l0.length c0] 28)) 2).trans rfl; have y0 := (blk_cell zx 0).trans (show _ = some (Value.string nm : Value) from rfl); have y1 := (blk_cell zx 1).trans (show _ = some (Value.int .i64 dl : Value) from rfl); have y2 := (blk_cell zx 2).trans (show _ = some (Value.slice A0 l0.length c0 : Value) from rfl); (try (replace zs := (hb3.block _ (blk_lt zs)).trans zs)); clear hb3)
      | (gi_at_call 13; refine (callsIn_wide.2 (bound_Emissions.calls nm dl A0 c0 l0 _ _ (Kd.C_below hr0 (below_al hbc (.cells #[.string nm, .int .i64 dl, .slice A0 l0.length c0] 28))) hc0 HE.out)).mono ?_; rintro e w3 ⟨rfl, hb3⟩; have zs := (hb3.block _ (blk_lt (blk_new _ (.cells #[.string nm, .int .i64 dl, .slice A0 l0.length c0] 28)))).trans (blk_new _ (.cells #[.string nm, .int .i64 dl, .slice A0 l0.length c0] 28)); replace hbc := below_step (below_al hbc (.cells #[.string nm, .int .i64 dl, .slice A0 l0.length c0] 28)) hb3; replace zx := (hb3.block b (blk_lt (blk_alloc zx (.cells #[.string nm, .int .i64 dl, .slice A0 l0.length c0] 28)))).trans (blk_alloc zx (.cells #[.string nm, .int .i64 dl, .slice A0 l0.length c0] 28)); clear y0 y1 y2 hsz a0 a1 a2; have hsz := blk_lt zx; have a0 : (w3.alloc (.cells #[.string nm, .int .i64 dl, .slice A0 l0.length c0] 28)).cell? ⟨b, 0, none⟩ = some (Value.string nm) := (blk_cell (blk_alloc zx (.cells #[.string nm, .int .i64 dl, .slice A0 l0.length c0] 28)) 0).trans rfl; have a1 : (w3.alloc (.cells #[.string nm, .int .i64 dl, .slice A0 l0.length c0] 28)).cell? ⟨b, 1, none⟩ = some (Value.int .i64 dl) := (blk_cell (blk_alloc zx (.cells #[.string nm, .int .i64 dl, .slice A0 l0.length c0] 28)) 1).trans rfl; have a2 : (w3.alloc (.cells #[.string nm, .int .i64 dl, .slice A0 l0.length c0] 28)).cell? ⟨b, 2, none⟩ = some (Value.slice A0 l0.length c0) := (blk_cell (blk_alloc zx (.cells #[.string nm, .int .i64 dl, .slice A0 l0.length c0] 28)) 2).trans rfl; have y0 := (blk_cell zx 0).trans (show _ = some (Value.string nm : Value) from rfl); have y1 := (blk_cell zx 1).trans (show _ = some (Value.int .i64 dl : Value) from rfl); have y2 := (blk_cell zx 2).trans (show _ = some (Value.slice A0 l0.length c0 : Value) from rfl); clear hb3)
      | (gi_at_call 34; refine (callsIn_wide.2 (tick_Times.calls _ _ _ _ HT.out)).mono ?_; rintro e w3 ⟨rfl, hb3⟩; replace hbc := below_step hbc hb3; replace zx := (hb3.block b (blk_lt zx)).trans zx; clear y0 y1 y2 hsz a0 a1 a2; have hsz := blk_lt zx; have a0 : (w3.alloc (.cells #[.string nm, .int .i64 dl, .slice A0 l0.length c0] 28)).cell? ⟨b, 0, none⟩ = some (Value.string nm) := (blk_cell (blk_alloc zx (.cells #[.string nm, .int .i64 dl, .slice A0 l0.length c0] 28)) 0).trans rfl; have a1 : (w3.alloc (.cells #[.string nm, .int .i64 dl, .slice A0 l0.length c0] 28)).cell? ⟨b, 1, none⟩ = some (Value.int .i64 dl) := (blk_cell (blk_alloc zx (.cells #[.string nm, .int .i64 dl, .slice A0 l0.length c0] 28)) 1).trans rfl; have a2 : (w3.alloc (.cells #[.string nm, .int .i64 dl, .slice A0 l0.length c0] 28)).cell? ⟨b, 2, none⟩ = some (Value.slice A0 l0.length c0) := (blk_cell (blk_alloc zx (.cells #[.string nm, .int .i64 dl, .slice A0 l0.length c0] 28)) 2).trans rfl; have y0 := (blk_cell zx 0).trans (show _ = some (Value.string nm : Value) from rfl); have y1 := (blk_cell zx 1).trans (show _ = some (Value.int .i64 dl : Value) from rfl); have y2 := (blk_cell zx 2).trans (show _ = some (Value.slice A0 l0.length c0 : Value) from rfl); (try (replace zs := (hb3.block _ (blk_lt zs)).trans zs)); clear hb3)
      | (gi_at_call 34; refine (callsIn_wide.2 (tick_Times.calls _ _ _ _ HT.out)).mono ?_; rintro e w3 ⟨rfl, hb3⟩; have zs := (hb3.block _ (blk_lt (blk_new _ (.cells #[.string nm, .int .i64 dl, .slice A0 l0.length c0] 28)))).trans (blk_new _ (.cells #[.string nm, .int .i64 dl, .slice A0 l0.length c0] 28)); replace hbc := below_step (below_al hbc (.cells #[.string nm, .int .i64 dl, .slice A0 l0.length c0] 28)) hb3; replace zx := (hb3.block b (blk_lt (blk_alloc zx (.cells #[.string nm, .int .i64 dl, .slice A0 l0.length c0] 28)))).trans (blk_alloc zx (.cells #[.string nm, .int .i64 dl, .slice A0 l0.length c0] 28)); clear y0 y1 y2 hsz a0 a1 a2; have hsz := blk_lt zx; have a0 : (w3.alloc (.cells #[.string nm, .int .i64 dl, .slice A0 l0.length c0] 28)).cell? ⟨b, 0, none⟩ = some (Value.string nm) := (blk_cell (blk_alloc zx (.cells #[.string nm, .int .i64 dl, .slice A0 l0.length c0] 28)) 0).trans rfl; have a1 : (w3.alloc (.cells #[.string nm, .int .i64 dl, .slice A0 l0.length c0] 28)).cell? ⟨b, 1, none⟩ = some (Value.int .i64 dl) := (blk_cell (blk_alloc zx (.cells #[.string nm, .int .i64 dl, .slice A0 l0.length c0] 28)) 1).trans rfl; have a2 : (w3.alloc (.cells #[.string nm, .int .i64 dl, .slice A0 l0.length c0] 28)).cell? ⟨b, 2, none⟩ = some (Value.slice A0 l0.length c0) := (blk_cell (blk_alloc zx (.cells #[.string nm, .int .i64 dl, .slice A0 l0.length c0] 28)) 2).trans rfl; have y0 := (blk_cell zx 0).trans (show _ = some (Value.string nm : Value) from rfl); have y1 := (blk_cell zx 1).trans (show _ = some (Value.int .i64 dl : Value) from rfl); have y2 := (blk_cell zx 2).trans (show _ = some (Value.slice A0 l0.length c0 : Value) from rfl); clear hb3)
      | (gi_at_call 14; refine (callsIn_wide.2 (bound_Longest.calls (some ⟨_, 0, none⟩) 1 [⟨nm, dl, l0⟩] A1 c1 l1 _ _ (C_one28 zs hc0 (Kd.C_below hr0 hbc)) (Nat.le_refl _) (Kd.C_below hr1 hbc) hc1 HL.out)).mono ?_; rintro e w3 ⟨rfl, hb3⟩; replace hbc := below_step hbc hb3; replace zx := (hb3.block b (blk_lt zx)).trans zx; clear y0 y1 y2 hsz a0 a1 a2; have hsz := blk_lt zx; have a0 : (w3.alloc (.cells #[.string nm, .int .i64 dl, .slice A0 l0.length c0] 28)).cell? ⟨b, 0, none⟩ = some (Value.string nm) := (blk_cell (blk_alloc zx (.cells #[.string nm, .int .i64 dl, .slice A0 l0.length c0] 28)) 0).trans rfl; have a1 : (w3.alloc (.cells #[.string nm, .int .i64 dl, .slice A0 l0.length c0] 28)).cell? ⟨b, 1, none⟩ = some (Value.int .i64 dl) := (blk_cell (blk_alloc zx (.cells #[.string nm, .int .i64 dl, .slice A0 l0.length c0] 28)) 1).trans rfl; have a2 : (w3.alloc (.cells #[.string nm, .int .i64 dl, .slice A0 l0.length c0] 28)).cell? ⟨b, 2, none⟩ = some (Value.slice A0 l0.length c0) := (blk_cell (blk_alloc zx (.cells #[.string nm, .int .i64 dl, .slice A0 l0.length c0] 28)) 2).trans rfl; have y0 := (blk_cell zx 0).trans (show _ = some (Value.string nm : Value) from rfl); have y1 := (blk_cell zx 1).trans (show _ = some (Value.int .i64 dl : Value) from rfl); have y2 := (blk_cell zx 2).trans (show _ = some (Value.slice A0 l0.length c0 : Value) from rfl); clear hb3 zs)
      | (gi_at_call 14; go_loud (refine (callsIn_wide.2 (bound_Longest.calls (some ⟨_, 0, none⟩) 1 [⟨nm, dl, l0⟩] A1 c1 l1 _ _ (C_one28 (blk_new _ (.cells #[.string nm, .int .i64 dl, .slice A0 l0.length c0] 28)) hc0 (Kd.C_below hr0 (below_al hbc (.cells #[.string nm, .int .i64 dl, .slice A0 l0.length c0] 28)))) (Nat.le_refl _) (Kd.C_below hr1 (below_al hbc (.cells #[.string nm, .int .i64 dl, .slice A0 l0.length c0] 28))) hc1 HL.out)).mono ?_; rintro e w3 ⟨rfl, hb3⟩; replace hbc := below_step (below_al hbc (.cells #[.string nm, .int .i64 dl, .slice A0 l0.length c0] 28)) hb3; replace zx := (hb3.block b (blk_lt (blk_alloc zx (.cells #[.string nm, .int .i64 dl, .slice A0 l0.length c0] 28)))).trans (blk_alloc zx (.cells #[.string nm, .int .i64 dl, .slice A0 l0.length c0] 28)); clear y0 y1 y2 hsz a0 a1 a2; have hsz := blk_lt zx; have a0 : (w3.alloc (.cells #[.string nm, .int .i64 dl, .slice A0 l0.length c0] 28)).cell? ⟨b, 0, none⟩ = some (Value.string nm) := (blk_cell (blk_alloc zx (.cells #[.string nm, .int .i64 dl, .slice A0 l0.length c0] 28)) 0).trans rfl; have a1 : (w3.alloc (.cells #[.string nm, .int .i64 dl, .slice A0 l0.length c0] 28)).cell? ⟨b, 1, none⟩ = some (Value.int .i64 dl) := (blk_cell (blk_alloc zx (.cells #[.string nm, .int .i64 dl, .slice A0 l0.length c0] 28)) 1).trans rfl; have a2 : (w3.alloc (.cells #[.string nm, .int .i64 dl, .slice A0 l0.length c0] 28)).cell? ⟨b, 2, none⟩ = some (Value.slice A0 l0.length c0) := (blk_cell (blk_alloc zx (.cells #[.string nm, .int .i64 dl, .slice A0 l0.length c0] 28)) 2).trans rfl; have y0 := (blk_cell zx 0).trans (show _ = some (Value.string nm : Value) from rfl); have y1 := (blk_cell zx 1).trans (show _ = some (Value.int .i64 dl : Value) from rfl); have y2 := (blk_cell zx 2).trans (show _ = some (Value.slice A0 l0.length c0 : Value) from rfl); clear hb3))
      | (gi_at_call 31; go_loud (refine (callsIn_wide.2 (bound_all.calls _ _ _ r _ HA.out)).mono ?_; rintro e w5 ⟨rfl, hb5⟩; replace hbc := below_step hbc hb5; clear hb5 zx y0 y1 y2 hsz a0 a1 a2)))
    all_goals gi_wp2
    all_goals go_ret
    all_goals exact ⟨rfl, hbc⟩
  · rw [if_neg hl] at h
    cases h
end Go.Proofs.Ytookpfpmobbhiaa.Q
end

section
namespace Go.Proofs.Ytookpfpmobbhiaa.Q
open Go.RowKit Go.Shelf Go.Proofs.YtookpfpmobbhiaaW.PrintWords Go.Proofs.YtookpfpmobbhiaaW.PrintLast Go.Proofs.YtookpfpmobbhiaaW.PrintMore
set_option linter.unusedVariables false
set_option linter.unusedSimpArgs false
attribute [local go_sem] Oper.semAt_some

theorem aw_em : bound_Emissions.f ⟨#[97]⟩ 0 [(⟨⟨#[98]⟩, ⟨#[99]⟩, 5, ⟨0, 1, 1, 1⟩, ⟨0, 1, 1, 1⟩, 0⟩ : S49)] = some 2 := by decide +kernel
theorem aw_ti : bound_Ticks.f [(⟨⟨#[97]⟩, 0, [(⟨⟨#[98]⟩, ⟨#[99]⟩, 5, ⟨0, 1, 1, 1⟩, ⟨0, 1, 1, 1⟩, 0⟩ : S49)]⟩ : S28)] [(⟨0, ⟨#[97]⟩, 0, 0, 0, 0, false, 0, 0⟩ : S44)] 1 [(⟨⟨#[]⟩, 0, 0, 3, 0⟩ : S51)] = some 42 := by decide +kernel
theorem aw_li : bound_Live.f [(⟨⟨#[97]⟩, 0, [(⟨⟨#[98]⟩, ⟨#[99]⟩, 5, ⟨0, 1, 1, 1⟩, ⟨0, 1, 1, 1⟩, 0⟩ : S49)]⟩ : S28)] [(⟨0, ⟨#[97]⟩, 0, 0, 0, 0, false, 0, 0⟩ : S44)] 1 = some 1 := by decide +kernel
def usufructlaw25_awake.f : Option (Bool) := some true
set_option maxRecDepth 100000 in
set_option maxHeartbeats 4000000 in
theorem usufructlaw25_awake.calls (r : Bool) (w : World) (h : usufructlaw25_awake.f = some r) : Calls Try.prog 5 #[] w fun e w' => e = .returned (.bool r) ∧ Below w.heap.size w w' := by
  obtain rfl := Option.some.inj h
  clear h
  go_enter Try.func5, Try.ntmps5
  go_upto_region 4 with (fail)
  obtain ⟨q, hq⟩ : ∃ q, w.heap.size = q := ⟨_, rfl⟩
  rw [hq]
  have HQ := Aside0.mk hq
  have h0 := blk_alloc (blk_alloc (blk_alloc (blk_alloc (blk_alloc (blk_new w (.cells #[.int .i64 0, .int .i64 1, .int .i64 1, .int .i64 1] 47)) (.cells #[.string ⟨#[98]⟩, .string ⟨#[99]⟩, .int .i64 5, .int .i64 0, .int .i64 1, .int .i64 1, .int .i64 1, .int .i64 0, .int .i64 1, .int .i64 1, .int .i64 1, .int .i64 0] 49)) (.cells #[.string ⟨#[97]⟩, .int .i64 0, .slice (some ⟨q + 1, 0, none⟩) 1 1] 28)) (.cells #[.string ⟨#[97]⟩, .int .i64 0, .slice (some ⟨q + 1, 0, none⟩) 1 1] 28)) (.cells #[.int .i64 0, .string ⟨#[97]⟩, .int .i64 0, .int .i64 0, .int .i64 0, .int .i64 0, .bool false, .int .i64 0, .int .i64 0] 44)) (.cells #[.slice (some ⟨q + 1 + 1 + 1, 0, none⟩) 1 1, .slice (some ⟨q + 1 + 1 + 1 + 1, 0, none⟩) 1 1, .int .i64 1] 25)
  simp only [World.size_alloc, hq] at h0
  have h1 := blk_alloc (blk_alloc (blk_alloc (blk_alloc (blk_new (w.alloc (.cells #[.int .i64 0, .int .i64 1, .int .i64 1, .int .i64 1] 47)) (.cells #[.string ⟨#[98]⟩, .string ⟨#[99]⟩, .int .i64 5, .int .i64 0, .int .i64 1, .int .i64 1, .int .i64 1, .int .i64 0, .int .i64 1, .int .i64 1, .int .i64 1, .int .i64 0] 49)) (.cells #[.string ⟨#[97]⟩, .int .i64 0, .slice (some ⟨q + 1, 0, none⟩) 1 1] 28)) (.cells #[.string ⟨#[97]⟩, .int .i64 0, .slice (some ⟨q + 1, 0, none⟩) 1 1] 28)) (.cells #[.int .i64 0, .string ⟨#[97]⟩, .int .i64 0, .int .i64 0, .int .i64 0, .int .i64 0, .bool false, .int .i64 0, .int .i64 0] 44)) (.cells #[.slice (some ⟨q + 1 + 1 + 1, 0, none⟩) 1 1, .slice (some ⟨q + 1 + 1 + 1 + 1, 0, none⟩) 1 1, .int .i64 1] 25)
  simp only [World.size_alloc, hq] at h1
  have h2 := blk_alloc (blk_alloc (blk_alloc (blk_new ((w.alloc (.cells #[.int .i64 0, .int .i64 1, .int .i64 1, .int .i64 1] 47)).alloc (.cells #[.string ⟨#[98]⟩, .string ⟨#[99]⟩, .int .i64 5, .int .i64 0, .int .i64 1, .int .i64 1, .int .i64 1, .int .i64 0, .int .i64 1, .int .i64 1, .int .i64 1, .int .i64 0] 49)) (.cells #[.string ⟨#[97]⟩, .int .i64 0, .slice (some ⟨q + 1, 0, none⟩) 1 1] 28)) (.cells #[.string ⟨#[97]⟩, .int .i64 0, .slice (some ⟨q + 1, 0, none⟩) 1 1] 28)) (.cells #[.int .i64 0, .string ⟨#[97]⟩, .int .i64 0, .int .i64 0, .int .i64 0, .int .i64 0, .bool false, .int .i64 0, .int .i64 0] 44)) (.cells #[.slice (some ⟨q + 1 + 1 + 1, 0, none⟩) 1 1, .slice (some ⟨q + 1 + 1 + 1 + 1, 0, none⟩) 1 1, .int .i64 1] 25)
  simp only [World.size_alloc, hq] at h2
  have h3 := blk_alloc (blk_alloc (blk_new (((w.alloc (.cells #[.int .i64 0, .int .i64 1, .int .i64 1, .int .i64 1] 47)).alloc (.cells #[.string ⟨#[98]⟩, .string ⟨#[99]⟩, .int .i64 5, .int .i64 0, .int .i64 1, .int .i64 1, .int .i64 1, .int .i64 0, .int .i64 1, .int .i64 1, .int .i64 1, .int .i64 0] 49)).alloc (.cells #[.string ⟨#[97]⟩, .int .i64 0, .slice (some ⟨q + 1, 0, none⟩) 1 1] 28)) (.cells #[.string ⟨#[97]⟩, .int .i64 0, .slice (some ⟨q + 1, 0, none⟩) 1 1] 28)) (.cells #[.int .i64 0, .string ⟨#[97]⟩, .int .i64 0, .int .i64 0, .int .i64 0, .int .i64 0, .bool false, .int .i64 0, .int .i64 0] 44)) (.cells #[.slice (some ⟨q + 1 + 1 + 1, 0, none⟩) 1 1, .slice (some ⟨q + 1 + 1 + 1 + 1, 0, none⟩) 1 1, .int .i64 1] 25)
  simp only [World.size_alloc, hq] at h3
  have h4 := blk_alloc (blk_new ((((w.alloc (.cells #[.int .i64 0, .int .i64 1, .int .i64 1, .int .i64 1] 47)).alloc (.cells #[.string ⟨#[98]⟩, .string ⟨#[99]⟩, .int .i64 5, .int .i64 0, .int .i64 1, .int .i64 1, .int .i64 1, .int .i64 0, .int .i64 1, .int .i64 1, .int .i64 1, .int .i64 0] 49)).alloc (.cells #[.string ⟨#[97]⟩, .int .i64 0, .slice (some ⟨q + 1, 0, none⟩) 1 1] 28)).alloc (.cells #[.string ⟨#[97]⟩, .int .i64 0, .slice (some ⟨q + 1, 0, none⟩) 1 1] 28)) (.cells #[.int .i64 0, .string ⟨#[97]⟩, .int .i64 0, .int .i64 0, .int .i64 0, .int .i64 0, .bool false, .int .i64 0, .int .i64 0] 44)) (.cells #[.slice (some ⟨q + 1 + 1 + 1, 0, none⟩) 1 1, .slice (some ⟨q + 1 + 1 + 1 + 1, 0, none⟩) 1 1, .int .i64 1] 25)
  simp only [World.size_alloc, hq] at h4
  have h5 := blk_new (((((w.alloc (.cells #[.int .i64 0, .int .i64 1, .int .i64 1, .int .i64 1] 47)).alloc (.cells #[.string ⟨#[98]⟩, .string ⟨#[99]⟩, .int .i64 5, .int .i64 0, .int .i64 1, .int .i64 1, .int .i64 1, .int .i64 0, .int .i64 1, .int .i64 1, .int .i64 1, .int .i64 0] 49)).alloc (.cells #[.string ⟨#[97]⟩, .int .i64 0, .slice (some ⟨q + 1, 0, none⟩) 1 1] 28)).alloc (.cells #[.string ⟨#[97]⟩, .int .i64 0, .slice (some ⟨q + 1, 0, none⟩) 1 1] 28)).alloc (.cells #[.int .i64 0, .string ⟨#[97]⟩, .int .i64 0, .int .i64 0, .int .i64 0, .int .i64 0, .bool false, .int .i64 0, .int .i64 0] 44)) (.cells #[.slice (some ⟨q + 1 + 1 + 1, 0, none⟩) 1 1, .slice (some ⟨q + 1 + 1 + 1 + 1, 0, none⟩) 1 1, .int .i64 1] 25)
  simp only [World.size_alloc, hq] at h5
  have hB := below_al (below_al (below_al (below_al (below_al (below_al (Below.refl w.heap.size w) (.cells #[.int .i64 0, .int .i64 1, .int .i64 1, .int .i64 1] 47)) (.cells #[.string ⟨#[98]⟩, .string ⟨#[99]⟩, .int .i64 5, .int .i64 0, .int .i64 1, .int .i64 1, .int .i64 1, .int .i64 0, .int .i64 1, .int .i64 1, .int .i64 1, .int .i64 0] 49)) (.cells #[.string ⟨#[97]⟩, .int .i64 0, .slice (some ⟨q + 1, 0, none⟩) 1 1] 28)) (.cells #[.string ⟨#[97]⟩, .int .i64 0, .slice (some ⟨q + 1, 0, none⟩) 1 1] 28)) (.cells #[.int .i64 0, .string ⟨#[97]⟩, .int .i64 0, .int .i64 0, .int .i64 0, .int .i64 0, .bool false, .int .i64 0, .int .i64 0] 44)) (.cells #[.slice (some ⟨q + 1 + 1 + 1, 0, none⟩) 1 1, .slice (some ⟨q + 1 + 1 + 1 + 1, 0, none⟩) 1 1, .int .i64 1] 25)
  have HB := Aside0.mk hB
  have C1 := Aside0.mk (C_one (cs := [.string ⟨#[98]⟩, .string ⟨#[99]⟩, .int .i64 5, .int .i64 0, .int .i64 1, .int .i64 1, .int .i64 1, .int .i64 0, .int .i64 1, .int .i64 1, .int .i64 1, .int .i64 0]) h1 rfl (k49_mk _ (⟨⟨#[98]⟩, ⟨#[99]⟩, 5, ⟨0, 1, 1, 1⟩, ⟨0, 1, 1, 1⟩, 0⟩ : S49)))
  have C3 := Aside0.mk (C_one28 (l := [(⟨⟨#[98]⟩, ⟨#[99]⟩, 5, ⟨0, 1, 1, 1⟩, ⟨0, 1, 1, 1⟩, 0⟩ : S49)]) (b := q + 1 + 1 + 1) (nm := ⟨#[97]⟩) (dl := 0) (A := some ⟨q + 1, 0, none⟩) (c := 1) h3 (Nat.le_refl _) C1.out)
  have C4 := Aside0.mk (C_one (d := k44) (x := (⟨0, ⟨#[97]⟩, 0, 0, 0, 0, false, 0, 0⟩ : S44)) (cs := [.int .i64 0, .string ⟨#[97]⟩, .int .i64 0, .int .i64 0, .int .i64 0, .int .i64 0, .bool false, .int .i64 0, .int .i64 0]) h4 rfl (k44_mk _ (⟨0, ⟨#[97]⟩, 0, 0, 0, 0, false, 0, 0⟩ : S44)))
  have H5 := Aside0.mk h5
  generalize ((((((w.alloc (.cells #[.int .i64 0, .int .i64 1, .int .i64 1, .int .i64 1] 47)).alloc (.cells #[.string ⟨#[98]⟩, .string ⟨#[99]⟩, .int .i64 5, .int .i64 0, .int .i64 1, .int .i64 1, .int .i64 1, .int .i64 0, .int .i64 1, .int .i64 1, .int .i64 1, .int .i64 0] 49)).alloc (.cells #[.string ⟨#[97]⟩, .int .i64 0, .slice (some ⟨q + 1, 0, none⟩) 1 1] 28)).alloc (.cells #[.string ⟨#[97]⟩, .int .i64 0, .slice (some ⟨q + 1, 0, none⟩) 1 1] 28)).alloc (.cells #[.int .i64 0, .string ⟨#[97]⟩, .int .i64 0, .int .i64 0, .int .i64 0, .int .i64 0, .bool false, .int .i64 0, .int .i64 0] 44)).alloc (.cells #[.slice (some ⟨q + 1 + 1 + 1, 0, none⟩) 1 1, .slice (some ⟨q + 1 + 1 + 1 + 1, 0, none⟩) 1 1, .int .i64 1] 25)) = W at *
  have x0 : W.cell? ⟨q + 1 + 1, 0, none⟩ = some (.string ⟨#[97]⟩) := (blk_cell h2 0).trans rfl
  have x1 : W.cell? ⟨q + 1 + 1, 1, none⟩ = some (.int .i64 0) := (blk_cell h2 1).trans rfl
  have x2 : W.cell? ⟨q + 1 + 1, 2, none⟩ = some (.slice (some ⟨q + 1, 0, none⟩) 1 1) := (blk_cell h2 2).trans rfl
  clear h0 h1 h2 h3 h4 h5 hB hq
  have he2 : (2 == 2) = true := rfl
  have he42 : (42 == 42) = true := rfl
  have he1 : (1 == 1) = true := rfl
  go_wp2_with (first
    | (go_at_call 13; refine (bound_Emissions.calls ⟨#[97]⟩ 0 (some ⟨q + 1, 0, none⟩) 1 [(⟨⟨#[98]⟩, ⟨#[99]⟩, 5, ⟨0, 1, 1, 1⟩, ⟨0, 1, 1, 1⟩, 0⟩ : S49)] 2 _ C1.out (Nat.le_refl _) aw_em).mono ?_; rintro e w1 ⟨rfl, hb⟩; have HB1 := Aside0.mk (below_step HB.out hb); have HW1 := Aside0.mk hb; have y5 := (hb.block _ (blk_lt H5.out)).trans H5.out; have y0 : w1.cell? ⟨q + 1 + 1 + 1 + 1 + 1, 0, none⟩ = some (.slice (some ⟨q + 1 + 1 + 1, 0, none⟩) 1 1) := (blk_cell y5 0).trans rfl; have y1 : w1.cell? ⟨q + 1 + 1 + 1 + 1 + 1, 1, none⟩ = some (.slice (some ⟨q + 1 + 1 + 1 + 1, 0, none⟩) 1 1) := (blk_cell y5 1).trans rfl; have y2 : w1.cell? ⟨q + 1 + 1 + 1 + 1 + 1, 2, none⟩ = some (.int .i64 1) := (blk_cell y5 2).trans rfl; have HY5 := Aside0.mk y5; clear hb y5 x0 x1 x2)
    | (go_at_call 17; have hal := below_al (Below.refl _ w1) (.cells #[.string ⟨#[]⟩, .int .i64 0, .int .i64 0, .int .i64 3, .int .i64 0] 51); have C5 := C_one (d := k51) (x := (⟨⟨#[]⟩, 0, 0, 3, 0⟩ : S51)) (cs := [.string ⟨#[]⟩, .int .i64 0, .int .i64 0, .int .i64 3, .int .i64 0]) (blk_new w1 (.cells #[.string ⟨#[]⟩, .int .i64 0, .int .i64 0, .int .i64 3, .int .i64 0] 51)) rfl (k51_mk _ (⟨⟨#[]⟩, 0, 0, 3, 0⟩ : S51)); refine (bound_Ticks.calls (some ⟨q + 1 + 1 + 1, 0, none⟩) 1 [(⟨⟨#[97]⟩, 0, [(⟨⟨#[98]⟩, ⟨#[99]⟩, 5, ⟨0, 1, 1, 1⟩, ⟨0, 1, 1, 1⟩, 0⟩ : S49)]⟩ : S28)] (some ⟨q + 1 + 1 + 1 + 1, 0, none⟩) 1 [(⟨0, ⟨#[97]⟩, 0, 0, 0, 0, false, 0, 0⟩ : S44)] 1 (some ⟨_, 0, none⟩) 1 [(⟨⟨#[]⟩, 0, 0, 3, 0⟩ : S51)] 42 _ (Kd.C_below C3.out (below_step HW1.out hal)) (Nat.le_refl _) (Kd.C_below C4.out (below_step HW1.out hal)) (Nat.le_refl _) C5 (Nat.le_refl _) aw_ti).mono ?_; rintro e w2 ⟨rfl, hb⟩; have HB2 := Aside0.mk (below_step (below_step HB1.out hal) hb); have HW2 := Aside0.mk (below_step (below_step HW1.out hal) hb); have y5 := (HW2.out.block _ (blk_lt H5.out)).trans H5.out; clear y0 y1 y2; have y0 : w2.cell? ⟨q + 1 + 1 + 1 + 1 + 1, 0, none⟩ = some (.slice (some ⟨q + 1 + 1 + 1, 0, none⟩) 1 1) := (blk_cell y5 0).trans rfl; have y1 : w2.cell? ⟨q + 1 + 1 + 1 + 1 + 1, 1, none⟩ = some (.slice (some ⟨q + 1 + 1 + 1 + 1, 0, none⟩) 1 1) := (blk_cell y5 1).trans rfl; have y2 : w2.cell? ⟨q + 1 + 1 + 1 + 1 + 1, 2, none⟩ = some (.int .i64 1) := (blk_cell y5 2).trans rfl; clear hb y5 C5 hal)
    | (go_at_call 15; refine (bound_Live.calls (some ⟨q + 1 + 1 + 1, 0, none⟩) 1 [(⟨⟨#[97]⟩, 0, [(⟨⟨#[98]⟩, ⟨#[99]⟩, 5, ⟨0, 1, 1, 1⟩, ⟨0, 1, 1, 1⟩, 0⟩ : S49)]⟩ : S28)] (some ⟨q + 1 + 1 + 1 + 1, 0, none⟩) 1 [(⟨0, ⟨#[97]⟩, 0, 0, 0, 0, false, 0, 0⟩ : S44)] 1 1 _ (Kd.C_below C3.out HW2.out) (Nat.le_refl _) (Kd.C_below C4.out HW2.out) (Nat.le_refl _) aw_li).mono ?_; rintro e w3 ⟨rfl, hb⟩; have HB3 := Aside0.mk (below_step HB2.out hb); clear hb))
  go_ret
  exact ⟨rfl, HB3.out⟩
end Go.Proofs.Ytookpfpmobbhiaa.Q
end
