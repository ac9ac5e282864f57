/- bound.live's iterator: the sagas that are live; bound.Live: how many. -/
import Derived.RangeFuncNested
import Derived.RangeFuncBound
import Derived.RangeFuncCalls
import Derived.RangeFuncLeaves
import Derived.RangeFuncFrom
import Derived.RangeFuncKeeps
import Derived.RangeFuncBox
import Derived.Shelf.Abstract
import Derived.Shelf.RegionOpen
import Derived.WalkKit
import Derived.OwnWalkIn
import Derived.TacticsInMore
import Derived.LoopNIn
import Derived.LoopIn
import Derived.Test.YtookpfpmobbhiaaQx1
import Derived.Sort.CutIn
section
namespace Go.Proofs.Ytookpfpmobbhiaa.Q
open Go.RowKit Go.Shelf Go.Proofs.YtookpfpmobbhiaaW.PrintWords Go.Proofs.YtookpfpmobbhiaaW.PrintLast Go.Proofs.YtookpfpmobbhiaaW.PrintMore
set_option linter.unusedVariables false
set_option linter.unusedSimpArgs false
attribute [local go_sem] Oper.semAt_some

def addT (a b : Int) : Int := mn (mx (wrap64 (mn (mx a 0) 1099511627776 + mn (mx b 0) 1099511627776)) 0) 1099511627776
theorem addT_f (a b : Int) : tick_Add.f a b = some (addT a b) := rfl
def sumT (xs : List Int) : Int := xs.foldl addT 0
theorem sumT_snoc (xs : List Int) (x : Int) : sumT (xs ++ [x]) = addT (sumT xs) x := by simp [sumT]

theorem keepsO_below {W W' : World} (h : Below W.heap.size W W') : KeepsOthers W W' :=
  ⟨h.size, fun k o hk _ => (h.block k (Array.getElem?_eq_some_iff.1 hk).1).trans hk⟩
theorem frozen_below {W W' : World} {a : Addr} (h : Below W.heap.size W W') (hl : a.block < W.heap.size) : W'.frozen? a = W.frozen? a := World.frozen?_of_block (h.block _ hl)

set_option maxRecDepth 100000 in
set_option maxHeartbeats 2000000 in
theorem bound_sum.calls (gf : Nat) (lb : Array Value) (eg : ∀ args w, (callFunc gf args).run Try.prog w = .ok (.enter gf args) w) (xs : List Int) (N : Nat) (w : World)
    (hseq : SeqStopsK Fence.wide 7 Try.prog gf lb (fun x : Int => #[Value.int .i64 x]) (Below w.heap.size) (fun ys => ys = xs) (fun pre => pre <+: xs) N w) :
    Calls Try.prog 23 #[.func (.func gf) #[] lb] w fun e w' => e = .returned (.int .i64 (sumT xs)) ∧ Below w.heap.size w w' := by
  refine (callsIn_wide (n := 8)).1 ?_
  refine callsIn_of_wp_marks Try.func23 rfl trivial ?_ rfl
  simp only [Try.ntmps23, List.size_toArray, List.length_cons, List.length_nil, Nat.reduceAdd, Nat.reduceSub, Array.replicate_succ, Array.replicate_zero, List.push_toArray, List.append_toArray, List.nil_append, List.cons_append]
  gi_wp2
  have hs : (w.alloc (.cells #[.int .i64 0] 3)).cell? ⟨w.heap.size, 0, none⟩ = some (.int .i64 (sumT [])) ∧ (w.alloc (.cells #[.int .i64 0] 3)).frozen? ⟨w.heap.size, 0, none⟩ = false := ⟨(blk_cell (blk_new w (.cells #[.int .i64 0] 3)) 0).trans rfl, blk_frozen (blk_new w (.cells #[.int .i64 0] 3)) 0⟩
  have hB0 : Below w.heap.size w (w.alloc (.cells #[.int .i64 0] 3)) := (Below.refl _ w).alloc (Nat.le_refl _) _
  refine wpIn_rangeFunc_ownF rfl (by omega) (gf := gf) (lb := lb) rfl trivial eg hseq belowK_t (belowK_b (by simp)) hB0 (fun _ => rfl)
    (fun pre W => (W.cell? ⟨w.heap.size, 0, none⟩ = some (.int .i64 (sumT pre)) ∧ W.frozen? ⟨w.heap.size, 0, none⟩ = false) ∧ Below w.heap.size w W)
    (fun _ _ _ => False)
    (OwnFrom.and (Own.from (fun s A B row hs hg hr => ⟨cell_kept hs.1 hg hr, (frozen_kept hs.1 hg hr).trans hs.2⟩) _) (ownFrom_below (Nat.le_refl _) (by simp)))
    (fun _ _ _ _ _ hs _ _ => hs)
    ⟨hs, hB0⟩
    (fun x => { tmps := #[.func (.func gf) #[] lb, undef, .int .i64 0, .pointer (some ⟨w.heap.size, 0, none⟩), .int .i64 x, .func (.func gf) #[] lb, .int .i64 x, undef, undef, undef, undef], defers := [] }) ?assign ?body ?done ?stop
  case assign =>
    intro l x W K hK
    gi_wp2
    exact hK
  case body =>
    rintro l pre x W ⟨⟨hc, hf⟩, hB⟩ _
    gi_wp2_with (refine ⟨trivial, ?_⟩; gi_at_call 25; refine (CallsIn.inRound l (callsIn_wide.2 (tick_Add.calls _ _ _ _ (addT_f _ _)))).mono ?_; rintro e w' ⟨rfl, hb⟩; have hc' := (hb.cell (World.block_lt_of_cell? W _ hc)).trans hc; have hf' : w'.frozen? ⟨w.heap.size, 0, none⟩ = false := (frozen_below hb (World.block_lt_of_cell? W _ hc)).trans hf)
    exact ⟨(keepsO_below hb).trans (KeepsOthers.setCell _ _ _), (hb.mono hB.size).setCell (p := ⟨w.heap.size, 0, none⟩) (Nat.le_refl _) _, ⟨by rw [sumT_snoc]; exact World.cell?_setCell_same' _ _ _ (by rw [hc']; rfl), by rw [World.frozen?_setCell]; exact hf'⟩, (hB.trans (hb.mono hB.size)).setCell (p := ⟨w.heap.size, 0, none⟩) (Nat.le_refl _) _⟩
  case done =>
    rintro D ys W hD rfl ⟨⟨hc, _⟩, hB⟩ hK
    gi_wp2
    refine ⟨by simp, .inl ⟨_, _, rfl, run_takeDeferred hK, ?_⟩⟩
    exact ⟨_, results_tmp rfl _ _ _, rfl, hB.trans (belowK_b (w := w) (Nat.le_refl _) W D _ _ (by simp at hD; omega) hK rfl rfl)⟩
  case stop =>
    rintro D c pre W _ _ h _
    exact h.elim
end Go.Proofs.Ytookpfpmobbhiaa.Q
end

section
namespace Go.Proofs.Ytookpfpmobbhiaa.Q
open Go.RowKit Go.Shelf Go.Proofs.YtookpfpmobbhiaaW.PrintWords Go.Proofs.YtookpfpmobbhiaaW.PrintLast Go.Proofs.YtookpfpmobbhiaaW.PrintMore
set_option linter.unusedVariables false
set_option linter.unusedSimpArgs false
attribute [local go_sem] Oper.semAt_some

/-- What a round of a caller that writes its own cell (block n₀) alone keeps: what lay below, and every other cell. -/
def KpC (n₀ : Nat) (W W' : World) : Prop := Below n₀ W W' ∧ ∀ (k : Nat) (o : Obj), W.heap[k]? = some o → o.isCells = true → k ≠ n₀ → W'.heap[k]? = some o
theorem KpC_t {n₀ : Nat} {A B C : World} (h : KpC n₀ A B) (k : KpC n₀ B C) : KpC n₀ A C := ⟨h.1.trans k.1, fun i o hi ho hn => k.2 i o (h.2 i o hi ho hn) ho hn⟩
theorem KpC_b {n₀ : Nat} {w : World} (hB : n₀ ≤ w.heap.size) (W : World) (l : Nat) (o o' : Obj) (hl : w.heap.size ≤ l) (ho : W.heap[l]? = some o) (hc : o.isCells = false) (hw : o.isWalk = false) : KpC n₀ W (W.putObj l o') :=
  ⟨belowK_b (w := w) hB W l o o' hl ho hc hw, fun k q hk hq _ => by
    by_cases e : k = l
    · subst e
      rw [ho] at hk
      cases hk
      rw [hc] at hq
      cases hq
    · exact (World.putObj_heap_other e).trans hk⟩
theorem KpC_below {n₀ : Nat} {A B : World} (h : Below A.heap.size A B) (hn : n₀ ≤ A.heap.size) : KpC n₀ A B := ⟨h.mono hn, fun k o hk _ _ => (h.block k (Array.getElem?_eq_some_iff.1 hk).1).trans hk⟩
theorem KpC_set (n₀ : Nat) (W : World) (j : Nat) (v : Value) : KpC n₀ W (W.setCell ⟨n₀, j, none⟩ v) := ⟨(Below.refl n₀ W).setCell (p := ⟨n₀, j, none⟩) (Nat.le_refl _) _, fun k o hk _ hn => (Below.heap_setCell W ⟨n₀, j, none⟩ v k hn).trans hk⟩
theorem seq_mono {α : Type} {F : Fence} {n : Nat} {P : Program} {g : Nat} {lb : Array Value} {encs : α → Array Value} {Kp Kq : World → World → Prop} {S Sp : List α → Prop} {N : Nat} {w : World} (h : SeqStopsK F n P g lb encs Kp S Sp N w) (hk : ∀ A B, Kq A B → Kp A B) : SeqStopsK F n P g lb encs Kq S Sp N w :=
  fun l J Jx W hW hJ hJx hY h0 => h l J Jx W hW hJ hJx (fun pre x W1 hj hl => by
    obtain ⟨fn, tmps, a, b, hy, hR⟩ := hY pre x W1 hj hl
    refine ⟨fn, tmps, a, b, hy, hR.mono ?_⟩
    rintro e W' (⟨h1, h2, h3⟩ | h1)
    · exact .inl ⟨h1, h2, hk _ _ h3⟩
    · exact .inr h1) h0
def ofT (a : Int) : Int := mn (mx a 0) 1099511627776
theorem ofT_f (a : Int) : tick_Of.f a = some (ofT a) := rfl
def upT (n x : Int) : Int := if n < ofT x then ofT x else n
def greT (xs : List Int) : Int := xs.foldl upT 0
theorem greT_snoc (xs : List Int) (x : Int) : greT (xs ++ [x]) = upT (greT xs) x := by simp [greT]
attribute [local go_sem] max2_int min2_int max_two min_two
set_option maxRecDepth 100000 in
set_option maxHeartbeats 2000000 in
theorem bound_greatest.calls (gf : Nat) (lb : Array Value) (eg : ∀ args w, (callFunc gf args).run Try.prog w = .ok (.enter gf args) w) (xs : List Int) (N : Nat) (w : World)
    (hseq : SeqStopsK Fence.wide 7 Try.prog gf lb (fun x : Int => #[Value.int .i64 x]) (KpC w.heap.size) (fun ys => ys = xs) (fun pre => pre <+: xs) N (w.alloc (.cells #[.int .i64 0] 3))) :
    Calls Try.prog 26 #[.func (.func gf) #[] lb] w fun e w' => e = .returned (.int .i64 (greT xs)) ∧ Below w.heap.size w w' := by
  refine (callsIn_wide (n := 8)).1 ?_
  refine callsIn_of_wp_marks Try.func26 rfl trivial ?_ rfl
  simp only [Try.ntmps26, List.size_toArray, List.length_cons, List.length_nil, Nat.reduceAdd, Nat.reduceSub, Array.replicate_succ, Array.replicate_zero, List.push_toArray, List.append_toArray, List.nil_append, List.cons_append]
  gi_wp2
  have hs : (w.alloc (.cells #[.int .i64 0] 3)).cell? ⟨w.heap.size, 0, none⟩ = some (.int .i64 (greT [])) ∧ (w.alloc (.cells #[.int .i64 0] 3)).frozen? ⟨w.heap.size, 0, none⟩ = false := ⟨(blk_cell (blk_new w (.cells #[.int .i64 0] 3)) 0).trans rfl, blk_frozen (blk_new w (.cells #[.int .i64 0] 3)) 0⟩
  have hB0 : Below w.heap.size w (w.alloc (.cells #[.int .i64 0] 3)) := (Below.refl _ w).alloc (Nat.le_refl _) _
  refine wpIn_rangeFunc_ownF rfl (by omega) (gf := gf) (lb := lb) rfl trivial eg hseq KpC_t (KpC_b (by simp)) (Below.refl _ _) (fun _ => rfl)
    (fun pre W => (W.cell? ⟨w.heap.size, 0, none⟩ = some (.int .i64 (greT pre)) ∧ W.frozen? ⟨w.heap.size, 0, none⟩ = false) ∧ Below w.heap.size w W)
    (fun _ _ _ => False)
    (OwnFrom.and (Own.from (fun s A B row hs hg hr => ⟨cell_kept hs.1 hg hr, (frozen_kept hs.1 hg hr).trans hs.2⟩) _) (ownFrom_below (Nat.le_refl _) (by simp)))
    (fun _ _ _ _ _ hs _ _ => hs)
    ⟨hs, hB0⟩
    (fun x => { tmps := #[.func (.func gf) #[] lb, undef, .int .i64 0, .pointer (some ⟨w.heap.size, 0, none⟩), .int .i64 x, .func (.func gf) #[] lb, .int .i64 x, undef, undef, undef, undef, undef], defers := [] }) ?assign ?body ?done ?stop
  case assign =>
    intro l x W K hK
    gi_wp2
    exact hK
  case body =>
    rintro l pre x W ⟨⟨hc, hf⟩, hB⟩ _
    have hmx : Try.prog.follows .mixedOrders = true := by kernel_rfl
    gi_wp2
    gi_region_with_o (refine ⟨trivial, ?_⟩; gi_at_call 33; refine (CallsIn.inRound l (callsIn_wide.2 (tick_Of.calls _ _ _ (ofT_f _)))).mono ?_; rintro e w' ⟨rfl, hb⟩; have hc' := (hb.cell (World.block_lt_of_cell? _ _ hc)).trans hc; have hf' : w'.frozen? ⟨w.heap.size, 0, none⟩ = false := (frozen_below hb (World.block_lt_of_cell? _ _ hc)).trans hf)
    all_goals gi_wp2
    all_goals (try go_bits)
    all_goals have hbW : Below W.heap.size W w' := below_step (below_drew1 (Below.refl W.heap.size W)) hb
    all_goals exact ⟨(keepsO_below hbW).trans (KeepsOthers.setCell _ _ _), KpC_t (KpC_below hbW hB.size) (KpC_set _ _ _ _), ⟨by rw [greT_snoc, show upT (greT pre) x = _ from (by unfold upT; first | exact if_pos (by assumption) | exact if_neg (by omega))]; exact World.cell?_setCell_same' _ _ _ (by rw [hc']; rfl), by rw [World.frozen?_setCell]; exact hf'⟩, (hB.trans (hbW.mono hB.size)).setCell (p := ⟨w.heap.size, 0, none⟩) (Nat.le_refl _) _⟩
  case done =>
    rintro D ys W hD rfl ⟨⟨hc, _⟩, hB⟩ hK
    gi_wp2
    refine ⟨by simp, .inl ⟨_, _, rfl, run_takeDeferred hK, ?_⟩⟩
    exact ⟨_, results_tmp rfl _ _ _, rfl, hB.trans (belowK_b (w := w) (Nat.le_refl _) W D _ _ (by simp at hD; omega) hK rfl rfl)⟩
  case stop =>
    rintro D c pre W _ _ h _
    exact h.elim
end Go.Proofs.Ytookpfpmobbhiaa.Q
end

section
namespace Go.Proofs.Ytookpfpmobbhiaa.Q
open Go.RowKit Go.Shelf Go.Proofs.YtookpfpmobbhiaaW.PrintWords Go.Proofs.YtookpfpmobbhiaaW.PrintLast Go.Proofs.YtookpfpmobbhiaaW.PrintMore
set_option linter.unusedVariables false
set_option linter.unusedSimpArgs false
attribute [local go_sem] Oper.semAt_some

def emL (l : List S49) : List Int := l.flatMap fun s => [addT s.f3.f0 s.f4.f0, 2]
theorem emL_succ (l : List S49) (j : Nat) (h : j < l.length) : emL (l.take (j + 1)) = emL (l.take j) ++ [addT (rd_T49 l (j : Int)).f3.f0 (rd_T49 l (j : Int)).f4.f0] ++ [2] := by
  have e : rd_T49 l (j : Int) = l[j] := by
    unfold rd_T49
    rw [Int.toNat_natCast, List.getD_eq_getElem?_getD, List.getElem?_eq_getElem h]
    rfl
  rw [e]
  unfold emL
  rw [List.take_succ_eq_append_getElem h, List.flatMap_append]
  simp
theorem emL_len (l : List S49) : (emL l).length = 2 * l.length := by
  unfold emL
  induction l with
  | nil => rfl
  | cons a l ih => rw [List.flatMap_cons, List.length_append, ih]; simp; omega
theorem emL_prefix (l : List S49) (j : Nat) : emL (l.take j) <+: emL l := by
  refine ⟨emL (l.drop j), ?_⟩
  conv => rhs; rw [← List.take_append_drop j l]
  unfold emL
  rw [List.flatMap_append]

set_option maxRecDepth 100000 in
set_option maxHeartbeats 4000000 in
theorem emis_stops (b : Nat) (nm : ByteArray) (dl : Int) (A : Option Addr) (c : Nat) (l0 : List S49) (w : World) (hb : w.heap[b]? = some (.cells #[.string nm, .int .i64 dl, .slice A l0.length c] 28 (0, 0))) (hr : Kd.C k49 w A l0.length l0) (hl : l0.length < 1000000) :
    SeqStopsK Fence.wide 7 Try.prog 24 #[.pointer (some ⟨b, 0, none⟩)] (fun x : Int => #[Value.int .i64 x]) (Below w.heap.size) (fun ys => ys = emL l0) (fun pre => pre <+: emL l0) (2 * l0.length) w := fun l J Jx W hW hJ hJx hY h0 => by
  have z2 : W.cell? ⟨b, 2, none⟩ = some (.slice A l0.length c) := (hW.cell (p := ⟨b, 2, none⟩) (blk_lt hb)).trans ((blk_cell hb 2).trans rfl)
  refine callsIn_of_wp Try.func24 rfl trivial ?_ rfl
  simp only [Try.ntmps24, List.size_toArray, List.length_cons, List.length_nil, Nat.reduceAdd, Nat.reduceSub, Array.replicate_succ, Array.replicate_zero, List.push_toArray, List.append_toArray, List.nil_append, List.cons_append]
  gi_wp2
  gi_loopw [8] (fun i wr => ∃ k : Nat, k ≤ l0.length ∧ i = .int .i64 k ∧ J (emL (l0.take k)) wr ∧ Aside0 (Below w.heap.size w wr)) (fun i _ => l0.length - (intOf i).toNat)
  case atStart => exact ⟨0, Nat.zero_le _, rfl, h0, ⟨hW⟩⟩
  case round =>
    obtain ⟨k, hk, rfl, hJs, HW⟩ := hrel
    by_cases hlt : k < l0.length
    · have HX := Aside0.mk (emL_succ l0 k hlt)
      obtain ⟨ad, e, x0, x1, x2, x3, x4, x5, x6, x7, x8, x9, x10, x11⟩ := at_T49 hr (k : Int) (by omega) (by omega)
      cases e
      replace x0 := (HW.out.cell (World.block_lt_of_cell? w _ x0)).trans x0
      replace x1 := (HW.out.cell (World.block_lt_of_cell? w _ x1)).trans x1
      replace x2 := (HW.out.cell (World.block_lt_of_cell? w _ x2)).trans x2
      replace x3 := (HW.out.cell (World.block_lt_of_cell? w _ x3)).trans x3
      replace x4 := (HW.out.cell (World.block_lt_of_cell? w _ x4)).trans x4
      replace x5 := (HW.out.cell (World.block_lt_of_cell? w _ x5)).trans x5
      replace x6 := (HW.out.cell (World.block_lt_of_cell? w _ x6)).trans x6
      replace x7 := (HW.out.cell (World.block_lt_of_cell? w _ x7)).trans x7
      replace x8 := (HW.out.cell (World.block_lt_of_cell? w _ x8)).trans x8
      replace x9 := (HW.out.cell (World.block_lt_of_cell? w _ x9)).trans x9
      replace x10 := (HW.out.cell (World.block_lt_of_cell? w _ x10)).trans x10
      replace x11 := (HW.out.cell (World.block_lt_of_cell? w _ x11)).trans x11
      generalize rd_T49 l0 (k : Int) = x at *
      obtain ⟨i, hi⟩ : ∃ i : Int, (k : Int) = i := ⟨_, rfl⟩
      have HI := Aside0.mk hi
      have hp : (0 ≤ i) = True := eq_true (by omega)
      have hq : (i < (l0.length : Int)) = True := eq_true (by omega)
      have hqd : decide (i < (l0.length : Int)) = true := decide_eq_true (by omega)
      have HK := Aside0.mk (show wrap64 (i + 1) = ((k + 1 : Nat) : Int) by unfold wrap64; omega)
      rw [hi] at x0 x1 x2 x3 x4 x5 x6 x7 x8 x9 x10 x11 ⊢
      clear hi
      gi_upto_region 3 with (fail)
      have b3 := blk_new wr (.cells #[.string x.f0, .string x.f1, .int .i64 x.f2, .int .i64 x.f3.f0, .int .i64 x.f3.f1, .int .i64 x.f3.f2, .int .i64 x.f3.f3, .int .i64 x.f4.f0, .int .i64 x.f4.f1, .int .i64 x.f4.f2, .int .i64 x.f4.f3, .int .i64 x.f5] 49)
      have hb3 : Below wr.heap.size wr (wr.alloc (.cells #[.string x.f0, .string x.f1, .int .i64 x.f2, .int .i64 x.f3.f0, .int .i64 x.f3.f1, .int .i64 x.f3.f2, .int .i64 x.f3.f3, .int .i64 x.f4.f0, .int .i64 x.f4.f1, .int .i64 x.f4.f2, .int .i64 x.f4.f3, .int .i64 x.f5] 49)) := (Below.refl _ wr).alloc (Nat.le_refl _) _
      have J3 := hJ _ wr _ none hJs (grown_of_below hb3 none) (fun r h => by cases h)
      have HW3 := Aside0.mk (HW.out.trans (hb3.mono HW.out.size))
      clear hb3 hJs x0 x1 x2 x3 x4 x5 x6 x7 x8 x9 x10 x11 z2 HW
      generalize wr.alloc (.cells #[.string x.f0, .string x.f1, .int .i64 x.f2, .int .i64 x.f3.f0, .int .i64 x.f3.f1, .int .i64 x.f3.f2, .int .i64 x.f3.f3, .int .i64 x.f4.f0, .int .i64 x.f4.f1, .int .i64 x.f4.f2, .int .i64 x.f4.f3, .int .i64 x.f5] 49) = W3 at *
      generalize wr.heap.size = q at *
      have y3 : W3.cell? ⟨q, 3, none⟩ = some (.int .i64 x.f3.f0) := (blk_cell b3 3).trans rfl
      have y7 : W3.cell? ⟨q, 7, none⟩ = some (.int .i64 x.f4.f0) := (blk_cell b3 7).trans rfl
      have HLEN := Aside0.mk (show (emL (l0.take k)).length + 1 < 2 * l0.length by rw [emL_len, List.length_take]; omega)
      have hfn : Fence.wide.fn 25 := trivial
      gi_wp2_with (gi_at_call 25; refine (callsIn_wide.2 (tick_Add.calls _ _ _ _ (addT_f _ _))).mono ?_; rintro e w4 ⟨rfl, hb⟩; have J4 := hJ _ W3 w4 none J3 (grown_of_below hb none) (fun r h => by cases h); have HW4 := Aside0.mk (HW3.out.trans (hb.mono HW3.out.size)); obtain ⟨fn, tmps, assign, body, hy, hR⟩ := hY _ (addT x.f3.f0 x.f4.f0) w4 J4 (by have := HLEN.out; omega); (try dsimp only at hy); clear hb J4)
      refine hR.mono ?_
      rintro e w5 (⟨rfl, J5, hk5⟩ | ⟨rfl, Jx5⟩)
      · have HW5 := Aside0.mk (HW4.out.trans hk5)
        obtain ⟨fn2, tmps2, assign2, body2, hy2, hR2⟩ := hY _ 2 w5 J5 (by have := HLEN.out; rw [List.length_append]; simpa using this)
        try dsimp only at hy2
        gi_wp2
        refine hR2.mono ?_
        rintro e w6 (⟨rfl, J6, hk6⟩ | ⟨rfl, Jx6⟩)
        · gi_wp2
          go_roundw
          case rel => exact ⟨k + 1, by omega, by rw [HK.out], by rw [HX.out]; exact J6, ⟨HW5.out.trans hk6⟩⟩
          case measure => have := HI.out; simp [intOf, HK.out]; omega
        · gi_wp2
          refine bodyPost_ret (results_none rfl _ _ _) rfl ?_
          exact ⟨⟨_, rfl⟩, .inr ⟨_, by rw [← HX.out]; exact emL_prefix l0 (k + 1), Jx6⟩⟩
      · gi_wp2
        refine ⟨fun _ h => (by cases h), ?_⟩
        gi_wp2
        refine bodyPost_ret (results_none rfl _ _ _) rfl ?_
        exact ⟨⟨_, rfl⟩, .inr ⟨_, List.IsPrefix.trans (by rw [HX.out]; exact List.prefix_append _ _) (emL_prefix l0 (k + 1)), Jx5⟩⟩
    · obtain rfl : k = l0.length := by omega
      have hd : decide ((l0.length : Int) < (l0.length : Int)) = false := decide_eq_false (by omega)
      gi_wp2
      go_end0
      exact ⟨⟨_, rfl⟩, .inl ⟨_, rfl, by rw [List.take_length] at hJs; exact hJs⟩⟩

def bound_Emissions.f (a0_0 : ByteArray) (a0_1 : Int) (l0_2 : List S49) : Option Int := if l0_2.length < 1000000 then some (sumT (emL l0_2)) else none
set_option maxRecDepth 100000 in
set_option maxHeartbeats 2000000 in
theorem bound_Emissions.calls (a0_0 : ByteArray) (a0_1 : Int) (A0_2 : Option Addr) (c0_2 : Nat) (l0_2 : List S49) (r : Int) (w : World) (hr0_2 : Kd.C k49 w A0_2 l0_2.length l0_2) (hc0_2 : l0_2.length ≤ c0_2) (h : bound_Emissions.f a0_0 a0_1 l0_2 = some r) :
    Calls Try.prog 13 #[.agg #[.string a0_0, .int .i64 a0_1, .slice A0_2 l0_2.length c0_2]] w fun e w' => e = .returned (.int .i64 r) ∧ Below w.heap.size w w' := by
  unfold bound_Emissions.f at h
  by_cases hl : l0_2.length < 1000000
  · rw [if_pos hl] at h
    obtain rfl := Option.some.inj h
    have HL := Aside0.mk hl
    have HR := Aside0.mk hr0_2
    clear hl hr0_2 h
    go_enter Try.func13, Try.ntmps13
    go_wp2_with (first | ((with_reducible refine gate_dst (N := 1) rfl ?_); refine box_event ?hg (N := 1) ?hd (cs := #[.string a0_0, .int .i64 a0_1, .slice A0_2 l0_2.length c0_2]) (t := 28) ?hr ?_; (case hd => rfl); (case hg => rfl); (case hr => first | (go_simp; done) | (go_simp; rfl)); intro gb hg w1 hbox hb; have HB1 := Aside0.mk hb; have BX := Aside0.mk hbox; clear hb hbox hg) | (go_at_call 23; refine (bound_sum.calls 24 #[.pointer (some ⟨gb, 0, none⟩)] (enters_of Try.func24 (by kernel_rfl) rfl) (emL l0_2) (2 * l0_2.length) _ (emis_stops gb a0_0 a0_1 A0_2 c0_2 l0_2 _ BX.out (Kd.C_below HR.out HB1.out) HL.out)).mono ?_; rintro e w2 ⟨rfl, hb⟩; have HB2 := Aside0.mk hb; clear hb))
    go_ret
    exact ⟨rfl, below_step HB1.out HB2.out⟩
  · rw [if_neg hl] at h
    cases h
end Go.Proofs.Ytookpfpmobbhiaa.Q
end

section
namespace Go.Proofs.Ytookpfpmobbhiaa.Q
open Go.RowKit Go.Shelf Go.Proofs.YtookpfpmobbhiaaW.PrintWords Go.Proofs.YtookpfpmobbhiaaW.PrintLast Go.Proofs.YtookpfpmobbhiaaW.PrintMore
set_option linter.unusedVariables false
set_option linter.unusedSimpArgs false
attribute [local go_sem] Oper.semAt_some

theorem flat_succ {α : Type} (f : α → List Int) (l : List α) (j : Nat) (h : j < l.length) : (l.take (j + 1)).flatMap f = (l.take j).flatMap f ++ f l[j] := by
  rw [List.take_succ_eq_append_getElem h, List.flatMap_append]
  simp
theorem flat_prefix {α : Type} (f : α → List Int) (l : List α) (j : Nat) : (l.take j).flatMap f <+: l.flatMap f := by
  refine ⟨(l.drop j).flatMap f, ?_⟩
  conv => rhs; rw [← List.take_append_drop j l]
  rw [List.flatMap_append]
def stW (s : S49) : List Int := [s.f2, s.f3.f3, s.f4.f3]
def dfW (d : S28) : List Int := d.f2.flatMap stW
def paW (p : S51) : List Int := [p.f3]
def waitL (l0 : List S28) (l1 : List S51) : List Int := l0.flatMap dfW ++ l1.flatMap paW
theorem rd_ST (l : List S49) (j : Nat) (h : j < l.length) : rd_T49 l (j : Int) = l[j] := by
  unfold rd_T49
  rw [Int.toNat_natCast, List.getD_eq_getElem?_getD, List.getElem?_eq_getElem h]
  rfl
theorem rd_DF (l : List S28) (j : Nat) (h : j < l.length) : rd_T28 l (j : Int) = l[j] := by
  unfold rd_T28
  rw [Int.toNat_natCast, List.getD_eq_getElem?_getD, List.getElem?_eq_getElem h]
  rfl
theorem rd_PA (l : List S51) (j : Nat) (h : j < l.length) : rd_T51 l (j : Int) = l[j] := by
  unfold rd_T51
  rw [Int.toNat_natCast, List.getD_eq_getElem?_getD, List.getElem?_eq_getElem h]
  rfl
theorem pre_lt {p q L : List Int} (x : Int) (h : p ++ x :: q <+: L) : p.length < L.length := by
  have := h.length_le
  simp at this
  omega

set_option maxRecDepth 100000 in
set_option maxHeartbeats 8000000 in
theorem waits_stops (b1 b2 : Nat) (A0 : Option Addr) (c0 : Nat) (l0 : List S28) (A1 : Option Addr) (c1 : Nat) (l1 : List S51) (w : World) (hb1 : w.heap[b1]? = some (.cells #[.slice A0 l0.length c0] 22 (0, 0))) (hb2 : w.heap[b2]? = some (.cells #[.slice A1 l1.length c1] 29 (0, 0)))
    (hr0 : Kd.C k28 w A0 l0.length l0) (hr1 : Kd.C k51 w A1 l1.length l1) (hl0 : l0.length < 1000000) (hl1 : l1.length < 1000000) (hls : ∀ d ∈ l0, d.f2.length < 1000000) :
    SeqStopsK Fence.wide 7 Try.prog 37 #[.pointer (some ⟨b1, 0, none⟩), .pointer (some ⟨b2, 0, none⟩)] (fun x : Int => #[Value.int .i64 x]) (KpC w.heap.size) (fun ys => ys = waitL l0 l1) (fun pre => pre <+: waitL l0 l1) (waitL l0 l1).length (w.alloc (.cells #[.int .i64 0] 3)) := fun l J Jx W hW0 hJ hJx hY h0 => by
  have hn0 : w.heap.size < W.heap.size := by have := hW0.size; simp at this; omega
  have hW : Below w.heap.size w W := ((Below.refl _ w).alloc (Nat.le_refl _) _).trans (hW0.mono (by simp))
  have z1 : W.cell? ⟨b1, 0, none⟩ = some (.slice A0 l0.length c0) := (hW.cell (p := ⟨b1, 0, none⟩) (blk_lt hb1)).trans ((blk_cell hb1 0).trans rfl)
  have hP1 : l0.flatMap dfW <+: waitL l0 l1 := List.prefix_append _ _
  clear hW0
  refine callsIn_of_wp Try.func37 rfl trivial ?_ rfl
  simp only [Try.ntmps37, List.size_toArray, List.length_cons, List.length_nil, Nat.reduceAdd, Nat.reduceSub, Array.replicate_succ, Array.replicate_zero, List.push_toArray, List.append_toArray, List.nil_append, List.cons_append]
  gi_wp2
  gi_loopw [12] (fun i wr => ∃ k : Nat, k ≤ l0.length ∧ i = .int .i64 k ∧ J ((l0.take k).flatMap dfW) wr ∧ Aside0 (Below w.heap.size w wr) ∧ Aside0 (w.heap.size < wr.heap.size)) (fun i _ => l0.length - (intOf i).toNat)
  case atStart => exact ⟨0, Nat.zero_le _, rfl, h0, ⟨hW⟩, ⟨hn0⟩⟩
  case round =>
    obtain ⟨k, hk, rfl, hJs, HW, HNwr⟩ := hrel
    by_cases hlt : k < l0.length
    · have HX := Aside0.mk ((flat_succ dfW l0 k hlt).trans (by rw [← rd_DF l0 k hlt]))
      have HLS := Aside0.mk (show (rd_T28 l0 (k : Int)).f2.length < 1000000 by rw [rd_DF l0 k hlt]; exact hls _ (List.getElem_mem hlt))
      have HPX := Aside0.mk ((flat_prefix dfW l0 (k + 1)).trans hP1)
      obtain ⟨ad, A2, c2, e, x0, x1, x2, hc2, hr2⟩ := at_T28 hr0 (k : Int) (by omega) (by omega)
      cases e
      replace x0 := (HW.out.cell (World.block_lt_of_cell? w _ x0)).trans x0
      replace x1 := (HW.out.cell (World.block_lt_of_cell? w _ x1)).trans x1
      replace x2 := (HW.out.cell (World.block_lt_of_cell? w _ x2)).trans x2
      generalize rd_T28 l0 (k : Int) = d at *
      obtain ⟨i, hi⟩ : ∃ i : Int, (k : Int) = i := ⟨_, rfl⟩
      have HI1 := Aside0.mk hi
      have hp1 : (0 ≤ i) = True := eq_true (by omega)
      have hq1 : (i < (l0.length : Int)) = True := eq_true (by omega)
      have hd1 : decide (i < (l0.length : Int)) = true := decide_eq_true (by omega)
      have HK1 := Aside0.mk (show wrap64 (i + 1) = ((k + 1 : Nat) : Int) by unfold wrap64; omega)
      rw [hi] at x0 x1 x2 ⊢
      clear hi
      gi_upto_region 3 with (fail)
      have b3 := blk_new wr (.cells #[.string d.f0, .int .i64 d.f1, .slice A2 d.f2.length c2] 28)
      have hb3 : Below wr.heap.size wr (wr.alloc (.cells #[.string d.f0, .int .i64 d.f1, .slice A2 d.f2.length c2] 28)) := (Below.refl _ wr).alloc (Nat.le_refl _) _
      have J3 := hJ _ wr _ none hJs (grown_of_below hb3 none) (fun r h => by cases h)
      have HW3 := Aside0.mk (HW.out.trans (hb3.mono HW.out.size))
      have Q3 := Aside0.mk (show wr.heap.size ≠ w.heap.size from fun h => by have := HNwr.out; omega)
      have HNW3 := Aside0.mk (show w.heap.size < (wr.alloc (.cells #[.string d.f0, .int .i64 d.f1, .slice A2 d.f2.length c2] 28)).heap.size by have := HNwr.out; have := hb3.size; omega)
      clear hb3
      generalize wr.alloc (.cells #[.string d.f0, .int .i64 d.f1, .slice A2 d.f2.length c2] 28) = W3 at *
      generalize wr.heap.size = q3 at *
      clear x0 x1 x2 z1
      have y2 : W3.cell? ⟨q3, 2, none⟩ = some (.slice A2 d.f2.length c2) := (blk_cell b3 2).trans rfl
      gi_wp2
      obtain ⟨P, hP⟩ : ∃ P, (l0.take k).flatMap dfW = P := ⟨_, rfl⟩
      rw [hP] at J3 HX
      clear hP hJs
      gi_loopw [19] (fun i wr => ∃ m : Nat, m ≤ d.f2.length ∧ i = .int .i64 m ∧ J (P ++ (d.f2.take m).flatMap stW) wr ∧ Aside0 (Below w.heap.size w wr) ∧ Aside0 (w.heap.size < wr.heap.size)) (fun i _ => d.f2.length - (intOf i).toNat)
      case atStart => exact ⟨0, Nat.zero_le _, rfl, by simpa using J3, HW3, HNW3⟩
      case round =>
        clear J3 y2 b3 HW HW3
        obtain ⟨m, hm, rfl, hJs2, HW2, HNwr⟩ := hrel
        by_cases hlt2 : m < d.f2.length
        · have HY := Aside0.mk ((flat_succ stW d.f2 m hlt2).trans (by rw [← rd_ST d.f2 m hlt2]))
          have HPY := Aside0.mk (show P ++ (d.f2.take (m + 1)).flatMap stW <+: waitL l0 l1 from ((List.prefix_append_right_inj P).2 (flat_prefix stW d.f2 (m + 1))).trans (by have := HPX.out; rw [HX.out] at this; exact this))
          obtain ⟨ad2, e, x0, x1, x2, x3, x4, x5, x6, x7, x8, x9, x10, x11⟩ := at_T49 hr2 (m : Int) (by omega) (by omega)
          cases e
          replace x0 := (HW2.out.cell (World.block_lt_of_cell? w _ x0)).trans x0
          replace x1 := (HW2.out.cell (World.block_lt_of_cell? w _ x1)).trans x1
          replace x2 := (HW2.out.cell (World.block_lt_of_cell? w _ x2)).trans x2
          replace x3 := (HW2.out.cell (World.block_lt_of_cell? w _ x3)).trans x3
          replace x4 := (HW2.out.cell (World.block_lt_of_cell? w _ x4)).trans x4
          replace x5 := (HW2.out.cell (World.block_lt_of_cell? w _ x5)).trans x5
          replace x6 := (HW2.out.cell (World.block_lt_of_cell? w _ x6)).trans x6
          replace x7 := (HW2.out.cell (World.block_lt_of_cell? w _ x7)).trans x7
          replace x8 := (HW2.out.cell (World.block_lt_of_cell? w _ x8)).trans x8
          replace x9 := (HW2.out.cell (World.block_lt_of_cell? w _ x9)).trans x9
          replace x10 := (HW2.out.cell (World.block_lt_of_cell? w _ x10)).trans x10
          replace x11 := (HW2.out.cell (World.block_lt_of_cell? w _ x11)).trans x11
          generalize rd_T49 d.f2 (m : Int) = x at *
          obtain ⟨j, hi⟩ : ∃ i : Int, (m : Int) = i := ⟨_, rfl⟩
          have HI2 := Aside0.mk hi
          have hp2 : (0 ≤ j) = True := eq_true (by omega)
          have hq2 : (j < (d.f2.length : Int)) = True := eq_true (by omega)
          have hd2 : decide (j < (d.f2.length : Int)) = true := decide_eq_true (by omega)
          have HK2 := Aside0.mk (show wrap64 (j + 1) = ((m + 1 : Nat) : Int) by have := HLS.out; unfold wrap64; omega)
          rw [hi] at x0 x1 x2 x3 x4 x5 x6 x7 x8 x9 x10 x11 ⊢
          clear hi
          gi_upto_region 6 with (fail)
          have b6 := blk_new wr (.cells #[.string x.f0, .string x.f1, .int .i64 x.f2, .int .i64 x.f3.f0, .int .i64 x.f3.f1, .int .i64 x.f3.f2, .int .i64 x.f3.f3, .int .i64 x.f4.f0, .int .i64 x.f4.f1, .int .i64 x.f4.f2, .int .i64 x.f4.f3, .int .i64 x.f5] 49)
          have hb6 : Below wr.heap.size wr (wr.alloc (.cells #[.string x.f0, .string x.f1, .int .i64 x.f2, .int .i64 x.f3.f0, .int .i64 x.f3.f1, .int .i64 x.f3.f2, .int .i64 x.f3.f3, .int .i64 x.f4.f0, .int .i64 x.f4.f1, .int .i64 x.f4.f2, .int .i64 x.f4.f3, .int .i64 x.f5] 49)) := (Below.refl _ wr).alloc (Nat.le_refl _) _
          have J6 := hJ _ wr _ none hJs2 (grown_of_below hb6 none) (fun r h => by cases h)
          have HW6 := Aside0.mk (HW2.out.trans (hb6.mono HW2.out.size))
          have Q6 := Aside0.mk (show wr.heap.size ≠ w.heap.size from fun h => by have := HNwr.out; omega)
          have HNW6 := Aside0.mk (show w.heap.size < (wr.alloc (.cells #[.string x.f0, .string x.f1, .int .i64 x.f2, .int .i64 x.f3.f0, .int .i64 x.f3.f1, .int .i64 x.f3.f2, .int .i64 x.f3.f3, .int .i64 x.f4.f0, .int .i64 x.f4.f1, .int .i64 x.f4.f2, .int .i64 x.f4.f3, .int .i64 x.f5] 49)).heap.size by have := HNwr.out; have := hb6.size; omega)
          clear hb6
          generalize wr.alloc (.cells #[.string x.f0, .string x.f1, .int .i64 x.f2, .int .i64 x.f3.f0, .int .i64 x.f3.f1, .int .i64 x.f3.f2, .int .i64 x.f3.f3, .int .i64 x.f4.f0, .int .i64 x.f4.f1, .int .i64 x.f4.f2, .int .i64 x.f4.f3, .int .i64 x.f5] 49) = W6 at *
          generalize wr.heap.size = q6 at *
          clear x0 x1 x2 x3 x4 x5 x6 x7 x8 x9 x10 x11
          obtain ⟨M, hM⟩ : ∃ M, P ++ (d.f2.take m).flatMap stW = M := ⟨_, rfl⟩
          have HZ := Aside0.mk (show P ++ (d.f2.take (m + 1)).flatMap stW = M ++ [x.f2, x.f3.f3, x.f4.f3] by rw [HY.out, ← List.append_assoc, hM]; rfl)
          have HPZ := Aside0.mk (show M ++ [x.f2, x.f3.f3, x.f4.f3] <+: waitL l0 l1 by rw [← HZ.out]; exact HPY.out)
          rw [hM] at J6
          clear hM hJs2
          have y2 : W6.cell? ⟨q6, 2, none⟩ = some (.int .i64 x.f2) := (blk_cell b6 2).trans rfl
          obtain ⟨fn, tmps, assign, body, hy, hR⟩ := hY M x.f2 W6 J6 (pre_lt _ HPZ.out)
          try dsimp only at hy
          gi_wp2
          refine hR.mono ?_
          rintro e w7 (⟨rfl, J7, hk7⟩ | ⟨rfl, Jx7⟩)
          · have b7 := hk7.2 q6 _ b6 rfl Q6.out
            have HW7 := Aside0.mk (HW6.out.trans hk7.1)
            have HN7 := Aside0.mk (show w.heap.size < w7.heap.size by have := HNW6.out; have := hk7.1.size; omega)
            have y6 : w7.cell? ⟨q6, 6, none⟩ = some (.int .i64 x.f3.f3) := (blk_cell b7 6).trans rfl
            obtain ⟨fn2, tmps2, assign2, body2, hy2, hR2⟩ := hY (M ++ [x.f2]) x.f3.f3 w7 J7 (pre_lt (q := [x.f4.f3]) _ (by have := HPZ.out; simpa using this))
            try dsimp only at hy2
            gi_wp2
            refine hR2.mono ?_
            rintro e w8 (⟨rfl, J8, hk8⟩ | ⟨rfl, Jx8⟩)
            · have b8 := hk8.2 q6 _ b7 rfl Q6.out
              have HW8 := Aside0.mk (HW7.out.trans hk8.1)
              have HN8 := Aside0.mk (show w.heap.size < w8.heap.size by have := HN7.out; have := hk8.1.size; omega)
              have y10 : w8.cell? ⟨q6, 10, none⟩ = some (.int .i64 x.f4.f3) := (blk_cell b8 10).trans rfl
              obtain ⟨fn3, tmps3, assign3, body3, hy3, hR3⟩ := hY (M ++ [x.f2] ++ [x.f3.f3]) x.f4.f3 w8 J8 (pre_lt (q := []) _ (by have := HPZ.out; simpa using this))
              try dsimp only at hy3
              gi_wp2
              refine hR3.mono ?_
              rintro e w9 (⟨rfl, J9, hk9⟩ | ⟨rfl, Jx9⟩)
              · gi_wp2
                go_roundw
                case rel => exact ⟨m + 1, by omega, by rw [HK2.out], by rw [HZ.out]; simpa using J9, ⟨HW8.out.trans hk9.1⟩, ⟨by have := HN8.out; have := hk9.1.size; omega⟩⟩
                case measure => have := HI2.out; simp [intOf, HK2.out]; omega
              · gi_wp2
                refine bodyPost_ret (results_none rfl _ _ _) rfl ?_
                exact ⟨⟨_, rfl⟩, .inr ⟨_, by have := HPZ.out; simpa using this, Jx9⟩⟩
            · gi_wp2
              refine ⟨fun _ h => (by cases h), ?_⟩
              gi_wp2
              refine bodyPost_ret (results_none rfl _ _ _) rfl ?_
              exact ⟨⟨_, rfl⟩, .inr ⟨_, List.IsPrefix.trans ⟨[x.f4.f3], by simp⟩ HPZ.out, Jx8⟩⟩
          · gi_wp2
            refine ⟨fun _ h => (by cases h), ?_⟩
            gi_wp2
            refine bodyPost_ret (results_none rfl _ _ _) rfl ?_
            exact ⟨⟨_, rfl⟩, .inr ⟨_, List.IsPrefix.trans ⟨[x.f3.f3, x.f4.f3], by simp⟩ HPZ.out, Jx7⟩⟩
        · obtain rfl : m = d.f2.length := by omega
          have hd9 : decide ((d.f2.length : Int) < (d.f2.length : Int)) = false := decide_eq_false (by omega)
          have JE : J ((l0.take (k + 1)).flatMap dfW) wr := by rw [HX.out]; rw [List.take_length] at hJs2; exact hJs2
          gi_wp2
          go_roundw
          case rel => exact ⟨k + 1, by omega, by rw [HK1.out], JE, HW2, HNwr⟩
          case measure => have := HI1.out; simp [intOf, HK1.out]; omega
    · obtain rfl : k = l0.length := by omega
      have hd8 : decide ((l0.length : Int) < (l0.length : Int)) = false := decide_eq_false (by omega)
      have z2 : wr.cell? ⟨b2, 0, none⟩ = some (.slice A1 l1.length c1) := (HW.out.cell (p := ⟨b2, 0, none⟩) (blk_lt hb2)).trans ((blk_cell hb2 0).trans rfl)
      rw [List.take_length] at hJs
      gi_wp2
      gi_loopw [48] (fun i wr => ∃ p : Nat, p ≤ l1.length ∧ i = .int .i64 p ∧ J (l0.flatMap dfW ++ (l1.take p).flatMap paW) wr ∧ Aside0 (Below w.heap.size w wr) ∧ Aside0 (w.heap.size < wr.heap.size)) (fun i _ => l1.length - (intOf i).toNat)
      case atStart => exact ⟨0, Nat.zero_le _, rfl, by simpa using hJs, HW, HNwr⟩
      case round =>
        clear hJs z2 HW z1
        obtain ⟨p, hp, rfl, hJs3, HW3, HNwr⟩ := hrel
        by_cases hlt3 : p < l1.length
        · have HY := Aside0.mk ((flat_succ paW l1 p hlt3).trans (by rw [← rd_PA l1 p hlt3]))
          have HPY := Aside0.mk (show l0.flatMap dfW ++ (l1.take (p + 1)).flatMap paW <+: waitL l0 l1 from (List.prefix_append_right_inj _).2 (flat_prefix paW l1 (p + 1)))
          obtain ⟨ad3, e, x0, x1, x2, x3, x4⟩ := at_T51 hr1 (p : Int) (by omega) (by omega)
          cases e
          replace x0 := (HW3.out.cell (World.block_lt_of_cell? w _ x0)).trans x0
          replace x1 := (HW3.out.cell (World.block_lt_of_cell? w _ x1)).trans x1
          replace x2 := (HW3.out.cell (World.block_lt_of_cell? w _ x2)).trans x2
          replace x3 := (HW3.out.cell (World.block_lt_of_cell? w _ x3)).trans x3
          replace x4 := (HW3.out.cell (World.block_lt_of_cell? w _ x4)).trans x4
          generalize rd_T51 l1 (p : Int) = y at *
          obtain ⟨j, hi⟩ : ∃ i : Int, (p : Int) = i := ⟨_, rfl⟩
          have HI3 := Aside0.mk hi
          have hp3 : (0 ≤ j) = True := eq_true (by omega)
          have hq3 : (j < (l1.length : Int)) = True := eq_true (by omega)
          have hd3 : decide (j < (l1.length : Int)) = true := decide_eq_true (by omega)
          have HK3 := Aside0.mk (show wrap64 (j + 1) = ((p + 1 : Nat) : Int) by unfold wrap64; omega)
          rw [hi] at x0 x1 x2 x3 x4 ⊢
          clear hi
          gi_upto_region 12 with (fail)
          have b5 := blk_new wr (.cells #[.string y.f0, .int .i64 y.f1, .int .i64 y.f2, .int .i64 y.f3, .int .i64 y.f4] 51)
          have hb5 : Below wr.heap.size wr (wr.alloc (.cells #[.string y.f0, .int .i64 y.f1, .int .i64 y.f2, .int .i64 y.f3, .int .i64 y.f4] 51)) := (Below.refl _ wr).alloc (Nat.le_refl _) _
          have J5 := hJ _ wr _ none hJs3 (grown_of_below hb5 none) (fun r h => by cases h)
          have HW5 := Aside0.mk (HW3.out.trans (hb5.mono HW3.out.size))
          have Q5 := Aside0.mk (show wr.heap.size ≠ w.heap.size from fun h => by have := HNwr.out; omega)
          have HNW5 := Aside0.mk (show w.heap.size < (wr.alloc (.cells #[.string y.f0, .int .i64 y.f1, .int .i64 y.f2, .int .i64 y.f3, .int .i64 y.f4] 51)).heap.size by have := HNwr.out; have := hb5.size; omega)
          clear hb5
          generalize wr.alloc (.cells #[.string y.f0, .int .i64 y.f1, .int .i64 y.f2, .int .i64 y.f3, .int .i64 y.f4] 51) = W5 at *
          generalize wr.heap.size = q5 at *
          clear x0 x1 x2 x3 x4
          obtain ⟨M, hM⟩ : ∃ M, l0.flatMap dfW ++ (l1.take p).flatMap paW = M := ⟨_, rfl⟩
          have HZ := Aside0.mk (show l0.flatMap dfW ++ (l1.take (p + 1)).flatMap paW = M ++ [y.f3] by rw [HY.out, ← List.append_assoc, hM]; rfl)
          rw [hM] at J5
          clear hM hJs3
          have y3 : W5.cell? ⟨q5, 3, none⟩ = some (.int .i64 y.f3) := (blk_cell b5 3).trans rfl
          obtain ⟨fn, tmps, assign, body, hy, hR⟩ := hY M y.f3 W5 J5 (pre_lt (q := []) _ (by rw [← HZ.out]; exact HPY.out))
          try dsimp only at hy
          gi_wp2
          refine hR.mono ?_
          rintro e w7 (⟨rfl, J7, hk7⟩ | ⟨rfl, Jx7⟩)
          · gi_wp2
            go_roundw
            case rel => exact ⟨p + 1, by omega, by rw [HK3.out], by rw [HZ.out]; exact J7, ⟨HW5.out.trans hk7.1⟩, ⟨by have := HNW5.out; have := hk7.1.size; omega⟩⟩
            case measure => have := HI3.out; simp [intOf, HK3.out]; omega
          · gi_wp2
            refine bodyPost_ret (results_none rfl _ _ _) rfl ?_
            exact ⟨⟨_, rfl⟩, .inr ⟨_, by rw [← HZ.out]; exact HPY.out, Jx7⟩⟩
        · obtain rfl : p = l1.length := by omega
          have hd7 : decide ((l1.length : Int) < (l1.length : Int)) = false := decide_eq_false (by omega)
          gi_wp2
          go_end0
          exact ⟨⟨_, rfl⟩, .inl ⟨_, rfl, by rw [List.take_length] at hJs3; exact hJs3⟩⟩
instance (d : List S28) : Decidable (∀ x ∈ d, x.f2.length < 1000000) := inferInstance
def bound_Longest.f (l0 : List S28) (l1 : List S51) : Option Int := if (l0.length < 1000000 ∧ l1.length < 1000000) ∧ ∀ d ∈ l0, d.f2.length < 1000000 then some (greT (waitL l0 l1)) else none
set_option maxRecDepth 100000 in
set_option maxHeartbeats 2000000 in
theorem bound_waits.calls (A0 : Option Addr) (c0 : Nat) (l0 : List S28) (A1 : Option Addr) (c1 : Nat) (l1 : List S51) (w : World) :
    Calls Try.prog 27 #[.slice A0 l0.length c0, .slice A1 l1.length c1] w fun e w' => ∃ b1 b2 : Nat, e = .returned (.func (.func 37) #[] #[.pointer (some ⟨b1, 0, none⟩), .pointer (some ⟨b2, 0, none⟩)]) ∧ w'.heap[b1]? = some (.cells #[.slice A0 l0.length c0] 22 (0, 0)) ∧ w'.heap[b2]? = some (.cells #[.slice A1 l1.length c1] 29 (0, 0)) ∧ Below w.heap.size w w' := by
  have HB := Aside0.mk (Below.refl w.heap.size w)
  go_enter Try.func27, Try.ntmps27
  go_wp2_with (first | ((with_reducible refine gate_dst (N := 2) rfl ?_); refine box_event ?hg (N := 2) ?hd (cs := #[.slice A0 l0.length c0]) (t := 22) ?hr ?_; (case hd => rfl); (case hg => rfl); (case hr => first | (go_simp; done) | (go_simp; rfl)); intro b1 hg w1 hbox hb; have HB1 := Aside0.mk hb; have BX := Aside0.mk hbox; clear hb hbox hg) | ((with_reducible refine gate_dst (N := 3) rfl ?_); refine box_event ?hg (N := 3) ?hd (cs := #[.slice A1 l1.length c1]) (t := 29) ?hr ?_; (case hd => rfl); (case hg => rfl); (case hr => first | (go_simp; done) | (go_simp; rfl)); intro b2 hg w2 hbox hb; have HB2 := Aside0.mk (below_step HB1.out hb); have BX1 := Aside0.mk (blk_below BX.out hb); have BX2 := Aside0.mk hbox; clear hb hbox hg))
  go_ret
  exact ⟨b1, b2, rfl, BX1.out, BX2.out, HB2.out⟩
set_option maxRecDepth 100000 in
set_option maxHeartbeats 2000000 in
theorem bound_Longest.calls (A0 : Option Addr) (c0 : Nat) (l0 : List S28) (A1 : Option Addr) (c1 : Nat) (l1 : List S51) (r : Int) (w : World) (hr0 : Kd.C k28 w A0 l0.length l0) (hc0 : l0.length ≤ c0) (hr1 : Kd.C k51 w A1 l1.length l1) (hc1 : l1.length ≤ c1) (h : bound_Longest.f l0 l1 = some r) :
    Calls Try.prog 14 #[.slice A0 l0.length c0, .slice A1 l1.length c1] w fun e w' => e = .returned (.int .i64 r) ∧ Below w.heap.size w w' := by
  unfold bound_Longest.f at h
  by_cases hl : (l0.length < 1000000 ∧ l1.length < 1000000) ∧ ∀ d ∈ l0, d.f2.length < 1000000
  · rw [if_pos hl] at h
    obtain rfl := Option.some.inj h
    have HL := Aside0.mk hl
    have HR0 := Aside0.mk hr0
    have HR1 := Aside0.mk hr1
    clear hl hr0 hr1 h
    go_enter Try.func14, Try.ntmps14
    go_wp2_with (first | (go_at_call 27; refine (bound_waits.calls A0 c0 l0 A1 c1 l1 _).mono ?_; rintro e w1 ⟨b1, b2, rfl, h1, h2, hb⟩; have HB1 := Aside0.mk hb; have X1 := Aside0.mk h1; have X2 := Aside0.mk h2; clear hb h1 h2) | (go_at_call 26; refine (bound_greatest.calls 37 #[.pointer (some ⟨b1, 0, none⟩), .pointer (some ⟨b2, 0, none⟩)] (enters_of Try.func37 (by kernel_rfl) rfl) (waitL l0 l1) (waitL l0 l1).length _ (waits_stops b1 b2 A0 c0 l0 A1 c1 l1 _ X1.out X2.out (Kd.C_below HR0.out HB1.out) (Kd.C_below HR1.out HB1.out) HL.out.1.1 HL.out.1.2 HL.out.2)).mono ?_; rintro e w2 ⟨rfl, hb⟩; have HB2 := Aside0.mk hb; clear hb))
    go_ret
    exact ⟨rfl, below_step HB1.out HB2.out⟩
  · rw [if_neg hl] at h
    cases h
end Go.Proofs.Ytookpfpmobbhiaa.Q
end

section
namespace Go.Proofs.Ytookpfpmobbhiaa.Q
open Go.RowKit Go.Shelf Go.Proofs.YtookpfpmobbhiaaW.PrintWords Go.Proofs.YtookpfpmobbhiaaW.PrintLast Go.Proofs.YtookpfpmobbhiaaW.PrintMore
set_option linter.unusedVariables false
set_option linter.unusedSimpArgs false
attribute [local go_sem] Oper.semAt_some

def isLive (s : S44) : Bool := s.f3 == 0 || s.f3 == 1
def liveL (l : List S44) : List S44 := l.filter isLive
def encG (x : S44) : Array Value := #[.agg #[.int .i64 x.f0, .string x.f1, .int .i64 x.f2, .int .i64 x.f3, .int .i64 x.f4, .int .i64 x.f5, .bool x.f6, .int .i64 x.f7, .int .i64 x.f8]]
theorem rd_SG (l : List S44) (j : Nat) (h : j < l.length) : rd_T44 l (j : Int) = l[j] := by
  unfold rd_T44
  rw [Int.toNat_natCast, List.getD_eq_getElem?_getD, List.getElem?_eq_getElem h]
  rfl
theorem liveL_succ (l : List S44) (j : Nat) (h : j < l.length) : liveL (l.take (j + 1)) = liveL (l.take j) ++ (if isLive (rd_T44 l (j : Int)) = true then [rd_T44 l (j : Int)] else []) := by
  rw [rd_SG l j h]
  unfold liveL
  rw [List.take_succ_eq_append_getElem h, List.filter_append]
  congr 1
  simp only [List.filter]
  split <;> simp_all
theorem liveL_prefix (l : List S44) (j : Nat) : liveL (l.take j) <+: liveL l := by
  refine ⟨liveL (l.drop j), ?_⟩
  conv => rhs; rw [← List.take_append_drop j l]
  unfold liveL
  rw [List.filter_append]

set_option maxRecDepth 100000 in
set_option maxHeartbeats 4000000 in
theorem live_stops (b : Nat) (sd : Value) (A : Option Addr) (c : Nat) (nx : Int) (l0 : List S44) (w0 w : World) (hw : Below w0.heap.size w0 w) (hb : w.heap[b]? = some (.cells #[sd, .slice A l0.length c, .int .i64 nx] 25 (0, 0))) (hr : Kd.C k44 w0 A l0.length l0) (hl : l0.length < 1000000) :
    SeqStopsK Fence.wide 7 Try.prog 38 #[.pointer (some ⟨b, 0, none⟩)] encG (Below w0.heap.size) (fun ys => ys = liveL l0) (fun pre => pre <+: liveL l0) (liveL l0).length w := fun l J Jx W hW hJ hJx hY h0 => by
  have z1 : W.cell? ⟨b, 1, none⟩ = some (.slice A l0.length c) := (hW.cell (p := ⟨b, 1, none⟩) (blk_lt hb)).trans ((blk_cell hb 1).trans rfl)
  refine callsIn_of_wp Try.func38 rfl trivial ?_ rfl
  simp only [Try.ntmps38, List.size_toArray, List.length_cons, List.length_nil, Nat.reduceAdd, Nat.reduceSub, Array.replicate_succ, Array.replicate_zero, List.push_toArray, List.append_toArray, List.nil_append, List.cons_append]
  gi_wp2
  gi_loopw [8] (fun i wr => ∃ k : Nat, k ≤ l0.length ∧ i = .int .i64 k ∧ J (liveL (l0.take k)) wr ∧ Aside0 (Below w0.heap.size w0 wr)) (fun i _ => l0.length - (intOf i).toNat)
  case atStart => exact ⟨0, Nat.zero_le _, rfl, h0, ⟨hw.trans (hW.mono hw.size)⟩⟩
  case round =>
    obtain ⟨k, hk, rfl, hJs, HW⟩ := hrel
    by_cases hlt : k < l0.length
    · have HX := Aside0.mk (liveL_succ l0 k hlt)
      have HPX := Aside0.mk (liveL_prefix l0 (k + 1))
      obtain ⟨ad, e, x0, x1, x2, x3, x4, x5, x6, x7, x8⟩ := at_T44 hr (k : Int) (by omega) (by omega)
      cases e
      replace x0 := (HW.out.cell (World.block_lt_of_cell? w0 _ x0)).trans x0
      replace x1 := (HW.out.cell (World.block_lt_of_cell? w0 _ x1)).trans x1
      replace x2 := (HW.out.cell (World.block_lt_of_cell? w0 _ x2)).trans x2
      replace x3 := (HW.out.cell (World.block_lt_of_cell? w0 _ x3)).trans x3
      replace x4 := (HW.out.cell (World.block_lt_of_cell? w0 _ x4)).trans x4
      replace x5 := (HW.out.cell (World.block_lt_of_cell? w0 _ x5)).trans x5
      replace x6 := (HW.out.cell (World.block_lt_of_cell? w0 _ x6)).trans x6
      replace x7 := (HW.out.cell (World.block_lt_of_cell? w0 _ x7)).trans x7
      replace x8 := (HW.out.cell (World.block_lt_of_cell? w0 _ x8)).trans x8
      generalize rd_T44 l0 (k : Int) = x at *
      obtain ⟨i, hi⟩ : ∃ i : Int, (k : Int) = i := ⟨_, rfl⟩
      have HI := Aside0.mk hi
      have hp : (0 ≤ i) = True := eq_true (by omega)
      have hq : (i < (l0.length : Int)) = True := eq_true (by omega)
      have hqd : decide (i < (l0.length : Int)) = true := decide_eq_true (by omega)
      have HK := Aside0.mk (show wrap64 (i + 1) = ((k + 1 : Nat) : Int) by unfold wrap64; omega)
      rw [hi] at x0 x1 x2 x3 x4 x5 x6 x7 x8 ⊢
      clear hi
      gi_upto_region 3 with (fail)
      have b3 := blk_new wr (.cells #[.int .i64 x.f0, .string x.f1, .int .i64 x.f2, .int .i64 x.f3, .int .i64 x.f4, .int .i64 x.f5, .bool x.f6, .int .i64 x.f7, .int .i64 x.f8] 44)
      have hb3 : Below wr.heap.size wr (wr.alloc (.cells #[.int .i64 x.f0, .string x.f1, .int .i64 x.f2, .int .i64 x.f3, .int .i64 x.f4, .int .i64 x.f5, .bool x.f6, .int .i64 x.f7, .int .i64 x.f8] 44)) := (Below.refl _ wr).alloc (Nat.le_refl _) _
      have J3 := hJ _ wr _ none hJs (grown_of_below hb3 none) (fun r h => by cases h)
      have HW3 := Aside0.mk (HW.out.trans (hb3.mono HW.out.size))
      clear hb3 hJs x0 x1 x2 x3 x4 x5 x6 x7 x8 z1 HW
      generalize wr.alloc (.cells #[.int .i64 x.f0, .string x.f1, .int .i64 x.f2, .int .i64 x.f3, .int .i64 x.f4, .int .i64 x.f5, .bool x.f6, .int .i64 x.f7, .int .i64 x.f8] 44) = W3 at *
      generalize wr.heap.size = q at *
      have y0 : W3.cell? ⟨q, 0, none⟩ = some (.int .i64 x.f0) := (blk_cell b3 0).trans rfl
      have y1 : W3.cell? ⟨q, 1, none⟩ = some (.string x.f1) := (blk_cell b3 1).trans rfl
      have y2 : W3.cell? ⟨q, 2, none⟩ = some (.int .i64 x.f2) := (blk_cell b3 2).trans rfl
      have y3 : W3.cell? ⟨q, 3, none⟩ = some (.int .i64 x.f3) := (blk_cell b3 3).trans rfl
      have y4 : W3.cell? ⟨q, 4, none⟩ = some (.int .i64 x.f4) := (blk_cell b3 4).trans rfl
      have y5 : W3.cell? ⟨q, 5, none⟩ = some (.int .i64 x.f5) := (blk_cell b3 5).trans rfl
      have y6 : W3.cell? ⟨q, 6, none⟩ = some (.bool x.f6) := (blk_cell b3 6).trans rfl
      have y7 : W3.cell? ⟨q, 7, none⟩ = some (.int .i64 x.f7) := (blk_cell b3 7).trans rfl
      have y8 : W3.cell? ⟨q, 8, none⟩ = some (.int .i64 x.f8) := (blk_cell b3 8).trans rfl
      obtain ⟨M, hM⟩ : ∃ M, liveL (l0.take k) = M := ⟨_, rfl⟩
      rw [hM] at J3 HX
      clear hM
      by_cases hv : isLive x = true
      · have HZ := Aside0.mk (show liveL (l0.take (k + 1)) = M ++ [x] by rw [HX.out, if_pos hv])
        obtain ⟨fn, tmps, assign, body, hy, hR⟩ := hY M x W3 J3 (by have := HPX.out.length_le; rw [HZ.out] at this; simp at this; omega)
        dsimp only [encG] at hy
        by_cases c0 : x.f3 = 0
        · have c0a : (x.f3 == 0) = true := beq_iff_eq.mpr c0
          clear c0 hv
          gi_wp2
          refine hR.mono ?_
          rintro e w7 (⟨rfl, J7, hk7⟩ | ⟨rfl, Jx7⟩)
          · gi_wp2
            go_roundw
            case rel => exact ⟨k + 1, by omega, by rw [HK.out], by rw [HZ.out]; exact J7, ⟨HW3.out.trans hk7⟩⟩
            case measure => have := HI.out; simp [intOf, HK.out]; omega
          · gi_wp2
            refine bodyPost_ret (results_none rfl _ _ _) rfl ?_
            exact ⟨⟨_, rfl⟩, .inr ⟨_, by rw [← HZ.out]; exact HPX.out, Jx7⟩⟩
        have c0a : (x.f3 == 0) = false := beq_eq_false_iff_ne.mpr c0
        have c1a : (x.f3 == 1) = true := by
          unfold isLive at hv
          rw [c0a, Bool.false_or] at hv
          exact hv
        clear c0 hv
        gi_wp2
        refine hR.mono ?_
        rintro e w7 (⟨rfl, J7, hk7⟩ | ⟨rfl, Jx7⟩)
        · gi_wp2
          go_roundw
          case rel => exact ⟨k + 1, by omega, by rw [HK.out], by rw [HZ.out]; exact J7, ⟨HW3.out.trans hk7⟩⟩
          case measure => have := HI.out; simp [intOf, HK.out]; omega
        · gi_wp2
          refine bodyPost_ret (results_none rfl _ _ _) rfl ?_
          exact ⟨⟨_, rfl⟩, .inr ⟨_, by rw [← HZ.out]; exact HPX.out, Jx7⟩⟩
      · have HZ := Aside0.mk (show liveL (l0.take (k + 1)) = M by rw [HX.out, if_neg hv, List.append_nil])
        have hv' : isLive x = false := Bool.eq_false_iff.mpr hv
        have c0a : (x.f3 == 0) = false := by
          unfold isLive at hv'
          exact (Bool.or_eq_false_iff.1 hv').1
        have c1a : (x.f3 == 1) = false := by
          unfold isLive at hv'
          exact (Bool.or_eq_false_iff.1 hv').2
        clear hv hv'
        gi_wp2
        refine ⟨fun _ h => (by cases h), ?_⟩
        gi_wp2
        go_roundw
        case rel => exact ⟨k + 1, by omega, by rw [HK.out], by rw [HZ.out]; exact J3, HW3⟩
        case measure => have := HI.out; simp [intOf, HK.out]; omega
    · obtain rfl : k = l0.length := by omega
      have hd : decide ((l0.length : Int) < (l0.length : Int)) = false := decide_eq_false (by omega)
      gi_wp2
      go_end0
      exact ⟨⟨_, rfl⟩, .inl ⟨_, rfl, by rw [List.take_length] at hJs; exact hJs⟩⟩
theorem bound_live.calls (A0_0 : Option Addr) (c0_0 : Nat) (l0_0 : List S28) (A0_1 : Option Addr) (c0_1 : Nat) (l0_1 : List S44) (a0_2 : Int) (w : World) :
    Calls Try.prog 28 #[.agg #[.slice A0_0 l0_0.length c0_0, .slice A0_1 l0_1.length c0_1, .int .i64 a0_2]] w fun e w' => ∃ b : Nat, e = .returned (.func (.func 38) #[] #[.pointer (some ⟨b, 0, none⟩)]) ∧ w'.heap[b]? = some (.cells #[.slice A0_0 l0_0.length c0_0, .slice A0_1 l0_1.length c0_1, .int .i64 a0_2] 25 (0, 0)) ∧ Below w.heap.size w w' := by
  have HB := Aside0.mk (Below.refl w.heap.size w)
  go_enter Try.func28, Try.ntmps28
  go_wp2_with (first | ((with_reducible refine gate_dst (N := 1) rfl ?_); refine box_event ?hg (N := 1) ?hd (cs := #[.slice A0_0 l0_0.length c0_0, .slice A0_1 l0_1.length c0_1, .int .i64 a0_2]) (t := 25) ?hr ?_; (case hd => rfl); (case hg => rfl); (case hr => first | (go_simp; done) | (go_simp; rfl)); intro b1 hg w1 hbox hb; have HB1 := Aside0.mk hb; have BX := Aside0.mk hbox; clear hb hbox hg))
  go_ret
  exact ⟨b1, rfl, BX.out, HB1.out⟩
def bound_Live.f (l0_0 : List S28) (l0_1 : List S44) (a0_2 : Int) : Option Int := if l0_1.length < 1000000 then some ((liveL l0_1).length : Int) else none
set_option maxRecDepth 100000 in
set_option maxHeartbeats 2000000 in
theorem bound_Live.calls (A0_0 : Option Addr) (c0_0 : Nat) (l0_0 : List S28) (A0_1 : Option Addr) (c0_1 : Nat) (l0_1 : List S44) (a0_2 : Int) (r : Int) (w : World) (hr0_0 : Kd.C k28 w A0_0 l0_0.length l0_0) (hc0_0 : l0_0.length ≤ c0_0) (hr0_1 : Kd.C k44 w A0_1 l0_1.length l0_1) (hc0_1 : l0_1.length ≤ c0_1) (h : bound_Live.f l0_0 l0_1 a0_2 = some r) :
    Calls Try.prog 15 #[.agg #[.slice A0_0 l0_0.length c0_0, .slice A0_1 l0_1.length c0_1, .int .i64 a0_2]] w fun e w' => e = .returned (.int .i64 r) ∧ Below w.heap.size w w' := by
  unfold bound_Live.f at h
  by_cases hl : l0_1.length < 1000000
  · rw [if_pos hl] at h
    obtain rfl := Option.some.inj h
    clear h
    have hln : (liveL l0_1).length ≤ 1000000 := by unfold liveL; have := List.length_filter_le isLive l0_1; omega
    refine (callsIn_wide (n := 8)).1 ?_
    refine callsIn_of_wp_marks Try.func15 rfl trivial ?_ rfl
    simp only [Try.ntmps15, List.size_toArray, List.length_cons, List.length_nil, Nat.reduceAdd, Nat.reduceSub, Array.replicate_succ, Array.replicate_zero, List.push_toArray, List.append_toArray, List.nil_append, List.cons_append]
    have hfn : Fence.wide.fn 28 := trivial
    gi_wp2_with (gi_at_call 28; refine (callsIn_wide.2 (bound_live.calls A0_0 c0_0 l0_0 A0_1 c0_1 l0_1 a0_2 _)).mono ?_; rintro e w1 ⟨b, rfl, hbx, hb⟩)
    have hz : w1.heap[w.heap.size + 1]? = some (.cells #[.int .i64 0] 3 (0, 0)) := (hb.block _ (by simp)).trans (by have := blk_new (w.alloc (.cells #[.slice A0_0 l0_0.length c0_0, .slice A0_1 l0_1.length c0_1, .int .i64 a0_2] 25)) (.cells #[.int .i64 0] 3); rwa [World.size_alloc] at this)
    have hB1 : Below w.heap.size w w1 := (((Below.refl _ w).alloc (Nat.le_refl _) _).alloc (by simp) _).trans (hb.mono (by simp; omega))
    have hsz : w.heap.size + 2 ≤ w1.heap.size := by have := hb.size; simp at this; omega
    refine wpIn_rangeFunc_ownF rfl (by omega) (gf := 38) (lb := #[.pointer (some ⟨b, 0, none⟩)]) rfl trivial (enters_of Try.func38 (by kernel_rfl) rfl)
      (live_stops b (.slice A0_0 l0_0.length c0_0) A0_1 c0_1 a0_2 l0_1 w w1 hB1 hbx hr0_1 hl) belowK_t (belowK_b (by omega)) (Below.refl _ _) (fun _ => rfl)
      (fun pre W => (W.cell? ⟨w.heap.size + 1, 0, none⟩ = some (.int .i64 (pre.length : Int)) ∧ W.frozen? ⟨w.heap.size + 1, 0, none⟩ = false) ∧ Below w.heap.size w W)
      (fun _ _ _ => False)
      (OwnFrom.and (Own.from (fun s A B row hs hg hr => ⟨cell_kept hs.1 hg hr, (frozen_kept hs.1 hg hr).trans hs.2⟩) _) (ownFrom_below (Nat.le_refl _) (by omega)))
      (fun _ _ _ _ _ hs _ _ => hs)
      ⟨⟨(blk_cell hz 0).trans rfl, blk_frozen hz 0⟩, hB1⟩
      (fun x => { tmps := #[.agg #[.slice A0_0 l0_0.length c0_0, .slice A0_1 l0_1.length c0_1, .int .i64 a0_2], .pointer (some ⟨w.heap.size, 0, none⟩), .int .i64 0, .pointer (some ⟨w.heap.size + 1, 0, none⟩), .agg #[.slice A0_0 l0_0.length c0_0, .slice A0_1 l0_1.length c0_1, .int .i64 a0_2], .func (.func 38) #[] #[.pointer (some ⟨b, 0, none⟩)], .agg #[.int .i64 x.f0, .string x.f1, .int .i64 x.f2, .int .i64 x.f3, .int .i64 x.f4, .int .i64 x.f5, .bool x.f6, .int .i64 x.f7, .int .i64 x.f8], undef, undef, undef], defers := [] }) ?assign ?body ?done ?stop
    case assign =>
      intro l x W K hK
      gi_wp2
      simpa [encG] using hK
    case body =>
      rintro l pre x W ⟨⟨hc, hf⟩, hB⟩ hlen
      have hw : wrap64 ((pre.length : Int) + 1) = ((pre ++ [x]).length : Int) := by rw [List.length_append]; unfold wrap64; simp; omega
      gi_wp2
      exact ⟨KeepsOthers.setCell _ _ _, (Below.refl w.heap.size W).setCell (p := ⟨w.heap.size + 1, 0, none⟩) (Nat.le_succ _) _, ⟨by rw [show ((pre ++ [x]).length : Int) = (pre.length : Int) + 1 by simp]; exact World.cell?_setCell_same' _ _ _ (by rw [hc]; rfl), by rw [World.frozen?_setCell]; exact hf⟩, hB.setCell (p := ⟨w.heap.size + 1, 0, none⟩) (Nat.le_succ _) _⟩
    case done =>
      rintro D ys W hD rfl ⟨⟨hc, _⟩, hB⟩ hK
      gi_wp2
      refine ⟨by simp, .inl ⟨_, _, rfl, run_takeDeferred hK, ?_⟩⟩
      exact ⟨_, results_tmp rfl _ _ _, rfl, hB.trans (belowK_b (w := w) (Nat.le_refl _) W D _ _ (by omega) hK rfl rfl)⟩
    case stop =>
      rintro D c pre W _ _ h _
      exact h.elim
  · rw [if_neg hl] at h
    cases h
end Go.Proofs.Ytookpfpmobbhiaa.Q
end
