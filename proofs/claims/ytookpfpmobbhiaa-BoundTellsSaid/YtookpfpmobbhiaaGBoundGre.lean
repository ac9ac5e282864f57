/- bound.greatest: a range over a function value that has its contract. -/
import Derived.Test.YtookpfpmobbhiaaGBoundSum
import Derived.Test.YtookpfpmobbhiaaQx1
namespace Go.Proofs.Ytookpfpmobbhiaa.Q
open Go.RowKit Go.Shelf Go.Proofs.YtookpfpmobbhiaaW.PrintWords Go.Proofs.YtookpfpmobbhiaaW.PrintLast Go.Proofs.YtookpfpmobbhiaaW.PrintMore
set_option linter.unusedVariables false
set_option linter.unusedSimpArgs false
attribute [local go_sem] Oper.semAt_some

/-- What a round of a caller that writes its own cell (block n₀) alone keeps: what lay below, and every other cell. -/
def KpC (n₀ : Nat) (W W' : World) : Prop := Below n₀ W W' ∧ ∀ (k : Nat) (o : Obj), W.heap[k]? = some o → o.isCells = true → k ≠ n₀ → W'.heap[k]? = some o
theorem KpC_t {n₀ : Nat} {A B C : World} (h : KpC n₀ A B) (k : KpC n₀ B C) : KpC n₀ A C := ⟨h.1.trans k.1, fun i o hi ho hn => k.2 i o (h.2 i o hi ho hn) ho hn⟩
theorem KpC_b {n₀ : Nat} {w : World} (hB : n₀ ≤ w.heap.size) (W : World) (l : Nat) (o o' : Obj) (hl : w.heap.size ≤ l) (ho : W.heap[l]? = some o) (hc : o.isCells = false) (hw : o.isWalk = false) : KpC n₀ W (W.putObj l o') :=
  ⟨belowK_b (w := w) hB W l o o' hl ho hc hw, fun k q hk hq _ => by
    by_cases e : k = l
    · subst e
      rw [ho] at hk
      cases hk
      rw [hc] at hq
      cases hq
    · exact (World.putObj_heap_other e).trans hk⟩
theorem KpC_below {n₀ : Nat} {A B : World} (h : Below A.heap.size A B) (hn : n₀ ≤ A.heap.size) : KpC n₀ A B := ⟨h.mono hn, fun k o hk _ _ => (h.block k (Array.getElem?_eq_some_iff.1 hk).1).trans hk⟩
theorem KpC_set (n₀ : Nat) (W : World) (j : Nat) (v : Value) : KpC n₀ W (W.setCell ⟨n₀, j, none⟩ v) := ⟨(Below.refl n₀ W).setCell (p := ⟨n₀, j, none⟩) (Nat.le_refl _) _, fun k o hk _ hn => (Below.heap_setCell W ⟨n₀, j, none⟩ v k hn).trans hk⟩
theorem seq_mono {α : Type} {F : Fence} {n : Nat} {P : Program} {g : Nat} {lb : Array Value} {encs : α → Array Value} {Kp Kq : World → World → Prop} {S Sp : List α → Prop} {N : Nat} {w : World} (h : SeqStopsK F n P g lb encs Kp S Sp N w) (hk : ∀ A B, Kq A B → Kp A B) : SeqStopsK F n P g lb encs Kq S Sp N w :=
  fun l J Jx W hW hJ hJx hY h0 => h l J Jx W hW hJ hJx (fun pre x W1 hj hl => by
    obtain ⟨fn, tmps, a, b, hy, hR⟩ := hY pre x W1 hj hl
    refine ⟨fn, tmps, a, b, hy, hR.mono ?_⟩
    rintro e W' (⟨h1, h2, h3⟩ | h1)
    · exact .inl ⟨h1, h2, hk _ _ h3⟩
    · exact .inr h1) h0
def ofT (a : Int) : Int := mn (mx a 0) 1099511627776
theorem ofT_f (a : Int) : tick_Of.f a = some (ofT a) := rfl
def upT (n x : Int) : Int := if n < ofT x then ofT x else n
def greT (xs : List Int) : Int := xs.foldl upT 0
theorem greT_snoc (xs : List Int) (x : Int) : greT (xs ++ [x]) = upT (greT xs) x := by simp [greT]
attribute [local go_sem] max2_int min2_int max_two min_two
set_option maxRecDepth 100000 in
set_option maxHeartbeats 2000000 in
theorem bound_greatest.calls (gf : Nat) (lb : Array Value) (eg : ∀ args w, (callFunc gf args).run Try.prog w = .ok (.enter gf args) w) (xs : List Int) (N : Nat) (w : World)
    (hseq : SeqStopsK Fence.wide 7 Try.prog gf lb (fun x : Int => #[Value.int .i64 x]) (KpC w.heap.size) (fun ys => ys = xs) (fun pre => pre <+: xs) N (w.alloc (.cells #[.int .i64 0] 3))) :
    Calls Try.prog 26 #[.func (.func gf) #[] lb] w fun e w' => e = .returned (.int .i64 (greT xs)) ∧ Below w.heap.size w w' := by
  refine (callsIn_wide (n := 8)).1 ?_
  refine callsIn_of_wp_marks Try.func26 rfl trivial ?_ rfl
  simp only [Try.ntmps26, List.size_toArray, List.length_cons, List.length_nil, Nat.reduceAdd, Nat.reduceSub, Array.replicate_succ, Array.replicate_zero, List.push_toArray, List.append_toArray, List.nil_append, List.cons_append]
  gi_wp2
  have hs : (w.alloc (.cells #[.int .i64 0] 3)).cell? ⟨w.heap.size, 0, none⟩ = some (.int .i64 (greT [])) ∧ (w.alloc (.cells #[.int .i64 0] 3)).frozen? ⟨w.heap.size, 0, none⟩ = false := ⟨(blk_cell (blk_new w (.cells #[.int .i64 0] 3)) 0).trans rfl, blk_frozen (blk_new w (.cells #[.int .i64 0] 3)) 0⟩
  have hB0 : Below w.heap.size w (w.alloc (.cells #[.int .i64 0] 3)) := (Below.refl _ w).alloc (Nat.le_refl _) _
  refine wpIn_rangeFunc_ownF rfl (by omega) (gf := gf) (lb := lb) rfl trivial eg hseq KpC_t (KpC_b (by simp)) (Below.refl _ _) (fun _ => rfl)
    (fun pre W => (W.cell? ⟨w.heap.size, 0, none⟩ = some (.int .i64 (greT pre)) ∧ W.frozen? ⟨w.heap.size, 0, none⟩ = false) ∧ Below w.heap.size w W)
    (fun _ _ _ => False)
    (OwnFrom.and (Own.from (fun s A B row hs hg hr => ⟨cell_kept hs.1 hg hr, (frozen_kept hs.1 hg hr).trans hs.2⟩) _) (ownFrom_below (Nat.le_refl _) (by simp)))
    (fun _ _ _ _ _ hs _ _ => hs)
    ⟨hs, hB0⟩
    (fun x => { tmps := #[.func (.func gf) #[] lb, undef, .int .i64 0, .pointer (some ⟨w.heap.size, 0, none⟩), .int .i64 x, .func (.func gf) #[] lb, .int .i64 x, undef, undef, undef, undef, undef], defers := [] }) ?assign ?body ?done ?stop
  case assign =>
    intro l x W K hK
    gi_wp2
    exact hK
  case body =>
    rintro l pre x W ⟨⟨hc, hf⟩, hB⟩ _
    have hmx : Try.prog.follows .mixedOrders = true := by kernel_rfl
    gi_wp2
    gi_region_with_o (refine ⟨trivial, ?_⟩; gi_at_call 33; refine (CallsIn.inRound l (callsIn_wide.2 (tick_Of.calls _ _ _ (ofT_f _)))).mono ?_; rintro e w' ⟨rfl, hb⟩; have hc' := (hb.cell (World.block_lt_of_cell? _ _ hc)).trans hc; have hf' : w'.frozen? ⟨w.heap.size, 0, none⟩ = false := (frozen_below hb (World.block_lt_of_cell? _ _ hc)).trans hf)
    all_goals gi_wp2
    all_goals (try go_bits)
    all_goals have hbW : Below W.heap.size W w' := below_step (below_drew1 (Below.refl W.heap.size W)) hb
    all_goals exact ⟨(keepsO_below hbW).trans (KeepsOthers.setCell _ _ _), KpC_t (KpC_below hbW hB.size) (KpC_set _ _ _ _), ⟨by rw [greT_snoc, show upT (greT pre) x = _ from (by unfold upT; first | exact if_pos (by assumption) | exact if_neg (by omega))]; exact World.cell?_setCell_same' _ _ _ (by rw [hc']; rfl), by rw [World.frozen?_setCell]; exact hf'⟩, (hB.trans (hbW.mono hB.size)).setCell (p := ⟨w.heap.size, 0, none⟩) (Nat.le_refl _) _⟩
  case done =>
    rintro D ys W hD rfl ⟨⟨hc, _⟩, hB⟩ hK
    gi_wp2
    refine ⟨by simp, .inl ⟨_, _, rfl, run_takeDeferred hK, ?_⟩⟩
    exact ⟨_, results_tmp rfl _ _ _, rfl, hB.trans (belowK_b (w := w) (Nat.le_refl _) W D _ _ (by simp at hD; omega) hK rfl rfl)⟩
  case stop =>
    rintro D c pre W _ _ h _
    exact h.elim
end Go.Proofs.Ytookpfpmobbhiaa.Q
