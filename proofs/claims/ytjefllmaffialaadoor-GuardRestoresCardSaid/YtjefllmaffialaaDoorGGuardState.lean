/- guard: a guard in memory; a breaker's steps in plain words. -/
import Derived.Test.YtjefllmaffialaaDoorGBreakerNew
import Derived.Test.YtjefllmaffialaaDoorQx8
import Derived.Test.YtjefllmaffialaaDoorQx12
import Derived.Test.YtjefllmaffialaaDoorQx10
import Derived.Test.YtjefllmaffialaaDoorGLabelGood
import Derived.Maps.OwnSet
import Derived.RangeFuncCalls
import Derived.Shelf.Abstract
import Derived.Shelf.RegionOpen
import Derived.OwnWalkIn
import Derived.TacticsInMore
import Derived.Sort.CutIn
import Derived.LoopNIn
import Derived.LoopIn
import Derived.Lib.SliceRun
import Derived.Lib.Hide
import Derived.Outline
import Derived.ArgAppend
namespace Go.Proofs.YtjefllmaffialaaDoor.Q
open Go.RowKit Go.Shelf Go.Proofs.YtjefllmaffialaaDoorW.PrintWords Go.Proofs.YtjefllmaffialaaDoorW.PrintLast Go.Proofs.YtjefllmaffialaaDoorW.PrintMore
set_option linter.unusedVariables false
set_option linter.unusedSimpArgs false

/-! #### a breaker -/
structure Bk where
  k0 : Int
  k1 : Int
  k2 : Int
  k3 : Int
  k4 : Int
  k5 : Int
  k6 : Int
def IsB (w0 W : World) (b : Nat) (k : Bk) : Prop := IsS59 w0 W b k.k0 k.k1 k.k2 k.k3 k.k4 k.k5 k.k6
theorem IsB.below {w0 W W' : World} {b : Nat} {k : Bk} (h : IsB w0 W b k) (hb : Below W.heap.size W W') : IsB w0 W' b k := IsS59.below h hb
theorem IsB.keep {w0 W W' : World} {b b' : Nat} {k : Bk} (h : IsB w0 W b k) (hk : KeepBut W W' b' none) (hne : b ≠ b') : IsB w0 W' b k := ⟨hk.blk h.1 hne (by simp), h.2⟩
theorem IsB.uniq {w0 W : World} {b : Nat} {k k' : Bk} (h : IsB w0 W b k) (h' : IsB w0 W b k') : k = k' := by
  have e := h.1.symm.trans h'.1
  cases k
  cases k'
  simp at e
  simp [e]
def dueB (now u : Int) : Bool := decide (mn (mx u 0) 1099511627776 ≤ mn (mx now 0) 1099511627776)
def stB (k : Bk) (now : Int) : Int := if k.k3 = 0 then 0 else if dueB now k.k5 = true then 2 else 1
def mayB (k : Bk) (now : Int) : Bool := if stB k now = 0 then true else if stB k now = 2 then decide (k.k6 < k.k2) else false
theorem state_f (k : Bk) (now : Int) : breaker_Breaker_State.f k.k0 k.k1 k.k2 k.k3 k.k4 k.k5 k.k6 now = some (stB k now, k.k0, k.k1, k.k2, k.k3, k.k4, k.k5, k.k6) := by
  unfold breaker_Breaker_State.f tick_Due.f tick_Of.f stB
  by_cases h : k.k3 = 0
  · rw [if_pos h, if_pos h]
  · rw [if_neg h, if_neg h]
    simp only [Option.bind_some]
    show (if dueB now k.k5 = true then _ else _) = _
    by_cases hd : dueB now k.k5 = true
    · rw [if_pos hd, if_pos hd]
    · rw [if_neg hd, if_neg hd]
theorem may_f' (k : Bk) (now : Int) : breaker_Breaker_May.f k.k0 k.k1 k.k2 k.k3 k.k4 k.k5 k.k6 now = some (mayB k now, k.k0, k.k1, k.k2, k.k3, k.k4, k.k5, k.k6) := by
  unfold breaker_Breaker_May.f mayB
  rw [state_f, Option.bind_some]
  dsimp only
  split
  · rfl
  · split <;> rfl
theorem mk7 (a b c d e f g : Int) : ∃ k' : Bk, some (a, b, c, d, e, f, g) = some (k'.k0, k'.k1, k'.k2, k'.k3, k'.k4, k'.k5, k'.k6) := ⟨⟨a, b, c, d, e, f, g⟩, rfl⟩
theorem mk8 (r : Bool) (a b c d e f g : Int) : ∃ r' k', some (r, a, b, c, d, e, f, g) = some (r', Bk.k0 k', Bk.k1 k', Bk.k2 k', Bk.k3 k', Bk.k4 k', Bk.k5 k', Bk.k6 k') := ⟨r, ⟨a, b, c, d, e, f, g⟩, rfl⟩
theorem send_f (k : Bk) (now : Int) : ∃ r k', breaker_Breaker_Send.f k.k0 k.k1 k.k2 k.k3 k.k4 k.k5 k.k6 now = some (r, Bk.k0 k', Bk.k1 k', Bk.k2 k', Bk.k3 k', Bk.k4 k', Bk.k5 k', Bk.k6 k') := by
  unfold breaker_Breaker_Send.f
  rw [may_f', Option.bind_some]
  dsimp only
  split
  · rw [state_f, Option.bind_some]
    dsimp only
    split
    · exact mk8 _ _ _ _ _ _ _ _
    · exact mk8 _ _ _ _ _ _ _ _
  · exact mk8 _ _ _ _ _ _ _ _
theorem lost_f (k : Bk) (now : Int) : ∃ k', breaker_Breaker_Lost.f k.k0 k.k1 k.k2 k.k3 k.k4 k.k5 k.k6 now = some (Bk.k0 k', Bk.k1 k', Bk.k2 k', Bk.k3 k', Bk.k4 k', Bk.k5 k', Bk.k6 k') := by
  unfold breaker_Breaker_Lost.f
  rw [state_f, Option.bind_some]
  dsimp only
  split
  · exact mk7 _ _ _ _ _ _ _
  · exact mk7 _ _ _ _ _ _ _
theorem done_f (k : Bk) (now : Int) (s : Bool) : ∃ k', breaker_Breaker_Done.f k.k0 k.k1 k.k2 k.k3 k.k4 k.k5 k.k6 now s = some (Bk.k0 k', Bk.k1 k', Bk.k2 k', Bk.k3 k', Bk.k4 k', Bk.k5 k', Bk.k6 k') := by
  unfold breaker_Breaker_Done.f breaker_Breaker_closes.f breaker_Breaker_trips.f tick_Add.f tick_Of.f
  rw [state_f, Option.bind_some]
  simp only [Option.bind_some]
  repeat' split
  all_goals exact mk7 _ _ _ _ _ _ _

theorem b_State (w0 W : World) (b : Nat) (k : Bk) (now : Int) (h : IsB w0 W b k) (hb : Below w0.heap.size w0 W) :
    Calls Tryd.prog 18 #[.pointer (some ⟨b, 0, none⟩), .int .i64 now] W fun e W' => e = .returned (.int .i64 (stB k now)) ∧ IsB w0 W' b k ∧ Below w0.heap.size w0 W' ∧ KeepBut W W' b none := by
  refine (breaker_Breaker_State.calls b _ _ _ _ _ _ _ now _ _ _ _ _ _ _ _ w0 W h hb (state_f k now)).mono ?_
  rintro e W' ⟨he, hi, hb', hk⟩
  exact ⟨he, hi, hb', hk⟩
theorem b_May (w0 W : World) (b : Nat) (k : Bk) (now : Int) (h : IsB w0 W b k) (hb : Below w0.heap.size w0 W) :
    Calls Tryd.prog 22 #[.pointer (some ⟨b, 0, none⟩), .int .i64 now] W fun e W' => e = .returned (.bool (mayB k now)) ∧ IsB w0 W' b k ∧ Below w0.heap.size w0 W' ∧ KeepBut W W' b none := by
  refine (breaker_Breaker_May.calls b _ _ _ _ _ _ _ now _ _ _ _ _ _ _ _ w0 W h hb (may_f' k now)).mono ?_
  rintro e W' ⟨he, hi, hb', hk⟩
  exact ⟨he, hi, hb', hk⟩
theorem b_Send (w0 W : World) (b : Nat) (k : Bk) (now : Int) (h : IsB w0 W b k) (hb : Below w0.heap.size w0 W) :
    Calls Tryd.prog 19 #[.pointer (some ⟨b, 0, none⟩), .int .i64 now] W fun e W' => ∃ r k', e = .returned (.bool r) ∧ IsB w0 W' b k' ∧ Below w0.heap.size w0 W' ∧ KeepBut W W' b none := by
  obtain ⟨r, k', hf⟩ := send_f k now
  refine (breaker_Breaker_Send.calls b _ _ _ _ _ _ _ now _ _ _ _ _ _ _ _ w0 W h hb hf).mono ?_
  rintro e W' ⟨he, hi, hb', hk⟩
  exact ⟨r, k', he, hi, hb', hk⟩
theorem b_Lost (w0 W : World) (b : Nat) (k : Bk) (now : Int) (h : IsB w0 W b k) (hb : Below w0.heap.size w0 W) :
    Calls Tryd.prog 20 #[.pointer (some ⟨b, 0, none⟩), .int .i64 now] W fun e W' => ∃ k', e = .returned (.tuple #[]) ∧ IsB w0 W' b k' ∧ Below w0.heap.size w0 W' ∧ KeepBut W W' b none := by
  obtain ⟨k', hf⟩ := lost_f k now
  refine (breaker_Breaker_Lost.calls b _ _ _ _ _ _ _ now _ _ _ _ _ _ _ w0 W h hb hf).mono ?_
  rintro e W' ⟨he, hi, hb', hk⟩
  exact ⟨k', he, hi, hb', hk⟩
theorem b_Done (w0 W : World) (b : Nat) (k : Bk) (now : Int) (s : Bool) (h : IsB w0 W b k) (hb : Below w0.heap.size w0 W) :
    Calls Tryd.prog 21 #[.pointer (some ⟨b, 0, none⟩), .int .i64 now, .bool s] W fun e W' => ∃ k', e = .returned (.tuple #[]) ∧ IsB w0 W' b k' ∧ Below w0.heap.size w0 W' ∧ KeepBut W W' b none := by
  obtain ⟨k', hf⟩ := done_f k now s
  refine (breaker_Breaker_Done.calls b _ _ _ _ _ _ _ now s _ _ _ _ _ _ _ w0 W h hb hf).mono ?_
  rintro e W' ⟨he, hi, hb', hk⟩
  exact ⟨k', he, hi, hb', hk⟩

/-! #### a guard -/
/-- A party, its breaker's block, how many are in flight. -/
structure Gt where
  b : Nat
  p : S37
  fl : Int
def rowg (x : Gt) : List Value := [.pointer (some ⟨x.b, 0, none⟩), .string x.p.f0, .int .i64 x.p.f1, .int .i64 x.p.f2, .int .i64 x.p.f3, .int .i64 x.p.f4, .int .i64 x.fl]
/-- A party whose numbers are right. -/
def okP (p : S37) : Prop := 1 ≤ p.f1 ∧ p.f1 ≤ 10000 ∧ newOk p.f2 p.f3 p.f4 = true
def HasMap (W : World) (m n : Nat) (D : DataW Unit) : Prop := W.ownsMap Tryd.prog 9 (plainElem Tryd.prog 3) m n D
def IsGd (w0 W : World) (g : Nat) (gs : List Gt) : Prop :=
  ∃ v m n D, W.heap[g]? = some (.cells #[v, .map (some m)] 43 (0, 0)) ∧ w0.heap.size ≤ g ∧ (Kd.raw 7).R 49 W w0.heap.size (fun _ => True) v (gs.map rowg) ∧ (HasMap W m n D ∧ n ≤ gs.length ∧ w0.heap.size ≤ m) ∧ ∀ x ∈ gs, (∃ k, IsB w0 W x.b k) ∧ okP x.p
theorem HasMap.step {W W' : World} {m n : Nat} {D : DataW Unit} (h : HasMap W m n D) (e : W'.heap[m]? = W.heap[m]?) : HasMap W' m n D := by
  obtain ⟨es, clock, hb, F, hs, hD⟩ := h
  exact ⟨es, clock, e.trans hb, F, hs, hD⟩
theorem HasMap.ne {W : World} {m n : Nat} {D : DataW Unit} (h : HasMap W m n D) {b : Nat} {cs : Array Value} {t : TypeId} {fr : Nat × Nat} (hb : W.heap[b]? = some (.cells cs t fr)) : m ≠ b := by
  rintro rfl
  obtain ⟨es, clock, hm, _⟩ := h
  rw [hm] at hb
  cases hb
theorem HasMap.lt {W : World} {m n : Nat} {D : DataW Unit} (h : HasMap W m n D) : m < W.heap.size := World.ownsMap.lt h
theorem IsGd.below {w0 W W' : World} {g : Nat} {gs : List Gt} (h : IsGd w0 W g gs) (hb : Below W.heap.size W W') : IsGd w0 W' g gs := by
  obtain ⟨v, m, n, D, h1, h2, h3, h4, h5⟩ := h
  exact ⟨v, m, n, D, blk_below h1 hb, h2, Kd.R_below h3 hb, ⟨h4.1.step (hb.block m h4.1.lt), h4.2⟩, fun x hx => ⟨(h5 x hx).1.imp (fun k hk => hk.below hb), (h5 x hx).2⟩⟩
/-- A breaker's step. -/
theorem IsGd.stepB {w0 W W' : World} {g b : Nat} {gs : List Gt} {k k' : Bk} (h : IsGd w0 W g gs) (hb : IsB w0 W b k) (hb' : IsB w0 W' b k') (hk : KeepBut W W' b none) : IsGd w0 W' g gs := by
  obtain ⟨v, m, n, D, h1, h2, h3, h4, h5⟩ := h
  refine ⟨v, m, n, D, hk.blk h1 (blk_ne h1 hb.1 (by decide)) (by simp), h2, Kd.R_mono (Kd.R_keep (Kd.R_types h3 hb.1 (by decide)) hk (fun q hq => hq.2)) (fun _ _ => trivial), ⟨h4.1.step (hk.2 m h4.1.lt (h4.1.ne hb.1) (by simp)), h4.2⟩, fun x hx => ⟨?_, (h5 x hx).2⟩⟩
  by_cases e : x.b = b
  · rw [e]; exact ⟨k', hb'⟩
  · obtain ⟨kx, hx'⟩ := (h5 x hx).1
    exact ⟨kx, hx'.keep hk e⟩
/-- What a call leaves of the law's own acts. -/
def K31 (W W' : World) : Prop := ∀ (q : Nat) (cs : Array Value), W.heap[q]? = some (Obj.cells cs 31 (0, 0)) → W'.heap[q]? = some (Obj.cells cs 31 (0, 0))
theorem K31.refl (W : World) : K31 W W := fun _ _ h => h
theorem K31.trans {W W' W'' : World} (h : K31 W W') (h' : K31 W' W'') : K31 W W'' := fun q cs hq => h' q cs (h q cs hq)
theorem K31.of_below {W W' : World} (h : Below W.heap.size W W') : K31 W W' := fun _ _ hq => blk_below hq h
theorem K31.of_keep {w0 W W' : World} {b : Nat} {k : Bk} (hb : IsB w0 W b k) (hk : KeepBut W W' b none) : K31 W W' := fun _ _ hq => hk.blk hq (blk_ne hq hb.1 (by decide)) (by simp)
theorem K31.set {W : World} {a : Nat} (h : ∀ (q : Nat) (cs : Array Value), W.heap[q]? = some (Obj.cells cs 31 (0, 0)) → q ≠ a) (j : Nat) (u : Value) : K31 W (W.setCell ⟨a, j, none⟩ u) := fun q cs hq => blk_far hq (h q cs hq) u
/-- A party's row. -/
theorem IsGd.row {w0 W : World} {g : Nat} {gs : List Gt} (h : IsGd w0 W g gs) (j : Nat) (hj : j < gs.length) (i : Int) (hi : i.toNat = j) (h0 : 0 ≤ i) :
    ∃ a cap m, W.heap[g]? = some (.cells #[.slice (some ⟨a, 0, none⟩) gs.length cap, .map (some m)] 43 (0, 0)) ∧ (∀ q u, (rowg gs[j])[q]? = some u → W.cell? ⟨a, i.toNat * 7 + q, none⟩ = some u) ∧ (∀ q, W.frozen? ⟨a, i.toNat * 7 + q, none⟩ = false) ∧ (∃ k, IsB w0 W gs[j].b k) ∧ okP gs[j].p ∧ w0.heap.size ≤ a ∧
      (∀ fl : Int, IsGd w0 (W.setCell ⟨a, i.toNat * 7 + 6, none⟩ (.int .i64 fl)) g (gs.set j ⟨gs[j].b, gs[j].p, fl⟩)) ∧
      (∀ (b' : Nat) (fl : Int) (k' : Bk), IsB w0 W b' k' → IsGd w0 ((W.setCell ⟨a, i.toNat * 7 + 6, none⟩ (.int .i64 fl)).setCell ⟨a, i.toNat * 7, none⟩ (.pointer (some ⟨b', 0, none⟩))) g (gs.set j ⟨b', gs[j].p, fl⟩)) ∧ g ≠ a ∧ (∀ b' k', IsB w0 W b' k' → b' ≠ a) ∧ (∀ (q : Nat) (cs : Array Value), W.heap[q]? = some (Obj.cells cs 31 (0, 0)) → q ≠ a) := by
  obtain ⟨v, m, n, D, h1, h2, h3, h4, h5⟩ := h
  obtain ⟨a, cap, rfl, ha, hal, cs, hac⟩ := Kd.R_form h3 (by rw [List.length_map]; omega)
  rw [List.length_map] at h1 h3
  have h1' : i < (gs.length : Int) := by omega
  obtain ⟨c, hcl, hM, hcc, hfr⟩ := Kd.R_elem h3 [] i h0 h1'
  have hc : c = rowg gs[j] := by
    have h6 : c = (gs.map rowg).getD i.toNat [] := hM.1
    rw [hi, List.getD_eq_getElem?_getD, List.getElem?_map, List.getElem?_eq_getElem hj] at h6
    exact h6
  subst hc
  have hx := h5 gs[j] (List.getElem_mem hj)
  have hset : ∀ x' : Gt, (gs.map rowg).set j (rowg x') = (gs.set j x').map rowg := fun x' => by rw [List.map_set]
  have hrest : ∀ (W' : World) (x' : Gt), (∀ q, q ≠ a → W'.heap[q]? = W.heap[q]?) → (Kd.raw 7).R 49 W' w0.heap.size (fun _ => True) (.slice (some ⟨a, 0, none⟩) gs.length cap) ((gs.set j x').map rowg) → (∃ k, IsB w0 W' x'.b k) → okP x'.p → IsGd w0 W' g (gs.set j x') := by
    intro W' x' hW hR hk hp
    refine ⟨_, m, n, D, (hW g (blk_ne h1 hac (by decide))).trans h1, h2, hR, ⟨h4.1.step (hW m (h4.1.ne hac)), by rw [List.length_set]; exact h4.2.1, h4.2.2⟩, fun x hx' => ?_⟩
    rcases List.mem_or_eq_of_mem_set hx' with hx' | rfl
    · obtain ⟨⟨k, hk⟩, hp⟩ := h5 x hx'
      exact ⟨⟨k, (hW x.b (blk_ne hk.1 hac (by decide))).trans hk.1, hk.2⟩, hp⟩
    · exact ⟨hk, hp⟩
  have hone : ∀ x' : Gt, ∀ u ∈ rowg x', u.oneCell' = true := fun x' u hu => by
    simp [rowg] at hu
    rcases hu with rfl | rfl | rfl | rfl | rfl | rfl | rfl <;> rfl
  have s1 : ∀ fl : Int, (Kd.raw 7).R 49 (W.setCell ⟨a, i.toNat * 7 + 6, none⟩ (.int .i64 fl)) w0.heap.size (fun _ => True) (.slice (some ⟨a, 0, none⟩) gs.length cap) ((gs.set j ⟨gs[j].b, gs[j].p, fl⟩).map rowg) := fun fl => by
    have h6 := (Kd.R_seg h3 i h0 h1' (c := rowg gs[j]) (seg := [.int .i64 fl]) (j := 6) (x' := rowg ⟨gs[j].b, gs[j].p, fl⟩) (okp := fun _ => False) hcl hcc (show 6 + 1 ≤ 7 by decide) ⟨rfl, rfl, hone ⟨gs[j].b, gs[j].p, fl⟩⟩ (fun _ hk => hk.elim)).1
    rw [hi, hset] at h6
    rw [hi]
    exact h6
  refine ⟨a, cap, m, h1, hcc, hfr, hx.1, hx.2, ha, fun fl => ?_, fun b' fl k' hb' => ?_, blk_ne h1 hac (by decide), fun b' k' hb' => blk_ne hb'.1 hac (by decide), fun q cs hq => blk_ne hq hac (by decide)⟩
  · refine hrest _ _ (fun q hq => Below.heap_setCell _ _ _ q hq) (s1 fl) ?_ hx.2
    obtain ⟨k, hk⟩ := hx.1
    exact ⟨k, (Below.heap_setCell _ _ _ _ (blk_ne hk.1 hac (by decide))).trans hk.1, hk.2⟩
  · have h3' := s1 fl
    obtain ⟨c', hcl', hM', hcc', _⟩ := Kd.R_elem h3' [] i h0 h1'
    have hc' : c' = rowg ⟨gs[j].b, gs[j].p, fl⟩ := by
      have h6 : c' = ((gs.set j ⟨gs[j].b, gs[j].p, fl⟩).map rowg).getD i.toNat [] := hM'.1
      rw [hi, List.getD_eq_getElem?_getD, List.getElem?_map, List.getElem?_set_self hj] at h6
      exact h6
    subst hc'
    have h6 := (Kd.R_seg h3' i h0 h1' (c := rowg ⟨gs[j].b, gs[j].p, fl⟩) (seg := [.pointer (some ⟨b', 0, none⟩)]) (j := 0) (x' := rowg ⟨b', gs[j].p, fl⟩) (okp := fun _ => False) hcl' hcc' (show 0 + 1 ≤ 7 by decide) ⟨rfl, rfl, hone ⟨b', gs[j].p, fl⟩⟩ (fun _ hk => hk.elim)).1
    rw [hi, ← List.map_set, List.set_set] at h6
    rw [hi]
    have hne := blk_ne hb'.1 hac (by decide)
    refine hrest _ ⟨b', gs[j].p, fl⟩ (fun q hq => ?_) h6 ⟨k', ?_, hb'.2⟩ hx.2
    · rw [Below.heap_setCell _ _ _ q hq, Below.heap_setCell _ _ _ q hq]
    · rw [Below.heap_setCell _ _ _ _ hne, Below.heap_setCell _ _ _ _ hne]
      exact hb'.1
theorem IsGd.rowAt {w0 W : World} {g : Nat} {gs : List Gt} (h : IsGd w0 W g gs) (j : Nat) (hj : j < gs.length) (i : Int) (hi : i.toNat = j) (h0 : 0 ≤ i) {a n cap : Nat} {mv : Value} (hg : W.heap[g]? = some (.cells #[.slice (some ⟨a, 0, none⟩) n cap, mv] 43 (0, 0))) :
    (∀ q u, (rowg gs[j])[q]? = some u → W.cell? ⟨a, i.toNat * 7 + q, none⟩ = some u) ∧ (∀ q, W.frozen? ⟨a, i.toNat * 7 + q, none⟩ = false) ∧ (∃ k, IsB w0 W gs[j].b k) ∧ okP gs[j].p ∧ w0.heap.size ≤ a ∧
      (∀ fl : Int, IsGd w0 (W.setCell ⟨a, i.toNat * 7 + 6, none⟩ (.int .i64 fl)) g (gs.set j ⟨gs[j].b, gs[j].p, fl⟩)) ∧
      (∀ (b' : Nat) (fl : Int) (k' : Bk), IsB w0 W b' k' → IsGd w0 ((W.setCell ⟨a, i.toNat * 7 + 6, none⟩ (.int .i64 fl)).setCell ⟨a, i.toNat * 7, none⟩ (.pointer (some ⟨b', 0, none⟩))) g (gs.set j ⟨b', gs[j].p, fl⟩)) ∧ g ≠ a ∧ (∀ b' k', IsB w0 W b' k' → b' ≠ a) ∧ (∀ (q : Nat) (cs : Array Value), W.heap[q]? = some (Obj.cells cs 31 (0, 0)) → q ≠ a) := by
  obtain ⟨a', cap', m', hg', h'⟩ := h.row j hj i hi h0
  have e := hg.symm.trans hg'
  simp at e
  obtain ⟨⟨rfl, _, _⟩, _⟩ := e
  exact h'
/-- What holds the gates. -/
theorem IsGd.head {w0 W : World} {g : Nat} {gs : List Gt} (h : IsGd w0 W g gs) : ∃ A cap m n D, W.heap[g]? = some (.cells #[.slice A gs.length cap, .map (some m)] 43 (0, 0)) ∧ HasMap W m n D := by
  obtain ⟨v, m, n, D, h1, h2, h3, h4, h5⟩ := h
  obtain ⟨A, cap, rfl, _, _⟩ := Kd.R_reads h3
  rw [List.length_map] at h1
  exact ⟨A, cap, m, n, D, h1, h4.1⟩
end Go.Proofs.YtjefllmaffialaaDoor.Q
