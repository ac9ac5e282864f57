-- written for this claim by a program of the session
import Derived.Test.YtiohhfjocmibdaaQx0
import Derived.Test.YtiohhfjocmibdaaQx1
import Derived.Test.YtiohhfjocmibdaaQx4
namespace Go.Proofs.Ytiohhfjocmibdaa.Q
open Go.RowKit Go.Proofs.YtiohhfjocmibdaaW.PrintWords Go.Proofs.YtiohhfjocmibdaaW.PrintLast Go.Proofs.YtiohhfjocmibdaaW.PrintMore
attribute [local go_sem] max2_int min2_int max_two min_two max_three min_three max_four min_four   -- for this text's walks alone
set_option linter.unusedVariables false
set_option linter.unusedSimpArgs false

/-- A state of type 57 at block g of W; what its slices lead to came in by w0. -/
def IsS57 (w0 W : World) (g : Nat) (f0 : Int) (f1 : Int) (f2 : Int) (f3 : Int) (f4 : Int) (f5 : Int) (f6 : Int) : Prop := W.heap[g]? = some (.cells #[.int .i64 f0, .int .i64 f1, .int .i64 f2, .int .i64 f3, .int .i64 f4, .int .i64 f5, .int .i64 f6] 57 (0, 0)) ∧ w0.heap.size ≤ g
theorem IsS57.grown {w0 W : World} {g : Nat} {f0 : Int} {f1 : Int} {f2 : Int} {f3 : Int} {f4 : Int} {f5 : Int} {f6 : Int} {W1 : World} {row : Option Nat} (h : IsS57 w0 W g f0 f1 f2 f3 f4 f5 f6) (hw : W.grownBy W1 row) (hne : some g ≠ row) : IsS57 w0 W1 g f0 f1 f2 f3 f4 f5 f6 := by
  obtain ⟨hb, hg⟩ := h
  exact ⟨blk_grown hb hw hne, hg⟩
theorem IsS57.own_neN {w0 W : World} {g : Nat} {f0 : Int} {f1 : Int} {f2 : Int} {f3 : Int} {f4 : Int} {f5 : Int} {f6 : Int} {α : Type} {d : Kd α} {e : Nat} {base : Nat} {ok : Nat → Prop} {v : Value} {xs : List α} (h : IsS57 w0 W g f0 f1 f2 f3 f4 f5 f6) (ho : Kd.N d e W base ok v xs) (ht : e ≠ 57) : some g ≠ v.ownBlock := by
  obtain ⟨hb, hg⟩ := h
  exact Kd.N_ne ho hb ht
theorem IsS57.fresh {w0 W : World} {g : Nat} {f0 : Int} {f1 : Int} {f2 : Int} {f3 : Int} {f4 : Int} {f5 : Int} {f6 : Int} (h : IsS57 w0 W g f0 f1 f2 f3 f4 f5 f6) : ∀ k, W.heap.size ≤ k → k ≠ g := by
  obtain ⟨hb, hg⟩ := h
  exact Kd.freshB hb
theorem IsS57.kept {w0 W : World} {g : Nat} {f0 : Int} {f1 : Int} {f2 : Int} {f3 : Int} {f4 : Int} {f5 : Int} {f6 : Int} {W1 : World} {S : Nat → Prop} (h : IsS57 w0 W g f0 f1 f2 f3 f4 f5 f6) (hk : Kept W W1 S) (hne : ¬ S g) : IsS57 w0 W1 g f0 f1 f2 f3 f4 f5 f6 := by
  obtain ⟨hb, hg⟩ := h
  exact ⟨blk_kept hb hk hne, hg⟩
theorem IsS57.below {w0 W : World} {g : Nat} {f0 : Int} {f1 : Int} {f2 : Int} {f3 : Int} {f4 : Int} {f5 : Int} {f6 : Int} {W1 : World} (h : IsS57 w0 W g f0 f1 f2 f3 f4 f5 f6) (hw : Below W.heap.size W W1) : IsS57 w0 W1 g f0 f1 f2 f3 f4 f5 f6 := h.grown (grown_of_below hw none) (by simp)
theorem IsS57.alloc {w0 W : World} {g : Nat} {f0 : Int} {f1 : Int} {f2 : Int} {f3 : Int} {f4 : Int} {f5 : Int} {f6 : Int} (h : IsS57 w0 W g f0 f1 f2 f3 f4 f5 f6) (o : Obj) : IsS57 w0 (W.alloc o) g f0 f1 f2 f3 f4 f5 f6 := h.below (below_alloc (Below.refl _ _) o)
theorem IsS57.drewN {w0 W : World} {g : Nat} {f0 : Int} {f1 : Int} {f2 : Int} {f3 : Int} {f4 : Int} {f5 : Int} {f6 : Int} (h : IsS57 w0 W g f0 f1 f2 f3 f4 f5 f6) (m : Nat) : IsS57 w0 (W.drewN m) g f0 f1 f2 f3 f4 f5 f6 := h
theorem IsS57.drew {w0 W : World} {g : Nat} {f0 : Int} {f1 : Int} {f2 : Int} {f3 : Int} {f4 : Int} {f5 : Int} {f6 : Int} (h : IsS57 w0 W g f0 f1 f2 f3 f4 f5 f6) : IsS57 w0 W.drew g f0 f1 f2 f3 f4 f5 f6 := h
theorem IsS57.at_ {w0 W : World} {g : Nat} {f0 : Int} {f1 : Int} {f2 : Int} {f3 : Int} {f4 : Int} {f5 : Int} {f6 : Int} {w' : World} {m : Nat} (hq : W.drewN m = w') (h : IsS57 w0 W g f0 f1 f2 f3 f4 f5 f6) : IsS57 w0 w' g f0 f1 f2 f3 f4 f5 f6 := by subst hq; exact IsS57.drewN h m
theorem IsS57.apart {w0 W : World} {g : Nat} {f0 : Int} {f1 : Int} {f2 : Int} {f3 : Int} {f4 : Int} {f5 : Int} {f6 : Int} {α : Type} {d : Kd α} {e : Nat} {base : Nat} {ok : Nat → Prop} {v : Value} {xs : List α} (h : IsS57 w0 W g f0 f1 f2 f3 f4 f5 f6) (ho : d.R e W base ok v xs) (ht : ∀ q, q ∈ e :: d.E → q ≠ 57) : d.R e W base (fun k => ok k ∧ k ≠ g) v xs := by
  obtain ⟨hb, hg⟩ := h
  exact Kd.R_types ho hb ht
theorem IsS57.own_ne {w0 W : World} {g : Nat} {f0 : Int} {f1 : Int} {f2 : Int} {f3 : Int} {f4 : Int} {f5 : Int} {f6 : Int} {α : Type} {d : Kd α} {e : Nat} {base : Nat} {ok : Nat → Prop} {v : Value} {xs : List α} (h : IsS57 w0 W g f0 f1 f2 f3 f4 f5 f6) (ho : d.R e W base ok v xs) (ht : e ≠ 57) : some g ≠ v.ownBlock := by
  obtain ⟨hb, hg⟩ := h
  exact Kd.R_ne ho hb ht
theorem IsS57.apartQ {w0 W : World} {g : Nat} {f0 : Int} {f1 : Int} {f2 : Int} {f3 : Int} {f4 : Int} {f5 : Int} {f6 : Int} {α : Type} {d : Kd α} {e : Nat} {base : Nat} {ok : Nat → Prop} {v : Value} {xs : List α} (h : IsS57 w0 W g f0 f1 f2 f3 f4 f5 f6) (ho : d.Q e W base ok v xs) (ht : ∀ q, q ∈ e :: d.E → q ≠ 57) : d.Q e W base (fun k => ok k ∧ k ≠ g) v xs := by
  obtain ⟨hb, hg⟩ := h
  exact Kd.Q_types ho hb ht
theorem IsS57.own_neQ {w0 W : World} {g : Nat} {f0 : Int} {f1 : Int} {f2 : Int} {f3 : Int} {f4 : Int} {f5 : Int} {f6 : Int} {α : Type} {d : Kd α} {e : Nat} {base : Nat} {ok : Nat → Prop} {v : Value} {xs : List α} (h : IsS57 w0 W g f0 f1 f2 f3 f4 f5 f6) (ho : d.Q e W base ok v xs) (ht : e ≠ 57) : some g ≠ v.ownBlock := by
  obtain ⟨hb, hg⟩ := h
  exact Kd.Q_ne ho hb ht
theorem IsS57.apartS {w0 W : World} {g : Nat} {f0 : Int} {f1 : Int} {f2 : Int} {f3 : Int} {f4 : Int} {f5 : Int} {f6 : Int} {α : Type} {d : Kd α} {e : Nat} {base : Nat} {ok : Nat → Prop} {v : Value} {xs : List α} (h : IsS57 w0 W g f0 f1 f2 f3 f4 f5 f6) (ho : d.S e W base ok v xs) (ht : ∀ q, q ∈ e :: d.E → q ≠ 57) : d.S e W base (fun k => ok k ∧ k ≠ g) v xs := by
  obtain ⟨hb, hg⟩ := h
  exact Kd.S_types ho hb ht
theorem IsS57.own_neS {w0 W : World} {g : Nat} {f0 : Int} {f1 : Int} {f2 : Int} {f3 : Int} {f4 : Int} {f5 : Int} {f6 : Int} {α : Type} {d : Kd α} {e : Nat} {base : Nat} {ok : Nat → Prop} {v : Value} {xs : List α} (h : IsS57 w0 W g f0 f1 f2 f3 f4 f5 f6) (ho : d.S e W base ok v xs) (ht : e ≠ 57) : some g ≠ v.ownBlock := by
  obtain ⟨hb, hg⟩ := h
  exact Kd.S_ne ho hb ht
theorem IsS57.lt {w0 W : World} {g : Nat} {f0 : Int} {f1 : Int} {f2 : Int} {f3 : Int} {f4 : Int} {f5 : Int} {f6 : Int} (h : IsS57 w0 W g f0 f1 f2 f3 f4 f5 f6) : g < W.heap.size := by
  obtain ⟨hb, hg⟩ := h
  exact blk_lt hb
theorem IsS57.ge {w0 W : World} {g : Nat} {f0 : Int} {f1 : Int} {f2 : Int} {f3 : Int} {f4 : Int} {f5 : Int} {f6 : Int} (h : IsS57 w0 W g f0 f1 f2 f3 f4 f5 f6) : w0.heap.size ≤ g := by
  obtain ⟨hb, hg⟩ := h
  exact hg
theorem IsS57.ne_blk {w0 W : World} {g : Nat} {f0 : Int} {f1 : Int} {f2 : Int} {f3 : Int} {f4 : Int} {f5 : Int} {f6 : Int} {a : Nat} {cs : Array Value} {t : TypeId} {fr : Nat × Nat} (h : IsS57 w0 W g f0 f1 f2 f3 f4 f5 f6) (hb2 : W.heap[a]? = some (.cells cs t fr)) (ht : t ≠ 57) : g ≠ a := by
  obtain ⟨hb, hg⟩ := h
  rintro rfl
  rw [hb] at hb2
  injection hb2 with hb2
  injection hb2 with _ ht2
  exact ht ht2.symm
theorem IsS57.far {w0 W : World} {g : Nat} {f0 : Int} {f1 : Int} {f2 : Int} {f3 : Int} {f4 : Int} {f5 : Int} {f6 : Int} {p : Addr} (h : IsS57 w0 W g f0 f1 f2 f3 f4 f5 f6) (hne : g ≠ p.block) (u : Value) : IsS57 w0 (W.setCell p u) g f0 f1 f2 f3 f4 f5 f6 := by
  obtain ⟨hb, hg⟩ := h
  exact ⟨blk_far hb hne u, hg⟩
theorem cellS57_0 {W : World} {g : Nat} {f0 : Int} {f1 : Int} {f2 : Int} {f3 : Int} {f4 : Int} {f5 : Int} {f6 : Int} (h : W.heap[g]? = some (.cells #[.int .i64 f0, .int .i64 f1, .int .i64 f2, .int .i64 f3, .int .i64 f4, .int .i64 f5, .int .i64 f6] 57 (0, 0))) : W.cell? ⟨g, 0, none⟩ = some (.int .i64 f0) := (blk_cell h 0).trans rfl
theorem IsS57.set_0 {w0 W : World} {g : Nat} {f0 : Int} {f1 : Int} {f2 : Int} {f3 : Int} {f4 : Int} {f5 : Int} {f6 : Int} (h : IsS57 w0 W g f0 f1 f2 f3 f4 f5 f6) (x : Int) : IsS57 w0 (W.setCell ⟨g, 0, none⟩ (.int .i64 x)) g x f1 f2 f3 f4 f5 f6 := by
  obtain ⟨hb, hg⟩ := h
  exact ⟨by simpa using blk_set hb 0 (.int .i64 x), hg⟩
theorem cellS57_1 {W : World} {g : Nat} {f0 : Int} {f1 : Int} {f2 : Int} {f3 : Int} {f4 : Int} {f5 : Int} {f6 : Int} (h : W.heap[g]? = some (.cells #[.int .i64 f0, .int .i64 f1, .int .i64 f2, .int .i64 f3, .int .i64 f4, .int .i64 f5, .int .i64 f6] 57 (0, 0))) : W.cell? ⟨g, 1, none⟩ = some (.int .i64 f1) := (blk_cell h 1).trans rfl
theorem IsS57.set_1 {w0 W : World} {g : Nat} {f0 : Int} {f1 : Int} {f2 : Int} {f3 : Int} {f4 : Int} {f5 : Int} {f6 : Int} (h : IsS57 w0 W g f0 f1 f2 f3 f4 f5 f6) (x : Int) : IsS57 w0 (W.setCell ⟨g, 1, none⟩ (.int .i64 x)) g f0 x f2 f3 f4 f5 f6 := by
  obtain ⟨hb, hg⟩ := h
  exact ⟨by simpa using blk_set hb 1 (.int .i64 x), hg⟩
theorem cellS57_2 {W : World} {g : Nat} {f0 : Int} {f1 : Int} {f2 : Int} {f3 : Int} {f4 : Int} {f5 : Int} {f6 : Int} (h : W.heap[g]? = some (.cells #[.int .i64 f0, .int .i64 f1, .int .i64 f2, .int .i64 f3, .int .i64 f4, .int .i64 f5, .int .i64 f6] 57 (0, 0))) : W.cell? ⟨g, 2, none⟩ = some (.int .i64 f2) := (blk_cell h 2).trans rfl
theorem IsS57.set_2 {w0 W : World} {g : Nat} {f0 : Int} {f1 : Int} {f2 : Int} {f3 : Int} {f4 : Int} {f5 : Int} {f6 : Int} (h : IsS57 w0 W g f0 f1 f2 f3 f4 f5 f6) (x : Int) : IsS57 w0 (W.setCell ⟨g, 2, none⟩ (.int .i64 x)) g f0 f1 x f3 f4 f5 f6 := by
  obtain ⟨hb, hg⟩ := h
  exact ⟨by simpa using blk_set hb 2 (.int .i64 x), hg⟩
theorem cellS57_3 {W : World} {g : Nat} {f0 : Int} {f1 : Int} {f2 : Int} {f3 : Int} {f4 : Int} {f5 : Int} {f6 : Int} (h : W.heap[g]? = some (.cells #[.int .i64 f0, .int .i64 f1, .int .i64 f2, .int .i64 f3, .int .i64 f4, .int .i64 f5, .int .i64 f6] 57 (0, 0))) : W.cell? ⟨g, 3, none⟩ = some (.int .i64 f3) := (blk_cell h 3).trans rfl
theorem IsS57.set_3 {w0 W : World} {g : Nat} {f0 : Int} {f1 : Int} {f2 : Int} {f3 : Int} {f4 : Int} {f5 : Int} {f6 : Int} (h : IsS57 w0 W g f0 f1 f2 f3 f4 f5 f6) (x : Int) : IsS57 w0 (W.setCell ⟨g, 3, none⟩ (.int .i64 x)) g f0 f1 f2 x f4 f5 f6 := by
  obtain ⟨hb, hg⟩ := h
  exact ⟨by simpa using blk_set hb 3 (.int .i64 x), hg⟩
theorem cellS57_4 {W : World} {g : Nat} {f0 : Int} {f1 : Int} {f2 : Int} {f3 : Int} {f4 : Int} {f5 : Int} {f6 : Int} (h : W.heap[g]? = some (.cells #[.int .i64 f0, .int .i64 f1, .int .i64 f2, .int .i64 f3, .int .i64 f4, .int .i64 f5, .int .i64 f6] 57 (0, 0))) : W.cell? ⟨g, 4, none⟩ = some (.int .i64 f4) := (blk_cell h 4).trans rfl
theorem IsS57.set_4 {w0 W : World} {g : Nat} {f0 : Int} {f1 : Int} {f2 : Int} {f3 : Int} {f4 : Int} {f5 : Int} {f6 : Int} (h : IsS57 w0 W g f0 f1 f2 f3 f4 f5 f6) (x : Int) : IsS57 w0 (W.setCell ⟨g, 4, none⟩ (.int .i64 x)) g f0 f1 f2 f3 x f5 f6 := by
  obtain ⟨hb, hg⟩ := h
  exact ⟨by simpa using blk_set hb 4 (.int .i64 x), hg⟩
theorem cellS57_5 {W : World} {g : Nat} {f0 : Int} {f1 : Int} {f2 : Int} {f3 : Int} {f4 : Int} {f5 : Int} {f6 : Int} (h : W.heap[g]? = some (.cells #[.int .i64 f0, .int .i64 f1, .int .i64 f2, .int .i64 f3, .int .i64 f4, .int .i64 f5, .int .i64 f6] 57 (0, 0))) : W.cell? ⟨g, 5, none⟩ = some (.int .i64 f5) := (blk_cell h 5).trans rfl
theorem IsS57.set_5 {w0 W : World} {g : Nat} {f0 : Int} {f1 : Int} {f2 : Int} {f3 : Int} {f4 : Int} {f5 : Int} {f6 : Int} (h : IsS57 w0 W g f0 f1 f2 f3 f4 f5 f6) (x : Int) : IsS57 w0 (W.setCell ⟨g, 5, none⟩ (.int .i64 x)) g f0 f1 f2 f3 f4 x f6 := by
  obtain ⟨hb, hg⟩ := h
  exact ⟨by simpa using blk_set hb 5 (.int .i64 x), hg⟩
theorem cellS57_6 {W : World} {g : Nat} {f0 : Int} {f1 : Int} {f2 : Int} {f3 : Int} {f4 : Int} {f5 : Int} {f6 : Int} (h : W.heap[g]? = some (.cells #[.int .i64 f0, .int .i64 f1, .int .i64 f2, .int .i64 f3, .int .i64 f4, .int .i64 f5, .int .i64 f6] 57 (0, 0))) : W.cell? ⟨g, 6, none⟩ = some (.int .i64 f6) := (blk_cell h 6).trans rfl
theorem IsS57.set_6 {w0 W : World} {g : Nat} {f0 : Int} {f1 : Int} {f2 : Int} {f3 : Int} {f4 : Int} {f5 : Int} {f6 : Int} (h : IsS57 w0 W g f0 f1 f2 f3 f4 f5 f6) (x : Int) : IsS57 w0 (W.setCell ⟨g, 6, none⟩ (.int .i64 x)) g f0 f1 f2 f3 f4 f5 x := by
  obtain ⟨hb, hg⟩ := h
  exact ⟨by simpa using blk_set hb 6 (.int .i64 x), hg⟩
theorem IsS57.new (w0 W : World) (f0 : Int) (f1 : Int) (f2 : Int) (f3 : Int) (f4 : Int) (f5 : Int) (f6 : Int) (hB : Below w0.heap.size w0 W) : IsS57 w0 (W.alloc (.cells #[.int .i64 f0, .int .i64 f1, .int .i64 f2, .int .i64 f3, .int .i64 f4, .int .i64 f5, .int .i64 f6] 57)) W.heap.size f0 f1 f2 f3 f4 f5 f6 := ⟨by simpa using heap_alloc_new W _, hB.size⟩

/-! ### breaker_Breaker_State: function 27 -/
def breaker_Breaker_State.f (s0_0 : Int) (s0_1 : Int) (s0_2 : Int) (s0_3 : Int) (s0_4 : Int) (s0_5 : Int) (s0_6 : Int) (a1 : Int) : Option (Int × Int × Int × Int × Int × Int × Int × Int) := if s0_3 = 0 then (some (0, s0_0, s0_1, s0_2, s0_3, s0_4, s0_5, s0_6)) else ((tick_Due.f a1 s0_5).bind fun t186 => (if t186 = true then (some (2, s0_0, s0_1, s0_2, s0_3, s0_4, s0_5, s0_6)) else (some (1, s0_0, s0_1, s0_2, s0_3, s0_4, s0_5, s0_6))))
set_option maxHeartbeats 8000000 in
set_option maxRecDepth 100000 in
theorem breaker_Breaker_State.calls (g : Nat) (s0_0 : Int) (s0_1 : Int) (s0_2 : Int) (s0_3 : Int) (s0_4 : Int) (s0_5 : Int) (s0_6 : Int) (a1 : Int) (r1 : Int) (r2 : Int) (r3 : Int) (r4 : Int) (r5 : Int) (r6 : Int) (r7 : Int) (r8 : Int) (w0 w : World) (hI : IsS57 w0 w g s0_0 s0_1 s0_2 s0_3 s0_4 s0_5 s0_6) (hB : Below w0.heap.size w0 w) (h : breaker_Breaker_State.f s0_0 s0_1 s0_2 s0_3 s0_4 s0_5 s0_6 a1 = some (r1, r2, r3, r4, r5, r6, r7, r8)) :
    Calls Try.prog 27 #[.pointer (some ⟨g, 0, none⟩), .int .i64 a1] w fun e w' => e = .returned (.int .i64 r1) ∧ IsS57 w0 w' g r2 r3 r4 r5 r6 r7 r8 ∧ Below w0.heap.size w0 w' ∧ KeepBut w w' g none := by
  have HI0 := Aside0.mk hI
  have HK := Aside0.mk (KeepBut.refl w g none)
  have HL := Aside0.mk hB.size
  clear hI
  have HW0 := Aside0.mk hB.size
  have HB := Aside0.mk hB
  clear hB
  have H : (if s0_3 = 0 then (some (0, s0_0, s0_1, s0_2, s0_3, s0_4, s0_5, s0_6)) else ((tick_Due.f a1 s0_5).bind fun t186 => (if t186 = true then (some (2, s0_0, s0_1, s0_2, s0_3, s0_4, s0_5, s0_6)) else (some (1, s0_0, s0_1, s0_2, s0_3, s0_4, s0_5, s0_6))))) = some (r1, r2, r3, r4, r5, r6, r7, r8) := h
  clear h
  by_cases c3 : s0_3 = 0
  · rw [if_pos c3] at H
    have c3b0 : (s0_3 == 0) = true := beq_iff_eq.mpr c3
    have c3b1 : (s0_3 != 0) = false := bne_eq_false_iff_eq.mpr c3
    clear c3
    simp only [Option.some.injEq, Prod.mk.injEq] at H
    obtain ⟨rfl, rfl, rfl, rfl, rfl, rfl, rfl, rfl⟩ := H
    obtain ⟨HGz4, hgz4⟩ := HI0.out
    have hcz4_0 := cellS57_0 HGz4
    have hcz4_1 := cellS57_1 HGz4
    have hcz4_2 := cellS57_2 HGz4
    have hcz4_3 := cellS57_3 HGz4
    have hcz4_4 := cellS57_4 HGz4
    have hcz4_5 := cellS57_5 HGz4
    have hcz4_6 := cellS57_6 HGz4
    have hfz4_0 := blk_frozen HGz4 0
    have hfz4_1 := blk_frozen HGz4 1
    have hfz4_2 := blk_frozen HGz4 2
    have hfz4_3 := blk_frozen HGz4 3
    have hfz4_4 := blk_frozen HGz4 4
    have hfz4_5 := blk_frozen HGz4 5
    have hfz4_6 := blk_frozen HGz4 6
    clear HGz4 hgz4
    go_enter Try.func27, Try.ntmps27
    go_wp2
    go_ret
    exact ⟨by first | rfl | (simp [errW_none, errW_some] <;> rfl) | (simp [*, errW_none, errW_some] <;> rfl), by repeat (first | (with_reducible first | exact HI0.out | apply IsS57.alloc | apply IsS57.drewN | apply IsS57.drew | apply IsS57.set_0 | apply IsS57.set_1 | apply IsS57.set_2 | apply IsS57.set_3 | apply IsS57.set_4 | apply IsS57.set_5 | apply IsS57.set_6) | exact HI0.out), by repeat (first | (with_reducible first | exact HB.out | apply below_alloc | apply pw_below_drewN | apply below_drew1 | refine below_set ?_ (IsS57.ge HI0.out)) | exact HB.out), by repeat (first | (with_reducible first | exact HK.out | apply KeepBut.set_ | apply keep_drewN | apply keep_drew | apply keep_alloc) | exact HK.out)⟩
  · rw [if_neg c3] at H
    have c3b0 : (s0_3 == 0) = false := beq_eq_false_iff_ne.mpr c3
    have c3b1 : (s0_3 != 0) = true := bne_iff_ne.mpr c3
    replace H := Option.bind_eq_some_iff.mp H
    obtain ⟨t186, A50, H⟩ := H
    replace H : (if t186 = true then (some (2, s0_0, s0_1, s0_2, s0_3, s0_4, s0_5, s0_6)) else (some (1, s0_0, s0_1, s0_2, s0_3, s0_4, s0_5, s0_6))) = some (r1, r2, r3, r4, r5, r6, r7, r8) := H
    have A5 := Aside0.mk A50
    clear A50
    by_cases c6 : t186 = true
    · subst c6
      have H1 : (some (2, s0_0, s0_1, s0_2, s0_3, s0_4, s0_5, s0_6)) = some (r1, r2, r3, r4, r5, r6, r7, r8) := by rw [if_pos rfl] at H; exact H
      clear H
      have H := H1
      clear H1
      simp only [Option.some.injEq, Prod.mk.injEq] at H
      obtain ⟨rfl, rfl, rfl, rfl, rfl, rfl, rfl, rfl⟩ := H
      obtain ⟨HGz7, hgz7⟩ := HI0.out
      have hcz7_0 := cellS57_0 HGz7
      have hcz7_1 := cellS57_1 HGz7
      have hcz7_2 := cellS57_2 HGz7
      have hcz7_3 := cellS57_3 HGz7
      have hcz7_4 := cellS57_4 HGz7
      have hcz7_5 := cellS57_5 HGz7
      have hcz7_6 := cellS57_6 HGz7
      have hfz7_0 := blk_frozen HGz7 0
      have hfz7_1 := blk_frozen HGz7 1
      have hfz7_2 := blk_frozen HGz7 2
      have hfz7_3 := blk_frozen HGz7 3
      have hfz7_4 := blk_frozen HGz7 4
      have hfz7_5 := blk_frozen HGz7 5
      have hfz7_6 := blk_frozen HGz7 6
      clear HGz7 hgz7
      go_enter Try.func27, Try.ntmps27
      go_wp2_with (first | ((with_reducible refine gate_callee (f := 19) rfl ?_); refine goesL_ (some 17) rfl rfl Try.func19 (by kernel_rfl) rfl #[.int .i64 a1, .int .i64 s0_5] rfl (by (try simp only [List.map_toArray, List.map_cons, List.map_nil]); first | done | rfl | (simp only [List.length_drop, List.length_take]; rfl)) ?_; (with_reducible refine (tick_Due.calls a1 s0_5 true _ A5.out).mono ?_); rintro e w8 ⟨rfl, hb⟩; refine ⟨_, rfl, ?_⟩; have n0_ := Aside0.mk (IsS57.below (by repeat (first | (with_reducible first | exact HI0.out | apply IsS57.alloc | apply IsS57.drewN | apply IsS57.drew | apply IsS57.set_0 | apply IsS57.set_1 | apply IsS57.set_2 | apply IsS57.set_3 | apply IsS57.set_4 | apply IsS57.set_5 | apply IsS57.set_6) | exact HI0.out)) hb); have n1_ := Aside0.mk (KeepBut.trans (by repeat (first | (with_reducible first | exact HK.out | apply KeepBut.set_ | apply keep_drewN | apply keep_drew | apply keep_alloc) | exact HK.out)) (KeepBut.of_below hb g none) (.inl rfl)); have n2_ := Aside0.mk (below_step (by repeat (first | (with_reducible first | exact HB.out | apply below_alloc | apply pw_below_drewN | apply below_drew1 | refine below_set ?_ (IsS57.ge HI0.out)) | exact HB.out)) hb); clear HI0; clear HK; clear HB; have HI0 := n0_; have HK := n1_; have HB := n2_; clear n0_ n1_ n2_; (try clear hb); (try clear hb2); (try clear hk); (try clear hi)))
      go_ret
      exact ⟨by first | rfl | (simp [errW_none, errW_some] <;> rfl) | (simp [*, errW_none, errW_some] <;> rfl), by repeat (first | (with_reducible first | exact HI0.out | apply IsS57.alloc | apply IsS57.drewN | apply IsS57.drew | apply IsS57.set_0 | apply IsS57.set_1 | apply IsS57.set_2 | apply IsS57.set_3 | apply IsS57.set_4 | apply IsS57.set_5 | apply IsS57.set_6) | exact HI0.out), by repeat (first | (with_reducible first | exact HB.out | apply below_alloc | apply pw_below_drewN | apply below_drew1 | refine below_set ?_ (IsS57.ge HI0.out)) | exact HB.out), by repeat (first | (with_reducible first | exact HK.out | apply KeepBut.set_ | apply keep_drewN | apply keep_drew | apply keep_alloc) | exact HK.out)⟩
    · replace c6 := Bool.eq_false_iff.mpr c6
      subst c6
      have H1 : (some (1, s0_0, s0_1, s0_2, s0_3, s0_4, s0_5, s0_6)) = some (r1, r2, r3, r4, r5, r6, r7, r8) := by rw [if_neg (show ¬ (false = true) by decide)] at H; exact H
      clear H
      have H := H1
      clear H1
      simp only [Option.some.injEq, Prod.mk.injEq] at H
      obtain ⟨rfl, rfl, rfl, rfl, rfl, rfl, rfl, rfl⟩ := H
      obtain ⟨HGz9, hgz9⟩ := HI0.out
      have hcz9_0 := cellS57_0 HGz9
      have hcz9_1 := cellS57_1 HGz9
      have hcz9_2 := cellS57_2 HGz9
      have hcz9_3 := cellS57_3 HGz9
      have hcz9_4 := cellS57_4 HGz9
      have hcz9_5 := cellS57_5 HGz9
      have hcz9_6 := cellS57_6 HGz9
      have hfz9_0 := blk_frozen HGz9 0
      have hfz9_1 := blk_frozen HGz9 1
      have hfz9_2 := blk_frozen HGz9 2
      have hfz9_3 := blk_frozen HGz9 3
      have hfz9_4 := blk_frozen HGz9 4
      have hfz9_5 := blk_frozen HGz9 5
      have hfz9_6 := blk_frozen HGz9 6
      clear HGz9 hgz9
      go_enter Try.func27, Try.ntmps27
      go_wp2_with (first | ((with_reducible refine gate_callee (f := 19) rfl ?_); refine goesL_ (some 17) rfl rfl Try.func19 (by kernel_rfl) rfl #[.int .i64 a1, .int .i64 s0_5] rfl (by (try simp only [List.map_toArray, List.map_cons, List.map_nil]); first | done | rfl | (simp only [List.length_drop, List.length_take]; rfl)) ?_; (with_reducible refine (tick_Due.calls a1 s0_5 false _ A5.out).mono ?_); rintro e w10 ⟨rfl, hb⟩; refine ⟨_, rfl, ?_⟩; have n0_ := Aside0.mk (IsS57.below (by repeat (first | (with_reducible first | exact HI0.out | apply IsS57.alloc | apply IsS57.drewN | apply IsS57.drew | apply IsS57.set_0 | apply IsS57.set_1 | apply IsS57.set_2 | apply IsS57.set_3 | apply IsS57.set_4 | apply IsS57.set_5 | apply IsS57.set_6) | exact HI0.out)) hb); have n1_ := Aside0.mk (KeepBut.trans (by repeat (first | (with_reducible first | exact HK.out | apply KeepBut.set_ | apply keep_drewN | apply keep_drew | apply keep_alloc) | exact HK.out)) (KeepBut.of_below hb g none) (.inl rfl)); have n2_ := Aside0.mk (below_step (by repeat (first | (with_reducible first | exact HB.out | apply below_alloc | apply pw_below_drewN | apply below_drew1 | refine below_set ?_ (IsS57.ge HI0.out)) | exact HB.out)) hb); clear HI0; clear HK; clear HB; have HI0 := n0_; have HK := n1_; have HB := n2_; clear n0_ n1_ n2_; (try clear hb); (try clear hb2); (try clear hk); (try clear hi)))
      go_ret
      exact ⟨by first | rfl | (simp [errW_none, errW_some] <;> rfl) | (simp [*, errW_none, errW_some] <;> rfl), by repeat (first | (with_reducible first | exact HI0.out | apply IsS57.alloc | apply IsS57.drewN | apply IsS57.drew | apply IsS57.set_0 | apply IsS57.set_1 | apply IsS57.set_2 | apply IsS57.set_3 | apply IsS57.set_4 | apply IsS57.set_5 | apply IsS57.set_6) | exact HI0.out), by repeat (first | (with_reducible first | exact HB.out | apply below_alloc | apply pw_below_drewN | apply below_drew1 | refine below_set ?_ (IsS57.ge HI0.out)) | exact HB.out), by repeat (first | (with_reducible first | exact HK.out | apply KeepBut.set_ | apply keep_drewN | apply keep_drew | apply keep_alloc) | exact HK.out)⟩

/-! ### breaker_Breaker_closes: function 45 -/
def breaker_Breaker_closes.f (s0_0 : Int) (s0_1 : Int) (s0_2 : Int) (s0_3 : Int) (s0_4 : Int) (s0_5 : Int) (s0_6 : Int) : Option (Int × Int × Int × Int × Int × Int × Int) := some (s0_0, s0_1, s0_2, 0, 0, s0_5, 0)
set_option maxHeartbeats 8000000 in
set_option maxRecDepth 100000 in
theorem breaker_Breaker_closes.calls (g : Nat) (s0_0 : Int) (s0_1 : Int) (s0_2 : Int) (s0_3 : Int) (s0_4 : Int) (s0_5 : Int) (s0_6 : Int) (r1 : Int) (r2 : Int) (r3 : Int) (r4 : Int) (r5 : Int) (r6 : Int) (r7 : Int) (w0 w : World) (hI : IsS57 w0 w g s0_0 s0_1 s0_2 s0_3 s0_4 s0_5 s0_6) (hB : Below w0.heap.size w0 w) (h : breaker_Breaker_closes.f s0_0 s0_1 s0_2 s0_3 s0_4 s0_5 s0_6 = some (r1, r2, r3, r4, r5, r6, r7)) :
    Calls Try.prog 45 #[.pointer (some ⟨g, 0, none⟩)] w fun e w' => e = .returned (.tuple #[]) ∧ IsS57 w0 w' g r1 r2 r3 r4 r5 r6 r7 ∧ Below w0.heap.size w0 w' ∧ KeepBut w w' g none := by
  have HI0 := Aside0.mk hI
  have HK := Aside0.mk (KeepBut.refl w g none)
  have HL := Aside0.mk hB.size
  clear hI
  have HW0 := Aside0.mk hB.size
  have HB := Aside0.mk hB
  clear hB
  have H : (some (s0_0, s0_1, s0_2, 0, 0, s0_5, 0)) = some (r1, r2, r3, r4, r5, r6, r7) := h
  clear h
  simp only [Option.some.injEq, Prod.mk.injEq] at H
  obtain ⟨rfl, rfl, rfl, rfl, rfl, rfl, rfl⟩ := H
  obtain ⟨HGz2, hgz2⟩ := HI0.out
  have hcz2_0 := cellS57_0 HGz2
  have hcz2_1 := cellS57_1 HGz2
  have hcz2_2 := cellS57_2 HGz2
  have hcz2_3 := cellS57_3 HGz2
  have hcz2_4 := cellS57_4 HGz2
  have hcz2_5 := cellS57_5 HGz2
  have hcz2_6 := cellS57_6 HGz2
  have hfz2_0 := blk_frozen HGz2 0
  have hfz2_1 := blk_frozen HGz2 1
  have hfz2_2 := blk_frozen HGz2 2
  have hfz2_3 := blk_frozen HGz2 3
  have hfz2_4 := blk_frozen HGz2 4
  have hfz2_5 := blk_frozen HGz2 5
  have hfz2_6 := blk_frozen HGz2 6
  clear HGz2 hgz2
  go_enter Try.func45, Try.ntmps45
  go_wp2
  first | go_end0 | ((try simp only [Exit.inBlock, Exit.then]); refine bodyPost_ret (results_none rfl _ _ _) rfl ?_)
  exact ⟨by first | rfl | (simp [errW_none, errW_some] <;> rfl) | (simp [*, errW_none, errW_some] <;> rfl), by repeat (first | (with_reducible first | exact HI0.out | apply IsS57.alloc | apply IsS57.drewN | apply IsS57.drew | apply IsS57.set_0 | apply IsS57.set_1 | apply IsS57.set_2 | apply IsS57.set_3 | apply IsS57.set_4 | apply IsS57.set_5 | apply IsS57.set_6) | exact HI0.out), by repeat (first | (with_reducible first | exact HB.out | apply below_alloc | apply pw_below_drewN | apply below_drew1 | refine below_set ?_ (IsS57.ge HI0.out)) | exact HB.out), by repeat (first | (with_reducible first | exact HK.out | apply KeepBut.set_ | apply keep_drewN | apply keep_drew | apply keep_alloc) | exact HK.out)⟩

/-! ### breaker_Breaker_trips: function 46 -/
def breaker_Breaker_trips.f (s0_0 : Int) (s0_1 : Int) (s0_2 : Int) (s0_3 : Int) (s0_4 : Int) (s0_5 : Int) (s0_6 : Int) (a1 : Int) : Option (Int × Int × Int × Int × Int × Int × Int) := (tick_Add.f a1 s0_1).bind fun t187 => (some (s0_0, s0_1, s0_2, 1, 0, t187, 0))
set_option maxHeartbeats 8000000 in
set_option maxRecDepth 100000 in
theorem breaker_Breaker_trips.calls (g : Nat) (s0_0 : Int) (s0_1 : Int) (s0_2 : Int) (s0_3 : Int) (s0_4 : Int) (s0_5 : Int) (s0_6 : Int) (a1 : Int) (r1 : Int) (r2 : Int) (r3 : Int) (r4 : Int) (r5 : Int) (r6 : Int) (r7 : Int) (w0 w : World) (hI : IsS57 w0 w g s0_0 s0_1 s0_2 s0_3 s0_4 s0_5 s0_6) (hB : Below w0.heap.size w0 w) (h : breaker_Breaker_trips.f s0_0 s0_1 s0_2 s0_3 s0_4 s0_5 s0_6 a1 = some (r1, r2, r3, r4, r5, r6, r7)) :
    Calls Try.prog 46 #[.pointer (some ⟨g, 0, none⟩), .int .i64 a1] w fun e w' => e = .returned (.tuple #[]) ∧ IsS57 w0 w' g r1 r2 r3 r4 r5 r6 r7 ∧ Below w0.heap.size w0 w' ∧ KeepBut w w' g none := by
  have HI0 := Aside0.mk hI
  have HK := Aside0.mk (KeepBut.refl w g none)
  have HL := Aside0.mk hB.size
  clear hI
  have HW0 := Aside0.mk hB.size
  have HB := Aside0.mk hB
  clear hB
  have H : ((tick_Add.f a1 s0_1).bind fun t187 => (some (s0_0, s0_1, s0_2, 1, 0, t187, 0))) = some (r1, r2, r3, r4, r5, r6, r7) := h
  clear h
  replace H := Option.bind_eq_some_iff.mp H
  obtain ⟨t187, A30, H⟩ := H
  replace H : (some (s0_0, s0_1, s0_2, 1, 0, t187, 0)) = some (r1, r2, r3, r4, r5, r6, r7) := H
  have A3 := Aside0.mk A30
  clear A30
  simp only [Option.some.injEq, Prod.mk.injEq] at H
  obtain ⟨rfl, rfl, rfl, rfl, rfl, rfl, rfl⟩ := H
  obtain ⟨HGz4, hgz4⟩ := HI0.out
  have hcz4_0 := cellS57_0 HGz4
  have hcz4_1 := cellS57_1 HGz4
  have hcz4_2 := cellS57_2 HGz4
  have hcz4_3 := cellS57_3 HGz4
  have hcz4_4 := cellS57_4 HGz4
  have hcz4_5 := cellS57_5 HGz4
  have hcz4_6 := cellS57_6 HGz4
  have hfz4_0 := blk_frozen HGz4 0
  have hfz4_1 := blk_frozen HGz4 1
  have hfz4_2 := blk_frozen HGz4 2
  have hfz4_3 := blk_frozen HGz4 3
  have hfz4_4 := blk_frozen HGz4 4
  have hfz4_5 := blk_frozen HGz4 5
  have hfz4_6 := blk_frozen HGz4 6
  clear HGz4 hgz4
  go_enter Try.func46, Try.ntmps46
  go_wp2_with (first | ((with_reducible refine gate_callee (f := 16) rfl ?_); refine goesL_ (some 19) rfl rfl Try.func16 (by kernel_rfl) rfl #[.int .i64 a1, .int .i64 s0_1] rfl (by (try simp only [List.map_toArray, List.map_cons, List.map_nil]); first | done | rfl | (simp only [List.length_drop, List.length_take]; rfl)) ?_; (with_reducible refine (tick_Add.calls a1 s0_1 t187 _ A3.out).mono ?_); rintro e w5 ⟨rfl, hb⟩; refine ⟨_, rfl, ?_⟩; have n0_ := Aside0.mk (IsS57.below (show IsS57 w0 (((w.setCell ⟨g, 3, none⟩ (.int .i64 1)).setCell ⟨g, 4, none⟩ (.int .i64 0)).setCell ⟨g, 6, none⟩ (.int .i64 0)) g s0_0 s0_1 s0_2 1 0 s0_5 0 from by repeat (first | (with_reducible first | exact HI0.out | apply IsS57.alloc | apply IsS57.drewN | apply IsS57.drew | apply IsS57.set_0 | apply IsS57.set_1 | apply IsS57.set_2 | apply IsS57.set_3 | apply IsS57.set_4 | apply IsS57.set_5 | apply IsS57.set_6) | exact HI0.out)) hb); have n1_ := Aside0.mk (KeepBut.trans (by repeat (first | (with_reducible first | exact HK.out | apply KeepBut.set_ | apply keep_drewN | apply keep_drew | apply keep_alloc) | exact HK.out)) (KeepBut.of_below hb g none) (.inl rfl)); have n2_ := Aside0.mk (below_step (by repeat (first | (with_reducible first | exact HB.out | apply below_alloc | apply pw_below_drewN | apply below_drew1 | refine below_set ?_ (IsS57.ge HI0.out)) | exact HB.out)) hb); clear HI0; clear HK; clear HB; have HI0 := n0_; have HK := n1_; have HB := n2_; clear n0_ n1_ n2_; (try clear hb); (try clear hb2); (try clear hk); (try clear hi); obtain ⟨HGz6, hgz6⟩ := HI0.out; have hcz6_0 := cellS57_0 HGz6; have hcz6_1 := cellS57_1 HGz6; have hcz6_2 := cellS57_2 HGz6; have hcz6_3 := cellS57_3 HGz6; have hcz6_4 := cellS57_4 HGz6; have hcz6_5 := cellS57_5 HGz6; have hcz6_6 := cellS57_6 HGz6; have hfz6_0 := blk_frozen HGz6 0; have hfz6_1 := blk_frozen HGz6 1; have hfz6_2 := blk_frozen HGz6 2; have hfz6_3 := blk_frozen HGz6 3; have hfz6_4 := blk_frozen HGz6 4; have hfz6_5 := blk_frozen HGz6 5; have hfz6_6 := blk_frozen HGz6 6; clear HGz6 hgz6))
  first | go_end0 | ((try simp only [Exit.inBlock, Exit.then]); refine bodyPost_ret (results_none rfl _ _ _) rfl ?_)
  exact ⟨by first | rfl | (simp [errW_none, errW_some] <;> rfl) | (simp [*, errW_none, errW_some] <;> rfl), by repeat (first | (with_reducible first | exact HI0.out | apply IsS57.alloc | apply IsS57.drewN | apply IsS57.drew | apply IsS57.set_0 | apply IsS57.set_1 | apply IsS57.set_2 | apply IsS57.set_3 | apply IsS57.set_4 | apply IsS57.set_5 | apply IsS57.set_6) | exact HI0.out), by repeat (first | (with_reducible first | exact HB.out | apply below_alloc | apply pw_below_drewN | apply below_drew1 | refine below_set ?_ (IsS57.ge HI0.out)) | exact HB.out), by repeat (first | (with_reducible first | exact HK.out | apply KeepBut.set_ | apply keep_drewN | apply keep_drew | apply keep_alloc) | exact HK.out)⟩

/-! ### breaker_Breaker_Done: function 28 -/
def breaker_Breaker_Done.f (s0_0 : Int) (s0_1 : Int) (s0_2 : Int) (s0_3 : Int) (s0_4 : Int) (s0_5 : Int) (s0_6 : Int) (a1 : Int) (a2 : Bool) : Option (Int × Int × Int × Int × Int × Int × Int) := (breaker_Breaker_State.f s0_0 s0_1 s0_2 s0_3 s0_4 s0_5 s0_6 a1).bind fun bt188 => (if bt188.1 = 1 then (some (bt188.2.1, bt188.2.2.1, bt188.2.2.2.1, bt188.2.2.2.2.1, bt188.2.2.2.2.2.1, bt188.2.2.2.2.2.2.1, bt188.2.2.2.2.2.2.2)) else (if a2 = true then ((breaker_Breaker_closes.f bt188.2.1 bt188.2.2.1 bt188.2.2.2.1 bt188.2.2.2.2.1 bt188.2.2.2.2.2.1 bt188.2.2.2.2.2.2.1 bt188.2.2.2.2.2.2.2).bind fun bt196 => (some (bt196.1, bt196.2.1, bt196.2.2.1, bt196.2.2.2.1, bt196.2.2.2.2.1, bt196.2.2.2.2.2.1, bt196.2.2.2.2.2.2))) else (if bt188.1 = 2 then ((breaker_Breaker_trips.f bt188.2.1 bt188.2.2.1 bt188.2.2.2.1 bt188.2.2.2.2.1 bt188.2.2.2.2.2.1 bt188.2.2.2.2.2.2.1 bt188.2.2.2.2.2.2.2 a1).bind fun bt203 => (some (bt203.1, bt203.2.1, bt203.2.2.1, bt203.2.2.2.1, bt203.2.2.2.2.1, bt203.2.2.2.2.2.1, bt203.2.2.2.2.2.2))) else (if (wrap64 (bt188.2.2.2.2.2.1 + 1)) ≥ bt188.2.1 then ((breaker_Breaker_trips.f bt188.2.1 bt188.2.2.1 bt188.2.2.2.1 bt188.2.2.2.2.1 (wrap64 (bt188.2.2.2.2.2.1 + 1)) bt188.2.2.2.2.2.2.1 bt188.2.2.2.2.2.2.2 a1).bind fun bt210 => (some (bt210.1, bt210.2.1, bt210.2.2.1, bt210.2.2.2.1, bt210.2.2.2.2.1, bt210.2.2.2.2.2.1, bt210.2.2.2.2.2.2))) else (some (bt188.2.1, bt188.2.2.1, bt188.2.2.2.1, bt188.2.2.2.2.1, wrap64 (bt188.2.2.2.2.2.1 + 1), bt188.2.2.2.2.2.2.1, bt188.2.2.2.2.2.2.2))))))
set_option maxHeartbeats 8000000 in
set_option maxRecDepth 100000 in
theorem breaker_Breaker_Done.calls (g : Nat) (s0_0 : Int) (s0_1 : Int) (s0_2 : Int) (s0_3 : Int) (s0_4 : Int) (s0_5 : Int) (s0_6 : Int) (a1 : Int) (a2 : Bool) (r1 : Int) (r2 : Int) (r3 : Int) (r4 : Int) (r5 : Int) (r6 : Int) (r7 : Int) (w0 w : World) (hI : IsS57 w0 w g s0_0 s0_1 s0_2 s0_3 s0_4 s0_5 s0_6) (hB : Below w0.heap.size w0 w) (h : breaker_Breaker_Done.f s0_0 s0_1 s0_2 s0_3 s0_4 s0_5 s0_6 a1 a2 = some (r1, r2, r3, r4, r5, r6, r7)) :
    Calls Try.prog 28 #[.pointer (some ⟨g, 0, none⟩), .int .i64 a1, .bool a2] w fun e w' => e = .returned (.tuple #[]) ∧ IsS57 w0 w' g r1 r2 r3 r4 r5 r6 r7 ∧ Below w0.heap.size w0 w' ∧ KeepBut w w' g none := by
  have HI0 := Aside0.mk hI
  have HK := Aside0.mk (KeepBut.refl w g none)
  have HL := Aside0.mk hB.size
  clear hI
  have HW0 := Aside0.mk hB.size
  have HB := Aside0.mk hB
  clear hB
  have H : ((breaker_Breaker_State.f s0_0 s0_1 s0_2 s0_3 s0_4 s0_5 s0_6 a1).bind fun bt188 => (if bt188.1 = 1 then (some (bt188.2.1, bt188.2.2.1, bt188.2.2.2.1, bt188.2.2.2.2.1, bt188.2.2.2.2.2.1, bt188.2.2.2.2.2.2.1, bt188.2.2.2.2.2.2.2)) else (if a2 = true then ((breaker_Breaker_closes.f bt188.2.1 bt188.2.2.1 bt188.2.2.2.1 bt188.2.2.2.2.1 bt188.2.2.2.2.2.1 bt188.2.2.2.2.2.2.1 bt188.2.2.2.2.2.2.2).bind fun bt196 => (some (bt196.1, bt196.2.1, bt196.2.2.1, bt196.2.2.2.1, bt196.2.2.2.2.1, bt196.2.2.2.2.2.1, bt196.2.2.2.2.2.2))) else (if bt188.1 = 2 then ((breaker_Breaker_trips.f bt188.2.1 bt188.2.2.1 bt188.2.2.2.1 bt188.2.2.2.2.1 bt188.2.2.2.2.2.1 bt188.2.2.2.2.2.2.1 bt188.2.2.2.2.2.2.2 a1).bind fun bt203 => (some (bt203.1, bt203.2.1, bt203.2.2.1, bt203.2.2.2.1, bt203.2.2.2.2.1, bt203.2.2.2.2.2.1, bt203.2.2.2.2.2.2))) else (if (wrap64 (bt188.2.2.2.2.2.1 + 1)) ≥ bt188.2.1 then ((breaker_Breaker_trips.f bt188.2.1 bt188.2.2.1 bt188.2.2.2.1 bt188.2.2.2.2.1 (wrap64 (bt188.2.2.2.2.2.1 + 1)) bt188.2.2.2.2.2.2.1 bt188.2.2.2.2.2.2.2 a1).bind fun bt210 => (some (bt210.1, bt210.2.1, bt210.2.2.1, bt210.2.2.2.1, bt210.2.2.2.2.1, bt210.2.2.2.2.2.1, bt210.2.2.2.2.2.2))) else (some (bt188.2.1, bt188.2.2.1, bt188.2.2.2.1, bt188.2.2.2.2.1, wrap64 (bt188.2.2.2.2.2.1 + 1), bt188.2.2.2.2.2.2.1, bt188.2.2.2.2.2.2.2))))))) = some (r1, r2, r3, r4, r5, r6, r7) := h
  clear h
  replace H := Option.bind_eq_some_iff.mp H
  obtain ⟨⟨t188, t189, t190, t191, t192, t193, t194, t195⟩, A40, H⟩ := H
  replace H : (if t188 = 1 then (some (t189, t190, t191, t192, t193, t194, t195)) else (if a2 = true then ((breaker_Breaker_closes.f t189 t190 t191 t192 t193 t194 t195).bind fun bt196 => (some (bt196.1, bt196.2.1, bt196.2.2.1, bt196.2.2.2.1, bt196.2.2.2.2.1, bt196.2.2.2.2.2.1, bt196.2.2.2.2.2.2))) else (if t188 = 2 then ((breaker_Breaker_trips.f t189 t190 t191 t192 t193 t194 t195 a1).bind fun bt203 => (some (bt203.1, bt203.2.1, bt203.2.2.1, bt203.2.2.2.1, bt203.2.2.2.2.1, bt203.2.2.2.2.2.1, bt203.2.2.2.2.2.2))) else (if (wrap64 (t193 + 1)) ≥ t189 then ((breaker_Breaker_trips.f t189 t190 t191 t192 (wrap64 (t193 + 1)) t194 t195 a1).bind fun bt210 => (some (bt210.1, bt210.2.1, bt210.2.2.1, bt210.2.2.2.1, bt210.2.2.2.2.1, bt210.2.2.2.2.2.1, bt210.2.2.2.2.2.2))) else (some (t189, t190, t191, t192, wrap64 (t193 + 1), t194, t195)))))) = some (r1, r2, r3, r4, r5, r6, r7) := H
  have A4 := Aside0.mk A40
  clear A40
  by_cases c5 : t188 = 1
  · rw [if_pos c5] at H
    have c5b0 : (t188 == 1) = true := beq_iff_eq.mpr c5
    have c5b1 : (t188 != 1) = false := bne_eq_false_iff_eq.mpr c5
    clear c5
    simp only [Option.some.injEq, Prod.mk.injEq] at H
    obtain ⟨rfl, rfl, rfl, rfl, rfl, rfl, rfl⟩ := H
    go_enter Try.func28, Try.ntmps28
    go_wp2_with (first | (go_at_call 27; (with_reducible refine (breaker_Breaker_State.calls g s0_0 s0_1 s0_2 s0_3 s0_4 s0_5 s0_6 a1 t188 t189 t190 t191 t192 t193 t194 t195 w0 _ ?side1 ?side2 A4.out).mono ?_); (case side1 => repeat (first | (with_reducible first | exact HI0.out | apply IsS57.alloc | apply IsS57.drewN | apply IsS57.drew | apply IsS57.set_0 | apply IsS57.set_1 | apply IsS57.set_2 | apply IsS57.set_3 | apply IsS57.set_4 | apply IsS57.set_5 | apply IsS57.set_6) | exact HI0.out)); (case side2 => repeat (first | (with_reducible first | exact HB.out | apply below_alloc | apply pw_below_drewN | apply below_drew1 | refine below_set ?_ (IsS57.ge HI0.out)) | exact HB.out)); rintro e w6 ⟨rfl, hi, hb, hk⟩; have n0_ := Aside0.mk (KeepBut.trans (by repeat (first | (with_reducible first | exact HK.out | apply KeepBut.set_ | apply keep_drewN | apply keep_drew | apply keep_alloc) | exact HK.out)) hk (.inl rfl)); have n1_ := Aside0.mk (hb); have n2_ := Aside0.mk (hi); clear HK; clear HB; clear HI0; have HK := n0_; have HB := n1_; have HI0 := n2_; clear n0_ n1_ n2_; (try clear hb); (try clear hb2); (try clear hk); (try clear hi)))
    repeat (go_quiet (first | (go_at_call 27; (with_reducible refine (breaker_Breaker_State.calls g s0_0 s0_1 s0_2 s0_3 s0_4 s0_5 s0_6 a1 t188 t189 t190 t191 t192 t193 t194 t195 w0 _ ?side1 ?side2 A4.out).mono ?_); (case side1 => repeat (first | (with_reducible first | exact HI0.out | apply IsS57.alloc | apply IsS57.drewN | apply IsS57.drew | apply IsS57.set_0 | apply IsS57.set_1 | apply IsS57.set_2 | apply IsS57.set_3 | apply IsS57.set_4 | apply IsS57.set_5 | apply IsS57.set_6) | exact HI0.out)); (case side2 => repeat (first | (with_reducible first | exact HB.out | apply below_alloc | apply pw_below_drewN | apply below_drew1 | refine below_set ?_ (IsS57.ge HI0.out)) | exact HB.out)); rintro e w6 ⟨rfl, hi, hb, hk⟩; have n0_ := Aside0.mk (KeepBut.trans (by repeat (first | (with_reducible first | exact HK.out | apply KeepBut.set_ | apply keep_drewN | apply keep_drew | apply keep_alloc) | exact HK.out)) hk (.inl rfl)); have n1_ := Aside0.mk (hb); have n2_ := Aside0.mk (hi); clear HK; clear HB; clear HI0; have HK := n0_; have HB := n1_; have HI0 := n2_; clear n0_ n1_ n2_; (try clear hb); (try clear hb2); (try clear hk); (try clear hi))); try go_wp2_with (first | (go_at_call 27; (with_reducible refine (breaker_Breaker_State.calls g s0_0 s0_1 s0_2 s0_3 s0_4 s0_5 s0_6 a1 t188 t189 t190 t191 t192 t193 t194 t195 w0 _ ?side1 ?side2 A4.out).mono ?_); (case side1 => repeat (first | (with_reducible first | exact HI0.out | apply IsS57.alloc | apply IsS57.drewN | apply IsS57.drew | apply IsS57.set_0 | apply IsS57.set_1 | apply IsS57.set_2 | apply IsS57.set_3 | apply IsS57.set_4 | apply IsS57.set_5 | apply IsS57.set_6) | exact HI0.out)); (case side2 => repeat (first | (with_reducible first | exact HB.out | apply below_alloc | apply pw_below_drewN | apply below_drew1 | refine below_set ?_ (IsS57.ge HI0.out)) | exact HB.out)); rintro e w6 ⟨rfl, hi, hb, hk⟩; have n0_ := Aside0.mk (KeepBut.trans (by repeat (first | (with_reducible first | exact HK.out | apply KeepBut.set_ | apply keep_drewN | apply keep_drew | apply keep_alloc) | exact HK.out)) hk (.inl rfl)); have n1_ := Aside0.mk (hb); have n2_ := Aside0.mk (hi); clear HK; clear HB; clear HI0; have HK := n0_; have HB := n1_; have HI0 := n2_; clear n0_ n1_ n2_; (try clear hb); (try clear hb2); (try clear hk); (try clear hi))))
    first | go_end0 | ((try simp only [Exit.inBlock, Exit.then]); refine bodyPost_ret (results_none rfl _ _ _) rfl ?_)
    exact ⟨by first | rfl | (simp [errW_none, errW_some] <;> rfl) | (simp [*, errW_none, errW_some] <;> rfl), by repeat (first | (with_reducible first | exact HI0.out | apply IsS57.alloc | apply IsS57.drewN | apply IsS57.drew | apply IsS57.set_0 | apply IsS57.set_1 | apply IsS57.set_2 | apply IsS57.set_3 | apply IsS57.set_4 | apply IsS57.set_5 | apply IsS57.set_6) | exact HI0.out), by repeat (first | (with_reducible first | exact HB.out | apply below_alloc | apply pw_below_drewN | apply below_drew1 | refine below_set ?_ (IsS57.ge HI0.out)) | exact HB.out), by repeat (first | (with_reducible first | exact HK.out | apply KeepBut.set_ | apply keep_drewN | apply keep_drew | apply keep_alloc) | exact HK.out)⟩
  · rw [if_neg c5] at H
    have c5b0 : (t188 == 1) = false := beq_eq_false_iff_ne.mpr c5
    have c5b1 : (t188 != 1) = true := bne_iff_ne.mpr c5
    by_cases c7 : a2 = true
    · subst c7
      have H1 : ((breaker_Breaker_closes.f t189 t190 t191 t192 t193 t194 t195).bind fun bt196 => (some (bt196.1, bt196.2.1, bt196.2.2.1, bt196.2.2.2.1, bt196.2.2.2.2.1, bt196.2.2.2.2.2.1, bt196.2.2.2.2.2.2))) = some (r1, r2, r3, r4, r5, r6, r7) := by rw [if_pos rfl] at H; exact H
      clear H
      have H := H1
      clear H1
      replace H := Option.bind_eq_some_iff.mp H
      obtain ⟨⟨t196, t197, t198, t199, t200, t201, t202⟩, A80, H⟩ := H
      replace H : (some (t196, t197, t198, t199, t200, t201, t202)) = some (r1, r2, r3, r4, r5, r6, r7) := H
      have A8 := Aside0.mk A80
      clear A80
      simp only [Option.some.injEq, Prod.mk.injEq] at H
      obtain ⟨rfl, rfl, rfl, rfl, rfl, rfl, rfl⟩ := H
      go_enter Try.func28, Try.ntmps28
      go_wp2_with (first | (go_at_call 27; (with_reducible refine (breaker_Breaker_State.calls g s0_0 s0_1 s0_2 s0_3 s0_4 s0_5 s0_6 a1 t188 t189 t190 t191 t192 t193 t194 t195 w0 _ ?side1 ?side2 A4.out).mono ?_); (case side1 => repeat (first | (with_reducible first | exact HI0.out | apply IsS57.alloc | apply IsS57.drewN | apply IsS57.drew | apply IsS57.set_0 | apply IsS57.set_1 | apply IsS57.set_2 | apply IsS57.set_3 | apply IsS57.set_4 | apply IsS57.set_5 | apply IsS57.set_6) | exact HI0.out)); (case side2 => repeat (first | (with_reducible first | exact HB.out | apply below_alloc | apply pw_below_drewN | apply below_drew1 | refine below_set ?_ (IsS57.ge HI0.out)) | exact HB.out)); rintro e w9 ⟨rfl, hi, hb, hk⟩; have n0_ := Aside0.mk (KeepBut.trans (by repeat (first | (with_reducible first | exact HK.out | apply KeepBut.set_ | apply keep_drewN | apply keep_drew | apply keep_alloc) | exact HK.out)) hk (.inl rfl)); have n1_ := Aside0.mk (hb); have n2_ := Aside0.mk (hi); clear HK; clear HB; clear HI0; have HK := n0_; have HB := n1_; have HI0 := n2_; clear n0_ n1_ n2_; (try clear hb); (try clear hb2); (try clear hk); (try clear hi)) | (go_at_call 45; (with_reducible refine (breaker_Breaker_closes.calls g t189 t190 t191 t192 t193 t194 t195 t196 t197 t198 t199 t200 t201 t202 w0 _ ?side1 ?side2 A8.out).mono ?_); (case side1 => repeat (first | (with_reducible first | exact HI0.out | apply IsS57.alloc | apply IsS57.drewN | apply IsS57.drew | apply IsS57.set_0 | apply IsS57.set_1 | apply IsS57.set_2 | apply IsS57.set_3 | apply IsS57.set_4 | apply IsS57.set_5 | apply IsS57.set_6) | exact HI0.out)); (case side2 => repeat (first | (with_reducible first | exact HB.out | apply below_alloc | apply pw_below_drewN | apply below_drew1 | refine below_set ?_ (IsS57.ge HI0.out)) | exact HB.out)); rintro e w10 ⟨rfl, hi, hb, hk⟩; have n0_ := Aside0.mk (KeepBut.trans (by repeat (first | (with_reducible first | exact HK.out | apply KeepBut.set_ | apply keep_drewN | apply keep_drew | apply keep_alloc) | exact HK.out)) hk (.inl rfl)); have n1_ := Aside0.mk (hb); have n2_ := Aside0.mk (hi); clear HK; clear HB; clear HI0; have HK := n0_; have HB := n1_; have HI0 := n2_; clear n0_ n1_ n2_; (try clear hb); (try clear hb2); (try clear hk); (try clear hi)))
      repeat (go_quiet (first | (go_at_call 27; (with_reducible refine (breaker_Breaker_State.calls g s0_0 s0_1 s0_2 s0_3 s0_4 s0_5 s0_6 a1 t188 t189 t190 t191 t192 t193 t194 t195 w0 _ ?side1 ?side2 A4.out).mono ?_); (case side1 => repeat (first | (with_reducible first | exact HI0.out | apply IsS57.alloc | apply IsS57.drewN | apply IsS57.drew | apply IsS57.set_0 | apply IsS57.set_1 | apply IsS57.set_2 | apply IsS57.set_3 | apply IsS57.set_4 | apply IsS57.set_5 | apply IsS57.set_6) | exact HI0.out)); (case side2 => repeat (first | (with_reducible first | exact HB.out | apply below_alloc | apply pw_below_drewN | apply below_drew1 | refine below_set ?_ (IsS57.ge HI0.out)) | exact HB.out)); rintro e w9 ⟨rfl, hi, hb, hk⟩; have n0_ := Aside0.mk (KeepBut.trans (by repeat (first | (with_reducible first | exact HK.out | apply KeepBut.set_ | apply keep_drewN | apply keep_drew | apply keep_alloc) | exact HK.out)) hk (.inl rfl)); have n1_ := Aside0.mk (hb); have n2_ := Aside0.mk (hi); clear HK; clear HB; clear HI0; have HK := n0_; have HB := n1_; have HI0 := n2_; clear n0_ n1_ n2_; (try clear hb); (try clear hb2); (try clear hk); (try clear hi)) | (go_at_call 45; (with_reducible refine (breaker_Breaker_closes.calls g t189 t190 t191 t192 t193 t194 t195 t196 t197 t198 t199 t200 t201 t202 w0 _ ?side1 ?side2 A8.out).mono ?_); (case side1 => repeat (first | (with_reducible first | exact HI0.out | apply IsS57.alloc | apply IsS57.drewN | apply IsS57.drew | apply IsS57.set_0 | apply IsS57.set_1 | apply IsS57.set_2 | apply IsS57.set_3 | apply IsS57.set_4 | apply IsS57.set_5 | apply IsS57.set_6) | exact HI0.out)); (case side2 => repeat (first | (with_reducible first | exact HB.out | apply below_alloc | apply pw_below_drewN | apply below_drew1 | refine below_set ?_ (IsS57.ge HI0.out)) | exact HB.out)); rintro e w10 ⟨rfl, hi, hb, hk⟩; have n0_ := Aside0.mk (KeepBut.trans (by repeat (first | (with_reducible first | exact HK.out | apply KeepBut.set_ | apply keep_drewN | apply keep_drew | apply keep_alloc) | exact HK.out)) hk (.inl rfl)); have n1_ := Aside0.mk (hb); have n2_ := Aside0.mk (hi); clear HK; clear HB; clear HI0; have HK := n0_; have HB := n1_; have HI0 := n2_; clear n0_ n1_ n2_; (try clear hb); (try clear hb2); (try clear hk); (try clear hi))); try go_wp2_with (first | (go_at_call 27; (with_reducible refine (breaker_Breaker_State.calls g s0_0 s0_1 s0_2 s0_3 s0_4 s0_5 s0_6 a1 t188 t189 t190 t191 t192 t193 t194 t195 w0 _ ?side1 ?side2 A4.out).mono ?_); (case side1 => repeat (first | (with_reducible first | exact HI0.out | apply IsS57.alloc | apply IsS57.drewN | apply IsS57.drew | apply IsS57.set_0 | apply IsS57.set_1 | apply IsS57.set_2 | apply IsS57.set_3 | apply IsS57.set_4 | apply IsS57.set_5 | apply IsS57.set_6) | exact HI0.out)); (case side2 => repeat (first | (with_reducible first | exact HB.out | apply below_alloc | apply pw_below_drewN | apply below_drew1 | refine below_set ?_ (IsS57.ge HI0.out)) | exact HB.out)); rintro e w9 ⟨rfl, hi, hb, hk⟩; have n0_ := Aside0.mk (KeepBut.trans (by repeat (first | (with_reducible first | exact HK.out | apply KeepBut.set_ | apply keep_drewN | apply keep_drew | apply keep_alloc) | exact HK.out)) hk (.inl rfl)); have n1_ := Aside0.mk (hb); have n2_ := Aside0.mk (hi); clear HK; clear HB; clear HI0; have HK := n0_; have HB := n1_; have HI0 := n2_; clear n0_ n1_ n2_; (try clear hb); (try clear hb2); (try clear hk); (try clear hi)) | (go_at_call 45; (with_reducible refine (breaker_Breaker_closes.calls g t189 t190 t191 t192 t193 t194 t195 t196 t197 t198 t199 t200 t201 t202 w0 _ ?side1 ?side2 A8.out).mono ?_); (case side1 => repeat (first | (with_reducible first | exact HI0.out | apply IsS57.alloc | apply IsS57.drewN | apply IsS57.drew | apply IsS57.set_0 | apply IsS57.set_1 | apply IsS57.set_2 | apply IsS57.set_3 | apply IsS57.set_4 | apply IsS57.set_5 | apply IsS57.set_6) | exact HI0.out)); (case side2 => repeat (first | (with_reducible first | exact HB.out | apply below_alloc | apply pw_below_drewN | apply below_drew1 | refine below_set ?_ (IsS57.ge HI0.out)) | exact HB.out)); rintro e w10 ⟨rfl, hi, hb, hk⟩; have n0_ := Aside0.mk (KeepBut.trans (by repeat (first | (with_reducible first | exact HK.out | apply KeepBut.set_ | apply keep_drewN | apply keep_drew | apply keep_alloc) | exact HK.out)) hk (.inl rfl)); have n1_ := Aside0.mk (hb); have n2_ := Aside0.mk (hi); clear HK; clear HB; clear HI0; have HK := n0_; have HB := n1_; have HI0 := n2_; clear n0_ n1_ n2_; (try clear hb); (try clear hb2); (try clear hk); (try clear hi))))
      first | go_end0 | ((try simp only [Exit.inBlock, Exit.then]); refine bodyPost_ret (results_none rfl _ _ _) rfl ?_)
      exact ⟨by first | rfl | (simp [errW_none, errW_some] <;> rfl) | (simp [*, errW_none, errW_some] <;> rfl), by repeat (first | (with_reducible first | exact HI0.out | apply IsS57.alloc | apply IsS57.drewN | apply IsS57.drew | apply IsS57.set_0 | apply IsS57.set_1 | apply IsS57.set_2 | apply IsS57.set_3 | apply IsS57.set_4 | apply IsS57.set_5 | apply IsS57.set_6) | exact HI0.out), by repeat (first | (with_reducible first | exact HB.out | apply below_alloc | apply pw_below_drewN | apply below_drew1 | refine below_set ?_ (IsS57.ge HI0.out)) | exact HB.out), by repeat (first | (with_reducible first | exact HK.out | apply KeepBut.set_ | apply keep_drewN | apply keep_drew | apply keep_alloc) | exact HK.out)⟩
    · replace c7 := Bool.eq_false_iff.mpr c7
      subst c7
      have H1 : (if t188 = 2 then ((breaker_Breaker_trips.f t189 t190 t191 t192 t193 t194 t195 a1).bind fun bt203 => (some (bt203.1, bt203.2.1, bt203.2.2.1, bt203.2.2.2.1, bt203.2.2.2.2.1, bt203.2.2.2.2.2.1, bt203.2.2.2.2.2.2))) else (if (wrap64 (t193 + 1)) ≥ t189 then ((breaker_Breaker_trips.f t189 t190 t191 t192 (wrap64 (t193 + 1)) t194 t195 a1).bind fun bt210 => (some (bt210.1, bt210.2.1, bt210.2.2.1, bt210.2.2.2.1, bt210.2.2.2.2.1, bt210.2.2.2.2.2.1, bt210.2.2.2.2.2.2))) else (some (t189, t190, t191, t192, wrap64 (t193 + 1), t194, t195)))) = some (r1, r2, r3, r4, r5, r6, r7) := by rw [if_neg (show ¬ (false = true) by decide)] at H; exact H
      clear H
      have H := H1
      clear H1
      by_cases c11 : t188 = 2
      · rw [if_pos c11] at H
        have c11b0 : (t188 == 2) = true := beq_iff_eq.mpr c11
        have c11b1 : (t188 != 2) = false := bne_eq_false_iff_eq.mpr c11
        clear c11
        replace H := Option.bind_eq_some_iff.mp H
        obtain ⟨⟨t203, t204, t205, t206, t207, t208, t209⟩, A120, H⟩ := H
        replace H : (some (t203, t204, t205, t206, t207, t208, t209)) = some (r1, r2, r3, r4, r5, r6, r7) := H
        have A12 := Aside0.mk A120
        clear A120
        simp only [Option.some.injEq, Prod.mk.injEq] at H
        obtain ⟨rfl, rfl, rfl, rfl, rfl, rfl, rfl⟩ := H
        go_enter Try.func28, Try.ntmps28
        go_wp2_with (first | (go_at_call 27; (with_reducible refine (breaker_Breaker_State.calls g s0_0 s0_1 s0_2 s0_3 s0_4 s0_5 s0_6 a1 t188 t189 t190 t191 t192 t193 t194 t195 w0 _ ?side1 ?side2 A4.out).mono ?_); (case side1 => repeat (first | (with_reducible first | exact HI0.out | apply IsS57.alloc | apply IsS57.drewN | apply IsS57.drew | apply IsS57.set_0 | apply IsS57.set_1 | apply IsS57.set_2 | apply IsS57.set_3 | apply IsS57.set_4 | apply IsS57.set_5 | apply IsS57.set_6) | exact HI0.out)); (case side2 => repeat (first | (with_reducible first | exact HB.out | apply below_alloc | apply pw_below_drewN | apply below_drew1 | refine below_set ?_ (IsS57.ge HI0.out)) | exact HB.out)); rintro e w13 ⟨rfl, hi, hb, hk⟩; have n0_ := Aside0.mk (KeepBut.trans (by repeat (first | (with_reducible first | exact HK.out | apply KeepBut.set_ | apply keep_drewN | apply keep_drew | apply keep_alloc) | exact HK.out)) hk (.inl rfl)); have n1_ := Aside0.mk (hb); have n2_ := Aside0.mk (hi); clear HK; clear HB; clear HI0; have HK := n0_; have HB := n1_; have HI0 := n2_; clear n0_ n1_ n2_; (try clear hb); (try clear hb2); (try clear hk); (try clear hi)) | (go_at_call 46; (with_reducible refine (breaker_Breaker_trips.calls g t189 t190 t191 t192 t193 t194 t195 a1 t203 t204 t205 t206 t207 t208 t209 w0 _ ?side1 ?side2 A12.out).mono ?_); (case side1 => repeat (first | (with_reducible first | exact HI0.out | apply IsS57.alloc | apply IsS57.drewN | apply IsS57.drew | apply IsS57.set_0 | apply IsS57.set_1 | apply IsS57.set_2 | apply IsS57.set_3 | apply IsS57.set_4 | apply IsS57.set_5 | apply IsS57.set_6) | exact HI0.out)); (case side2 => repeat (first | (with_reducible first | exact HB.out | apply below_alloc | apply pw_below_drewN | apply below_drew1 | refine below_set ?_ (IsS57.ge HI0.out)) | exact HB.out)); rintro e w14 ⟨rfl, hi, hb, hk⟩; have n0_ := Aside0.mk (KeepBut.trans (by repeat (first | (with_reducible first | exact HK.out | apply KeepBut.set_ | apply keep_drewN | apply keep_drew | apply keep_alloc) | exact HK.out)) hk (.inl rfl)); have n1_ := Aside0.mk (hb); have n2_ := Aside0.mk (hi); clear HK; clear HB; clear HI0; have HK := n0_; have HB := n1_; have HI0 := n2_; clear n0_ n1_ n2_; (try clear hb); (try clear hb2); (try clear hk); (try clear hi)))
        repeat (go_quiet (first | (go_at_call 27; (with_reducible refine (breaker_Breaker_State.calls g s0_0 s0_1 s0_2 s0_3 s0_4 s0_5 s0_6 a1 t188 t189 t190 t191 t192 t193 t194 t195 w0 _ ?side1 ?side2 A4.out).mono ?_); (case side1 => repeat (first | (with_reducible first | exact HI0.out | apply IsS57.alloc | apply IsS57.drewN | apply IsS57.drew | apply IsS57.set_0 | apply IsS57.set_1 | apply IsS57.set_2 | apply IsS57.set_3 | apply IsS57.set_4 | apply IsS57.set_5 | apply IsS57.set_6) | exact HI0.out)); (case side2 => repeat (first | (with_reducible first | exact HB.out | apply below_alloc | apply pw_below_drewN | apply below_drew1 | refine below_set ?_ (IsS57.ge HI0.out)) | exact HB.out)); rintro e w13 ⟨rfl, hi, hb, hk⟩; have n0_ := Aside0.mk (KeepBut.trans (by repeat (first | (with_reducible first | exact HK.out | apply KeepBut.set_ | apply keep_drewN | apply keep_drew | apply keep_alloc) | exact HK.out)) hk (.inl rfl)); have n1_ := Aside0.mk (hb); have n2_ := Aside0.mk (hi); clear HK; clear HB; clear HI0; have HK := n0_; have HB := n1_; have HI0 := n2_; clear n0_ n1_ n2_; (try clear hb); (try clear hb2); (try clear hk); (try clear hi)) | (go_at_call 46; (with_reducible refine (breaker_Breaker_trips.calls g t189 t190 t191 t192 t193 t194 t195 a1 t203 t204 t205 t206 t207 t208 t209 w0 _ ?side1 ?side2 A12.out).mono ?_); (case side1 => repeat (first | (with_reducible first | exact HI0.out | apply IsS57.alloc | apply IsS57.drewN | apply IsS57.drew | apply IsS57.set_0 | apply IsS57.set_1 | apply IsS57.set_2 | apply IsS57.set_3 | apply IsS57.set_4 | apply IsS57.set_5 | apply IsS57.set_6) | exact HI0.out)); (case side2 => repeat (first | (with_reducible first | exact HB.out | apply below_alloc | apply pw_below_drewN | apply below_drew1 | refine below_set ?_ (IsS57.ge HI0.out)) | exact HB.out)); rintro e w14 ⟨rfl, hi, hb, hk⟩; have n0_ := Aside0.mk (KeepBut.trans (by repeat (first | (with_reducible first | exact HK.out | apply KeepBut.set_ | apply keep_drewN | apply keep_drew | apply keep_alloc) | exact HK.out)) hk (.inl rfl)); have n1_ := Aside0.mk (hb); have n2_ := Aside0.mk (hi); clear HK; clear HB; clear HI0; have HK := n0_; have HB := n1_; have HI0 := n2_; clear n0_ n1_ n2_; (try clear hb); (try clear hb2); (try clear hk); (try clear hi))); try go_wp2_with (first | (go_at_call 27; (with_reducible refine (breaker_Breaker_State.calls g s0_0 s0_1 s0_2 s0_3 s0_4 s0_5 s0_6 a1 t188 t189 t190 t191 t192 t193 t194 t195 w0 _ ?side1 ?side2 A4.out).mono ?_); (case side1 => repeat (first | (with_reducible first | exact HI0.out | apply IsS57.alloc | apply IsS57.drewN | apply IsS57.drew | apply IsS57.set_0 | apply IsS57.set_1 | apply IsS57.set_2 | apply IsS57.set_3 | apply IsS57.set_4 | apply IsS57.set_5 | apply IsS57.set_6) | exact HI0.out)); (case side2 => repeat (first | (with_reducible first | exact HB.out | apply below_alloc | apply pw_below_drewN | apply below_drew1 | refine below_set ?_ (IsS57.ge HI0.out)) | exact HB.out)); rintro e w13 ⟨rfl, hi, hb, hk⟩; have n0_ := Aside0.mk (KeepBut.trans (by repeat (first | (with_reducible first | exact HK.out | apply KeepBut.set_ | apply keep_drewN | apply keep_drew | apply keep_alloc) | exact HK.out)) hk (.inl rfl)); have n1_ := Aside0.mk (hb); have n2_ := Aside0.mk (hi); clear HK; clear HB; clear HI0; have HK := n0_; have HB := n1_; have HI0 := n2_; clear n0_ n1_ n2_; (try clear hb); (try clear hb2); (try clear hk); (try clear hi)) | (go_at_call 46; (with_reducible refine (breaker_Breaker_trips.calls g t189 t190 t191 t192 t193 t194 t195 a1 t203 t204 t205 t206 t207 t208 t209 w0 _ ?side1 ?side2 A12.out).mono ?_); (case side1 => repeat (first | (with_reducible first | exact HI0.out | apply IsS57.alloc | apply IsS57.drewN | apply IsS57.drew | apply IsS57.set_0 | apply IsS57.set_1 | apply IsS57.set_2 | apply IsS57.set_3 | apply IsS57.set_4 | apply IsS57.set_5 | apply IsS57.set_6) | exact HI0.out)); (case side2 => repeat (first | (with_reducible first | exact HB.out | apply below_alloc | apply pw_below_drewN | apply below_drew1 | refine below_set ?_ (IsS57.ge HI0.out)) | exact HB.out)); rintro e w14 ⟨rfl, hi, hb, hk⟩; have n0_ := Aside0.mk (KeepBut.trans (by repeat (first | (with_reducible first | exact HK.out | apply KeepBut.set_ | apply keep_drewN | apply keep_drew | apply keep_alloc) | exact HK.out)) hk (.inl rfl)); have n1_ := Aside0.mk (hb); have n2_ := Aside0.mk (hi); clear HK; clear HB; clear HI0; have HK := n0_; have HB := n1_; have HI0 := n2_; clear n0_ n1_ n2_; (try clear hb); (try clear hb2); (try clear hk); (try clear hi))))
        first | go_end0 | ((try simp only [Exit.inBlock, Exit.then]); refine bodyPost_ret (results_none rfl _ _ _) rfl ?_)
        exact ⟨by first | rfl | (simp [errW_none, errW_some] <;> rfl) | (simp [*, errW_none, errW_some] <;> rfl), by repeat (first | (with_reducible first | exact HI0.out | apply IsS57.alloc | apply IsS57.drewN | apply IsS57.drew | apply IsS57.set_0 | apply IsS57.set_1 | apply IsS57.set_2 | apply IsS57.set_3 | apply IsS57.set_4 | apply IsS57.set_5 | apply IsS57.set_6) | exact HI0.out), by repeat (first | (with_reducible first | exact HB.out | apply below_alloc | apply pw_below_drewN | apply below_drew1 | refine below_set ?_ (IsS57.ge HI0.out)) | exact HB.out), by repeat (first | (with_reducible first | exact HK.out | apply KeepBut.set_ | apply keep_drewN | apply keep_drew | apply keep_alloc) | exact HK.out)⟩
      · rw [if_neg c11] at H
        have c11b0 : (t188 == 2) = false := beq_eq_false_iff_ne.mpr c11
        have c11b1 : (t188 != 2) = true := bne_iff_ne.mpr c11
        by_cases c15 : (wrap64 (t193 + 1)) ≥ t189
        · rw [if_pos c15] at H
          have c15b0 : decide (t189 ≤ (wrap64 (t193 + 1))) = true := decide_eq_true c15
          clear c15
          replace H := Option.bind_eq_some_iff.mp H
          obtain ⟨⟨t210, t211, t212, t213, t214, t215, t216⟩, A160, H⟩ := H
          replace H : (some (t210, t211, t212, t213, t214, t215, t216)) = some (r1, r2, r3, r4, r5, r6, r7) := H
          have A16 := Aside0.mk A160
          clear A160
          simp only [Option.some.injEq, Prod.mk.injEq] at H
          obtain ⟨rfl, rfl, rfl, rfl, rfl, rfl, rfl⟩ := H
          go_enter Try.func28, Try.ntmps28
          go_wp2_with (first | (go_at_call 27; (with_reducible refine (breaker_Breaker_State.calls g s0_0 s0_1 s0_2 s0_3 s0_4 s0_5 s0_6 a1 t188 t189 t190 t191 t192 t193 t194 t195 w0 _ ?side1 ?side2 A4.out).mono ?_); (case side1 => repeat (first | (with_reducible first | exact HI0.out | apply IsS57.alloc | apply IsS57.drewN | apply IsS57.drew | apply IsS57.set_0 | apply IsS57.set_1 | apply IsS57.set_2 | apply IsS57.set_3 | apply IsS57.set_4 | apply IsS57.set_5 | apply IsS57.set_6) | exact HI0.out)); (case side2 => repeat (first | (with_reducible first | exact HB.out | apply below_alloc | apply pw_below_drewN | apply below_drew1 | refine below_set ?_ (IsS57.ge HI0.out)) | exact HB.out)); rintro e w17 ⟨rfl, hi, hb, hk⟩; have n0_ := Aside0.mk (KeepBut.trans (by repeat (first | (with_reducible first | exact HK.out | apply KeepBut.set_ | apply keep_drewN | apply keep_drew | apply keep_alloc) | exact HK.out)) hk (.inl rfl)); have n1_ := Aside0.mk (hb); have n2_ := Aside0.mk (hi); clear HK; clear HB; clear HI0; have HK := n0_; have HB := n1_; have HI0 := n2_; clear n0_ n1_ n2_; (try clear hb); (try clear hb2); (try clear hk); (try clear hi); obtain ⟨HGz18, hgz18⟩ := HI0.out; have hcz18_0 := cellS57_0 HGz18; have hcz18_1 := cellS57_1 HGz18; have hcz18_2 := cellS57_2 HGz18; have hcz18_3 := cellS57_3 HGz18; have hcz18_4 := cellS57_4 HGz18; have hcz18_5 := cellS57_5 HGz18; have hcz18_6 := cellS57_6 HGz18; have hfz18_0 := blk_frozen HGz18 0; have hfz18_1 := blk_frozen HGz18 1; have hfz18_2 := blk_frozen HGz18 2; have hfz18_3 := blk_frozen HGz18 3; have hfz18_4 := blk_frozen HGz18 4; have hfz18_5 := blk_frozen HGz18 5; have hfz18_6 := blk_frozen HGz18 6; clear HGz18 hgz18) | (go_at_call 46; (with_reducible refine (breaker_Breaker_trips.calls g t189 t190 t191 t192 (wrap64 (t193 + 1)) t194 t195 a1 t210 t211 t212 t213 t214 t215 t216 w0 _ ?side1 ?side2 A16.out).mono ?_); (case side1 => repeat (first | (with_reducible first | exact HI0.out | apply IsS57.alloc | apply IsS57.drewN | apply IsS57.drew | apply IsS57.set_0 | apply IsS57.set_1 | apply IsS57.set_2 | apply IsS57.set_3 | apply IsS57.set_4 | apply IsS57.set_5 | apply IsS57.set_6) | exact HI0.out)); (case side2 => repeat (first | (with_reducible first | exact HB.out | apply below_alloc | apply pw_below_drewN | apply below_drew1 | refine below_set ?_ (IsS57.ge HI0.out)) | exact HB.out)); rintro e w19 ⟨rfl, hi, hb, hk⟩; have n0_ := Aside0.mk (KeepBut.trans (by repeat (first | (with_reducible first | exact HK.out | apply KeepBut.set_ | apply keep_drewN | apply keep_drew | apply keep_alloc) | exact HK.out)) hk (.inl rfl)); have n1_ := Aside0.mk (hb); have n2_ := Aside0.mk (hi); clear HK; clear HB; clear HI0; have HK := n0_; have HB := n1_; have HI0 := n2_; clear n0_ n1_ n2_; (try clear hb); (try clear hb2); (try clear hk); (try clear hi)))
          repeat (go_quiet (first | (go_at_call 27; (with_reducible refine (breaker_Breaker_State.calls g s0_0 s0_1 s0_2 s0_3 s0_4 s0_5 s0_6 a1 t188 t189 t190 t191 t192 t193 t194 t195 w0 _ ?side1 ?side2 A4.out).mono ?_); (case side1 => repeat (first | (with_reducible first | exact HI0.out | apply IsS57.alloc | apply IsS57.drewN | apply IsS57.drew | apply IsS57.set_0 | apply IsS57.set_1 | apply IsS57.set_2 | apply IsS57.set_3 | apply IsS57.set_4 | apply IsS57.set_5 | apply IsS57.set_6) | exact HI0.out)); (case side2 => repeat (first | (with_reducible first | exact HB.out | apply below_alloc | apply pw_below_drewN | apply below_drew1 | refine below_set ?_ (IsS57.ge HI0.out)) | exact HB.out)); rintro e w17 ⟨rfl, hi, hb, hk⟩; have n0_ := Aside0.mk (KeepBut.trans (by repeat (first | (with_reducible first | exact HK.out | apply KeepBut.set_ | apply keep_drewN | apply keep_drew | apply keep_alloc) | exact HK.out)) hk (.inl rfl)); have n1_ := Aside0.mk (hb); have n2_ := Aside0.mk (hi); clear HK; clear HB; clear HI0; have HK := n0_; have HB := n1_; have HI0 := n2_; clear n0_ n1_ n2_; (try clear hb); (try clear hb2); (try clear hk); (try clear hi); obtain ⟨HGz18, hgz18⟩ := HI0.out; have hcz18_0 := cellS57_0 HGz18; have hcz18_1 := cellS57_1 HGz18; have hcz18_2 := cellS57_2 HGz18; have hcz18_3 := cellS57_3 HGz18; have hcz18_4 := cellS57_4 HGz18; have hcz18_5 := cellS57_5 HGz18; have hcz18_6 := cellS57_6 HGz18; have hfz18_0 := blk_frozen HGz18 0; have hfz18_1 := blk_frozen HGz18 1; have hfz18_2 := blk_frozen HGz18 2; have hfz18_3 := blk_frozen HGz18 3; have hfz18_4 := blk_frozen HGz18 4; have hfz18_5 := blk_frozen HGz18 5; have hfz18_6 := blk_frozen HGz18 6; clear HGz18 hgz18) | (go_at_call 46; (with_reducible refine (breaker_Breaker_trips.calls g t189 t190 t191 t192 (wrap64 (t193 + 1)) t194 t195 a1 t210 t211 t212 t213 t214 t215 t216 w0 _ ?side1 ?side2 A16.out).mono ?_); (case side1 => repeat (first | (with_reducible first | exact HI0.out | apply IsS57.alloc | apply IsS57.drewN | apply IsS57.drew | apply IsS57.set_0 | apply IsS57.set_1 | apply IsS57.set_2 | apply IsS57.set_3 | apply IsS57.set_4 | apply IsS57.set_5 | apply IsS57.set_6) | exact HI0.out)); (case side2 => repeat (first | (with_reducible first | exact HB.out | apply below_alloc | apply pw_below_drewN | apply below_drew1 | refine below_set ?_ (IsS57.ge HI0.out)) | exact HB.out)); rintro e w19 ⟨rfl, hi, hb, hk⟩; have n0_ := Aside0.mk (KeepBut.trans (by repeat (first | (with_reducible first | exact HK.out | apply KeepBut.set_ | apply keep_drewN | apply keep_drew | apply keep_alloc) | exact HK.out)) hk (.inl rfl)); have n1_ := Aside0.mk (hb); have n2_ := Aside0.mk (hi); clear HK; clear HB; clear HI0; have HK := n0_; have HB := n1_; have HI0 := n2_; clear n0_ n1_ n2_; (try clear hb); (try clear hb2); (try clear hk); (try clear hi))); try go_wp2_with (first | (go_at_call 27; (with_reducible refine (breaker_Breaker_State.calls g s0_0 s0_1 s0_2 s0_3 s0_4 s0_5 s0_6 a1 t188 t189 t190 t191 t192 t193 t194 t195 w0 _ ?side1 ?side2 A4.out).mono ?_); (case side1 => repeat (first | (with_reducible first | exact HI0.out | apply IsS57.alloc | apply IsS57.drewN | apply IsS57.drew | apply IsS57.set_0 | apply IsS57.set_1 | apply IsS57.set_2 | apply IsS57.set_3 | apply IsS57.set_4 | apply IsS57.set_5 | apply IsS57.set_6) | exact HI0.out)); (case side2 => repeat (first | (with_reducible first | exact HB.out | apply below_alloc | apply pw_below_drewN | apply below_drew1 | refine below_set ?_ (IsS57.ge HI0.out)) | exact HB.out)); rintro e w17 ⟨rfl, hi, hb, hk⟩; have n0_ := Aside0.mk (KeepBut.trans (by repeat (first | (with_reducible first | exact HK.out | apply KeepBut.set_ | apply keep_drewN | apply keep_drew | apply keep_alloc) | exact HK.out)) hk (.inl rfl)); have n1_ := Aside0.mk (hb); have n2_ := Aside0.mk (hi); clear HK; clear HB; clear HI0; have HK := n0_; have HB := n1_; have HI0 := n2_; clear n0_ n1_ n2_; (try clear hb); (try clear hb2); (try clear hk); (try clear hi); obtain ⟨HGz18, hgz18⟩ := HI0.out; have hcz18_0 := cellS57_0 HGz18; have hcz18_1 := cellS57_1 HGz18; have hcz18_2 := cellS57_2 HGz18; have hcz18_3 := cellS57_3 HGz18; have hcz18_4 := cellS57_4 HGz18; have hcz18_5 := cellS57_5 HGz18; have hcz18_6 := cellS57_6 HGz18; have hfz18_0 := blk_frozen HGz18 0; have hfz18_1 := blk_frozen HGz18 1; have hfz18_2 := blk_frozen HGz18 2; have hfz18_3 := blk_frozen HGz18 3; have hfz18_4 := blk_frozen HGz18 4; have hfz18_5 := blk_frozen HGz18 5; have hfz18_6 := blk_frozen HGz18 6; clear HGz18 hgz18) | (go_at_call 46; (with_reducible refine (breaker_Breaker_trips.calls g t189 t190 t191 t192 (wrap64 (t193 + 1)) t194 t195 a1 t210 t211 t212 t213 t214 t215 t216 w0 _ ?side1 ?side2 A16.out).mono ?_); (case side1 => repeat (first | (with_reducible first | exact HI0.out | apply IsS57.alloc | apply IsS57.drewN | apply IsS57.drew | apply IsS57.set_0 | apply IsS57.set_1 | apply IsS57.set_2 | apply IsS57.set_3 | apply IsS57.set_4 | apply IsS57.set_5 | apply IsS57.set_6) | exact HI0.out)); (case side2 => repeat (first | (with_reducible first | exact HB.out | apply below_alloc | apply pw_below_drewN | apply below_drew1 | refine below_set ?_ (IsS57.ge HI0.out)) | exact HB.out)); rintro e w19 ⟨rfl, hi, hb, hk⟩; have n0_ := Aside0.mk (KeepBut.trans (by repeat (first | (with_reducible first | exact HK.out | apply KeepBut.set_ | apply keep_drewN | apply keep_drew | apply keep_alloc) | exact HK.out)) hk (.inl rfl)); have n1_ := Aside0.mk (hb); have n2_ := Aside0.mk (hi); clear HK; clear HB; clear HI0; have HK := n0_; have HB := n1_; have HI0 := n2_; clear n0_ n1_ n2_; (try clear hb); (try clear hb2); (try clear hk); (try clear hi))))
          first | go_end0 | ((try simp only [Exit.inBlock, Exit.then]); refine bodyPost_ret (results_none rfl _ _ _) rfl ?_)
          exact ⟨by first | rfl | (simp [errW_none, errW_some] <;> rfl) | (simp [*, errW_none, errW_some] <;> rfl), by repeat (first | (with_reducible first | exact HI0.out | apply IsS57.alloc | apply IsS57.drewN | apply IsS57.drew | apply IsS57.set_0 | apply IsS57.set_1 | apply IsS57.set_2 | apply IsS57.set_3 | apply IsS57.set_4 | apply IsS57.set_5 | apply IsS57.set_6) | exact HI0.out), by repeat (first | (with_reducible first | exact HB.out | apply below_alloc | apply pw_below_drewN | apply below_drew1 | refine below_set ?_ (IsS57.ge HI0.out)) | exact HB.out), by repeat (first | (with_reducible first | exact HK.out | apply KeepBut.set_ | apply keep_drewN | apply keep_drew | apply keep_alloc) | exact HK.out)⟩
        · rw [if_neg c15] at H
          have c15b0 : decide (t189 ≤ (wrap64 (t193 + 1))) = false := decide_eq_false c15
          clear c15
          simp only [Option.some.injEq, Prod.mk.injEq] at H
          obtain ⟨rfl, rfl, rfl, rfl, rfl, rfl, rfl⟩ := H
          go_enter Try.func28, Try.ntmps28
          go_wp2_with (first | (go_at_call 27; (with_reducible refine (breaker_Breaker_State.calls g s0_0 s0_1 s0_2 s0_3 s0_4 s0_5 s0_6 a1 t188 t189 t190 t191 t192 t193 t194 t195 w0 _ ?side1 ?side2 A4.out).mono ?_); (case side1 => repeat (first | (with_reducible first | exact HI0.out | apply IsS57.alloc | apply IsS57.drewN | apply IsS57.drew | apply IsS57.set_0 | apply IsS57.set_1 | apply IsS57.set_2 | apply IsS57.set_3 | apply IsS57.set_4 | apply IsS57.set_5 | apply IsS57.set_6) | exact HI0.out)); (case side2 => repeat (first | (with_reducible first | exact HB.out | apply below_alloc | apply pw_below_drewN | apply below_drew1 | refine below_set ?_ (IsS57.ge HI0.out)) | exact HB.out)); rintro e w20 ⟨rfl, hi, hb, hk⟩; have n0_ := Aside0.mk (KeepBut.trans (by repeat (first | (with_reducible first | exact HK.out | apply KeepBut.set_ | apply keep_drewN | apply keep_drew | apply keep_alloc) | exact HK.out)) hk (.inl rfl)); have n1_ := Aside0.mk (hb); have n2_ := Aside0.mk (hi); clear HK; clear HB; clear HI0; have HK := n0_; have HB := n1_; have HI0 := n2_; clear n0_ n1_ n2_; (try clear hb); (try clear hb2); (try clear hk); (try clear hi); obtain ⟨HGz21, hgz21⟩ := HI0.out; have hcz21_0 := cellS57_0 HGz21; have hcz21_1 := cellS57_1 HGz21; have hcz21_2 := cellS57_2 HGz21; have hcz21_3 := cellS57_3 HGz21; have hcz21_4 := cellS57_4 HGz21; have hcz21_5 := cellS57_5 HGz21; have hcz21_6 := cellS57_6 HGz21; have hfz21_0 := blk_frozen HGz21 0; have hfz21_1 := blk_frozen HGz21 1; have hfz21_2 := blk_frozen HGz21 2; have hfz21_3 := blk_frozen HGz21 3; have hfz21_4 := blk_frozen HGz21 4; have hfz21_5 := blk_frozen HGz21 5; have hfz21_6 := blk_frozen HGz21 6; clear HGz21 hgz21))
          repeat (go_quiet (first | (go_at_call 27; (with_reducible refine (breaker_Breaker_State.calls g s0_0 s0_1 s0_2 s0_3 s0_4 s0_5 s0_6 a1 t188 t189 t190 t191 t192 t193 t194 t195 w0 _ ?side1 ?side2 A4.out).mono ?_); (case side1 => repeat (first | (with_reducible first | exact HI0.out | apply IsS57.alloc | apply IsS57.drewN | apply IsS57.drew | apply IsS57.set_0 | apply IsS57.set_1 | apply IsS57.set_2 | apply IsS57.set_3 | apply IsS57.set_4 | apply IsS57.set_5 | apply IsS57.set_6) | exact HI0.out)); (case side2 => repeat (first | (with_reducible first | exact HB.out | apply below_alloc | apply pw_below_drewN | apply below_drew1 | refine below_set ?_ (IsS57.ge HI0.out)) | exact HB.out)); rintro e w20 ⟨rfl, hi, hb, hk⟩; have n0_ := Aside0.mk (KeepBut.trans (by repeat (first | (with_reducible first | exact HK.out | apply KeepBut.set_ | apply keep_drewN | apply keep_drew | apply keep_alloc) | exact HK.out)) hk (.inl rfl)); have n1_ := Aside0.mk (hb); have n2_ := Aside0.mk (hi); clear HK; clear HB; clear HI0; have HK := n0_; have HB := n1_; have HI0 := n2_; clear n0_ n1_ n2_; (try clear hb); (try clear hb2); (try clear hk); (try clear hi); obtain ⟨HGz21, hgz21⟩ := HI0.out; have hcz21_0 := cellS57_0 HGz21; have hcz21_1 := cellS57_1 HGz21; have hcz21_2 := cellS57_2 HGz21; have hcz21_3 := cellS57_3 HGz21; have hcz21_4 := cellS57_4 HGz21; have hcz21_5 := cellS57_5 HGz21; have hcz21_6 := cellS57_6 HGz21; have hfz21_0 := blk_frozen HGz21 0; have hfz21_1 := blk_frozen HGz21 1; have hfz21_2 := blk_frozen HGz21 2; have hfz21_3 := blk_frozen HGz21 3; have hfz21_4 := blk_frozen HGz21 4; have hfz21_5 := blk_frozen HGz21 5; have hfz21_6 := blk_frozen HGz21 6; clear HGz21 hgz21)); try go_wp2_with (first | (go_at_call 27; (with_reducible refine (breaker_Breaker_State.calls g s0_0 s0_1 s0_2 s0_3 s0_4 s0_5 s0_6 a1 t188 t189 t190 t191 t192 t193 t194 t195 w0 _ ?side1 ?side2 A4.out).mono ?_); (case side1 => repeat (first | (with_reducible first | exact HI0.out | apply IsS57.alloc | apply IsS57.drewN | apply IsS57.drew | apply IsS57.set_0 | apply IsS57.set_1 | apply IsS57.set_2 | apply IsS57.set_3 | apply IsS57.set_4 | apply IsS57.set_5 | apply IsS57.set_6) | exact HI0.out)); (case side2 => repeat (first | (with_reducible first | exact HB.out | apply below_alloc | apply pw_below_drewN | apply below_drew1 | refine below_set ?_ (IsS57.ge HI0.out)) | exact HB.out)); rintro e w20 ⟨rfl, hi, hb, hk⟩; have n0_ := Aside0.mk (KeepBut.trans (by repeat (first | (with_reducible first | exact HK.out | apply KeepBut.set_ | apply keep_drewN | apply keep_drew | apply keep_alloc) | exact HK.out)) hk (.inl rfl)); have n1_ := Aside0.mk (hb); have n2_ := Aside0.mk (hi); clear HK; clear HB; clear HI0; have HK := n0_; have HB := n1_; have HI0 := n2_; clear n0_ n1_ n2_; (try clear hb); (try clear hb2); (try clear hk); (try clear hi); obtain ⟨HGz21, hgz21⟩ := HI0.out; have hcz21_0 := cellS57_0 HGz21; have hcz21_1 := cellS57_1 HGz21; have hcz21_2 := cellS57_2 HGz21; have hcz21_3 := cellS57_3 HGz21; have hcz21_4 := cellS57_4 HGz21; have hcz21_5 := cellS57_5 HGz21; have hcz21_6 := cellS57_6 HGz21; have hfz21_0 := blk_frozen HGz21 0; have hfz21_1 := blk_frozen HGz21 1; have hfz21_2 := blk_frozen HGz21 2; have hfz21_3 := blk_frozen HGz21 3; have hfz21_4 := blk_frozen HGz21 4; have hfz21_5 := blk_frozen HGz21 5; have hfz21_6 := blk_frozen HGz21 6; clear HGz21 hgz21)))
          first | go_end0 | ((try simp only [Exit.inBlock, Exit.then]); refine bodyPost_ret (results_none rfl _ _ _) rfl ?_)
          exact ⟨by first | rfl | (simp [errW_none, errW_some] <;> rfl) | (simp [*, errW_none, errW_some] <;> rfl), by repeat (first | (with_reducible first | exact HI0.out | apply IsS57.alloc | apply IsS57.drewN | apply IsS57.drew | apply IsS57.set_0 | apply IsS57.set_1 | apply IsS57.set_2 | apply IsS57.set_3 | apply IsS57.set_4 | apply IsS57.set_5 | apply IsS57.set_6) | exact HI0.out), by repeat (first | (with_reducible first | exact HB.out | apply below_alloc | apply pw_below_drewN | apply below_drew1 | refine below_set ?_ (IsS57.ge HI0.out)) | exact HB.out), by repeat (first | (with_reducible first | exact HK.out | apply KeepBut.set_ | apply keep_drewN | apply keep_drew | apply keep_alloc) | exact HK.out)⟩

end Go.Proofs.Ytiohhfjocmibdaa.Q
