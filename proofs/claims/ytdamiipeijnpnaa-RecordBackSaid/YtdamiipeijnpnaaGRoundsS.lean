/- A range over a function whose iterator hands out all of a list, each element with what is known of it in memory, and turns none but blocks of its own that are no cells. -/
import Derived.RangeFuncNested
import Derived.RangeFuncLeaves
import Derived.RangeFuncBox
import Derived.Test.YtdamiipeijnpnaaWWords
namespace Go.Proofs.Ytdamiipeijnpnaa.Q
open Go.RowKit Go.Proofs.YtdamiipeijnpnaaW.PrintWords
set_option linter.unusedVariables false
set_option linter.unusedSimpArgs false

/-- An iterator value that hands out all of a list, as S tells: whatever the loop's rounds carry (J), if they keep what Kp says and whatever is no cells from where the call began, comes out of it with a list that is as S tells. V: what is known of an element, and of what came before it, where it is handed out. -/
def RoundsS {α : Type} (F : Fence) (n : Nat) (P : Program) (g : Nat) (lb : Array Value) (encs : α → Array Value) (Kp : World → World → Prop) (V : List α → α → World → World → Prop) (S : List α → Prop) (w : World) : Prop :=
  ∀ (l : Nat) (J : List α → World → Prop) (W : World), Below w.heap.size w W → OwnFrom W.heap.size J →
    (∀ (pre : List α) (x : α) (W0 W1 : World), J pre W0 → Below W0.heap.size W0 W1 → V pre x W0 W1 → YieldAt F (n - 1) P l (encs x) W1 fun e W' =>
      e = .returned (.bool true) ∧ J (pre ++ [x]) W' ∧ Kp W1 W' ∧ KeepsFrom W.heap.size W1 W') →
    J [] W →
    CallsIn F n P g (#[.func (.yield l) #[] #[]] ++ lb) W fun e W' => (∃ v, e = .returned v) ∧ ∃ Z, S Z ∧ J Z W'

/-- How a round's body may end: off its end alone. -/
def roundEndS {α : Type} (B : Nat) (Kp : World → World → Prop) (I : List α → World → Prop) (xs : List α) (W : World) : Exit → Act → World → Prop
  | .normal, _, W' => KeepsFrom B W W' ∧ Kp W W' ∧ I xs W'
  | _, _, _ => False

theorem keepsFrom_putObj {B : Nat} {W : World} {k : Nat} (o' : Obj) (h : k < B) : KeepsFrom B W (W.putObj k o') :=
  KeepsFrom.of_grownBy (grownBy_putObj' W k o') (fun j e => by cases e; exact h)
theorem keepsFrom_up {B B' : Nat} {W W' : World} (h : KeepsFrom B W W') (hB : B ≤ B') : KeepsFrom B' W W' := ⟨h.size, fun k o hk => h.same k o (Nat.le_trans hB hk)⟩

/-- The law of the statement. -/
theorem range_roundsS {F : Fence} {n : Nat} {P : Program} {α : Type} {g : Operand} {ps : Array Tmp} {assign body : Code} {Q : Exit → Act → World → Prop} {a : Act} {w : World}
    (hro : F.round = none) (h1 : 1 ≤ n) {gf : Nat} {lb : Array Value} (hg : a.eval g = .func (.func gf) #[] lb) (hFg : F.fn gf) (eg : ∀ args w, (callFunc gf args).run P w = .ok (.enter gf args) w)
    {encs : α → Array Value} {Kp : World → World → Prop} {V : List α → α → World → World → Prop} {S : List α → Prop} {w0 : World} (hseq : RoundsS F (n - 1) P gf lb encs Kp V S w0) (hb0 : Below w0.heap.size w0 w)
    (hKt : ∀ {A B C : World}, Kp A B → Kp B C → Kp A C) (hKb : ∀ (W : World) (l : Nat) (o o' : Obj), w.heap.size ≤ l → W.heap[l]? = some o → o.isCells = false → o.isWalk = false → Kp W (W.putObj l o')) (hps : ∀ x, (encs x).size = ps.size)
    (I : List α → World → Prop) (hI : OwnFrom w.heap.size I) (h0 : I [] w) (Ax : List α → α → Act → World → Prop) (hAx : ∀ pre x a', OwnFrom w.heap.size (fun (_ : Unit) W => Ax pre x a' W))
    (hassign : ∀ (l : Nat) (pre : List α) (x : α) (W0 W : World) (K : Act → World → Prop), I pre W0 → Below W0.heap.size W0 W → I pre W → V pre x W0 W → (∀ a' W', KeepsFrom w.heap.size W W' → Kp W W' → I pre W' → Ax pre x a' W' → K a' W') →
      assign.wpIn (F.inRound l) (n - 1 - 1) P (Exit.then K (fun _ _ _ => False)) { tmps := (ps.zip (encs x)).foldl (fun t (p, v) => t.setIfInBounds p v) a.tmps, defers := [] } W)
    (hbody : ∀ (l : Nat) (pre : List α) (x : α) (a' : Act) (W : World), w.heap.size ≤ l → (∃ r, W.heap[l]? = some (.loop r)) → I pre W → Ax pre x a' W → body.wpIn (F.inRound l) (n - 1 - 1) P (roundEndS w.heap.size Kp I (pre ++ [x]) W) a' W)
    (hdone : ∀ (D : Nat) (Z : List α) (W : World), w.heap.size ≤ D → S Z → I Z W → W.heap[D]? = some (.deferred (some [])) → Q .normal { a with defers := { target := .collected D, args := #[] } :: a.defers } W) :
    (Code.rangeFunc g ps assign body).wpIn F n P Q a w := by
  refine wpIn_rangeFunc fun fn hfn => ?_
  rw [hro]
  -- the two blocks that the statement lays: the rounds' deferred calls at D, the record at L
  obtain ⟨D, hD⟩ : ∃ D, D = w.heap.size := ⟨_, rfl⟩
  obtain ⟨R, hR⟩ : ∃ R : LoopState → Loop, R = fun s => { state := s, pending := none, fn, tmps := a.tmps, params := ps, assign, body, defers := D } := ⟨_, rfl⟩
  obtain ⟨W1, hW1⟩ : ∃ W1, (w.alloc (.deferred (some []))).alloc (.loop (R .ready)) = W1 := ⟨_, rfl⟩
  have hs1 : W1.heap.size = D + 1 + 1 := by rw [← hW1, hD, World.size_alloc, World.size_alloc]
  have kL : W1.heap[D + 1]? = some (.loop (R .ready)) := by
    have := World.alloc_heap_new (w.alloc (.deferred (some []))) (.loop (R .ready))
    rw [World.size_alloc, ← hD] at this
    rw [← hW1]; exact this
  have kD : W1.heap[D]? = some (.deferred (some [])) := by
    rw [← hW1, hD]; exact (Below.heap_alloc _ _ _ (by simp)).trans (World.alloc_heap_new w _)
  have hB1 : Below w.heap.size w W1 := by
    rw [← hW1]; exact ((Below.refl _ w).alloc (Nat.le_refl _) _).alloc (by simp) _
  -- what the rounds carry: the caller's own, and the two blocks
  obtain ⟨J, hJ⟩ : ∃ J : List α → World → Prop, J = fun pre W => I pre W ∧ W.heap[D + 1]? = some (.loop (R .ready)) ∧ W.heap[D]? = some (.deferred (some [])) := ⟨_, rfl⟩
  have hJo : OwnFrom W1.heap.size J := by
    rw [hJ]
    rintro s A B row ⟨hi, hl, hk⟩ hgr hrow
    have away : ∀ k, k < D + 2 → B.heap[k]? = A.heap[k]? ∨ A.heap.size ≤ k := fun k hk => by
      by_cases hlt : k < A.heap.size
      · exact .inl (hgr.block k hlt (fun e => by have := (hrow k e.symm).1; omega))
      · exact .inr (by omega)
    have same : ∀ k o, k < D + 2 → A.heap[k]? = some o → B.heap[k]? = some o := fun k o hk ho => by
      rcases away k hk with h | h
      · exact h.trans ho
      · have := (Array.getElem?_eq_some_iff.1 ho).1; omega
    exact ⟨hI s A B row hi hgr (fun r e => ⟨by have := (hrow r e).1; omega, (hrow r e).2⟩), same _ _ (by omega) hl, same _ _ (by omega) hk⟩
  refine ⟨D + 1, [{ target := .collected D, args := #[] }], W1, { target := .fn (.func gf) lb, args := #[.func (.yield (D + 1)) #[] #[]] }, W1, gf, #[.func (.yield (D + 1)) #[] #[]] ++ lb, W1, ?_, ?_, ?_, ?_, fun _ => h1, ?_⟩
  · rw [← hW1, hR, hD]; exact run_enterLoop_outer _ _ _ _ _
  · simp only [resolve, hg]
    simp [go_sem]
  · intro f' hf'; simp [Target.leads] at hf'; subst hf'; exact hFg
  · simp [invoke, go_sem, eg]
  refine (hseq (D + 1) J W1 (hb0.trans (hB1.mono hb0.size)) hJo ?_ (by rw [hJ]; exact ⟨by rw [← hW1]; exact hI.alloc _ (hI.alloc _ h0), kL, kD⟩)).mono ?_
  · -- one round
    intro pre x W0 W hj0 hbW hv
    have hj := hJo _ W0 W none hj0 (grown_of_below hbW none) (fun r e => by cases e)
    rw [hJ] at hj hj0
    obtain ⟨hi, hl, hk⟩ := hj
    have hy := run_yield (P := P) (args := encs x) hl (by rw [hR]; exact hps x)
    rw [hR] at hy
    refine ⟨fn, _, assign, body, hy, roundIn_of_wpIn hfn (hassign _ pre x W0 W _ hj0.1 hbW hi hv fun a' Wa kf kb hia hax => ?_)⟩
    clear hy
    have hla := kf.same _ _ (by omega) hl rfl
    have hka := kf.same _ _ (by omega) hk rfl
    have hlt : D + 1 < Wa.heap.size := (Array.getElem?_eq_some_iff.1 hla).1
    refine ⟨_, run_beginRound hla (by rw [hR]), ?_⟩
    obtain ⟨Wb, hWb⟩ : ∃ Wb, Wa.putObj (D + 1) (.loop { R .ready with state := .busy }) = Wb := ⟨_, rfl⟩
    rw [hWb]
    have hlb : Wb.heap[D + 1]? = some (.loop { R .ready with state := .busy }) := by rw [← hWb]; exact World.putObj_heap_same hlt
    have hkb : Wb.heap[D]? = some (.deferred (some [])) := by rw [← hWb]; exact (World.putObj_heap_other (by omega)).trans hka
    have hib : I pre Wb := by rw [← hWb]; exact hI.putObj _ hia (by omega) hla rfl
    have haxb : Ax pre x a' Wb := by rw [← hWb]; exact (hAx pre x a').putObj (s := ()) _ hax (by omega) hla rfl
    have hbb : Kp Wa Wb := by rw [← hWb]; exact hKb _ _ _ _ (by omega) hla rfl rfl
    have hfb : KeepsFrom W1.heap.size Wa Wb := by rw [← hWb]; exact keepsFrom_putObj _ (by omega)
    refine wpIn_mono (hbody _ pre x a' Wb (by omega) ⟨_, hlb⟩ hib haxb) ?_
    rintro e a3 W3 hp
    cases e with
    | normal =>
      obtain ⟨k3, b3, i3⟩ := hp
      have hl3 := k3.same _ _ (by omega) hlb rfl
      have hk3 := k3.same _ _ (by omega) hkb rfl
      have hr := run_endRound (P := P) none hl3
      have hlt3 : D + 1 < W3.heap.size := (Array.getElem?_eq_some_iff.1 hl3).1
      refine ⟨_, _, hr, rfl, ?_, ?_, ?_⟩
      · rw [hJ]
        refine ⟨hI.putObj _ i3 (by omega) hl3 rfl, ?_, (World.putObj_heap_other (by omega)).trans hk3⟩
        rw [World.putObj_heap_same hlt3, hR]
        rfl
      · exact hKt (hKt kb (hKt hbb b3)) (hKb _ _ _ _ (by omega) hl3 rfl rfl)
      · exact (((keepsFrom_up kf (by omega)).trans hfb).trans (keepsFrom_up k3 (by omega))).trans (keepsFrom_putObj _ (by omega))
    | ret => exact hp.elim
    | exit id => exact hp.elim
    | goto t => exact hp.elim
    | panic ch => exact hp.elim
    | outgrown => exact hp.elim
  · -- behind the iterator
    rintro e W2 ⟨⟨v, rfl⟩, Z, hZ, hj⟩
    rw [hJ] at hj
    obtain ⟨hi, hl, hk⟩ := hj
    have hend := run_endLoop (P := P) hl (by rw [hR]; simp)
    refine ⟨none, _, by rw [hend, hR], ?_⟩
    exact hdone D Z _ (by omega) hZ (hI.putObj _ hi (by omega) hl rfl) ((World.putObj_heap_other (by omega)).trans hk)

#print axioms range_roundsS
end Go.Proofs.Ytdamiipeijnpnaa.Q
