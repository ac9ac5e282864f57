/- quota: a gate of one row that is the call's own. -/
import Derived.Test.YtchfkkpghipeiaaDoorGQuotaLeft
import Derived.ArgAppend
namespace Go.Proofs.YtchfkkpghipeiaaDoor.Q
open Go.RowKit Go.Shelf Go.Proofs.YtchfkkpghipeiaaDoorW.PrintWords Go.Proofs.YtchfkkpghipeiaaDoorW.PrintLast Go.Proofs.YtchfkkpghipeiaaDoorW.PrintMore
set_option linter.unusedVariables false
set_option linter.unusedSimpArgs false

/-- A row's block: the row ahead, whatever behind. -/
def rowC (x : S46) (A : Option Addr) (rest : Array Value) : Array Value := #[.string x.f0.f0, .int .i64 x.f0.f1, .int .i64 x.f0.f2, .slice A x.f1.length x.f1.length] ++ rest
theorem rowC_0 (x : S46) (A : Option Addr) (rest : Array Value) : (rowC x A rest)[0]? = some (.string x.f0.f0) := (Array.getElem?_append_left (show 0 < 4 by decide)).trans rfl
theorem rowC_1 (x : S46) (A : Option Addr) (rest : Array Value) : (rowC x A rest)[1]? = some (.int .i64 x.f0.f1) := (Array.getElem?_append_left (show 1 < 4 by decide)).trans rfl
theorem rowC_2 (x : S46) (A : Option Addr) (rest : Array Value) : (rowC x A rest)[2]? = some (.int .i64 x.f0.f2) := (Array.getElem?_append_left (show 2 < 4 by decide)).trans rfl
theorem rowC_3 (x : S46) (A : Option Addr) (rest : Array Value) : (rowC x A rest)[3]? = some (.slice A x.f1.length x.f1.length) := (Array.getElem?_append_left (show 3 < 4 by decide)).trans rfl
/-- The ticks' slice is put. -/
def rowU (x : S46) (v : Value) (rest : Array Value) : Array Value := #[.string x.f0.f0, .int .i64 x.f0.f1, .int .i64 x.f0.f2, v] ++ rest
theorem rowC_V (x : S46) (A : Option Addr) (rest : Array Value) : rowC x A rest = rowU x (.slice A x.f1.length x.f1.length) rest := rfl
theorem rowU_put (x : S46) (v v' : Value) (rest : Array Value) : (rowU x v rest).setIfInBounds 3 v' = rowU x v' rest := by
  apply Array.ext'
  simp [rowU]
theorem rowU_0 (x : S46) (v : Value) (rest : Array Value) : (rowU x v rest)[0]? = some (.string x.f0.f0) := (Array.getElem?_append_left (show 0 < 4 by decide)).trans rfl
theorem rowU_1 (x : S46) (v : Value) (rest : Array Value) : (rowU x v rest)[1]? = some (.int .i64 x.f0.f1) := (Array.getElem?_append_left (show 1 < 4 by decide)).trans rfl
theorem rowU_2 (x : S46) (v : Value) (rest : Array Value) : (rowU x v rest)[2]? = some (.int .i64 x.f0.f2) := (Array.getElem?_append_left (show 2 < 4 by decide)).trans rfl
theorem rowU_3 (x : S46) (v : Value) (rest : Array Value) : (rowU x v rest)[3]? = some v := (Array.getElem?_append_left (show 3 < 4 by decide)).trans rfl

/-- A gate of one row: its own block, the row's, and the ticks' (read; none of these two; as ok says). -/
def IsG (base : Nat) (ok : Nat → Prop) (W : World) (g b : Nat) (x : S46) (t : Int) : Prop :=
  ∃ cap A rest, W.heap[g]? = some (.cells #[.slice (some ⟨b, 0, none⟩) 1 cap, .int .i64 t] 42 (0, 0)) ∧ W.heap[b]? = some (.cells (rowC x A rest) 46 (0, 0)) ∧ 1 ≤ cap ∧ base ≤ g ∧ base ≤ b ∧ Kd.F (Kd.int .i64) W (fun k => (k ≠ g ∧ k ≠ b) ∧ ok k) A x.f1.length x.f1
theorem IsG.below {base : Nat} {ok : Nat → Prop} {W W' : World} {g b : Nat} {x : S46} {t : Int} (h : IsG base ok W g b x t) (hb : Below W.heap.size W W') : IsG base ok W' g b x t := by
  obtain ⟨cap, A, rest, h1, h2, h3, h4, h5, h6⟩ := h
  exact ⟨cap, A, rest, blk_below h1 hb, blk_below h2 hb, h3, h4, h5, Kd.F_below h6 hb⟩
theorem IsG.lower {base base' : Nat} {ok : Nat → Prop} {W : World} {g b : Nat} {x : S46} {t : Int} (h : IsG base ok W g b x t) (hb : base' ≤ base) : IsG base' ok W g b x t := by
  obtain ⟨cap, A, rest, h1, h2, h3, h4, h5, h6⟩ := h
  exact ⟨cap, A, rest, h1, h2, h3, by omega, by omega, h6⟩
theorem IsG.mono {base : Nat} {ok ok' : Nat → Prop} {W : World} {g b : Nat} {x : S46} {t : Int} (h : IsG base ok W g b x t) (hk : ∀ k, ok k → ok' k) : IsG base ok' W g b x t := by
  obtain ⟨cap, A, rest, h1, h2, h3, h4, h5, h6⟩ := h
  exact ⟨cap, A, rest, h1, h2, h3, h4, h5, Kd.F_mono h6 (fun k hh => ⟨hh.1, hk k hh.2⟩)⟩
theorem IsG.bound {base : Nat} {ok : Nat → Prop} {W : World} {g b : Nat} {x : S46} {t : Int} (h : IsG base ok W g b x t) : IsG base (fun k => ok k ∧ k < W.heap.size) W g b x t := by
  obtain ⟨cap, A, rest, h1, h2, h3, h4, h5, h6⟩ := h
  exact ⟨cap, A, rest, h1, h2, h3, h4, h5, Kd.F_mono (Kd.F_bound h6) (fun k hh => ⟨hh.1.1, hh.1.2, hh.2⟩)⟩
/-- Something else grew: none of the gate's blocks. -/
theorem IsG.grown {base : Nat} {ok : Nat → Prop} {W W' : World} {g b : Nat} {x : S46} {t : Int} {row : Option Nat} (h : IsG base ok W g b x t) (hg : W.grownBy W' row) (h1 : some g ≠ row) (h2 : some b ≠ row) (h3 : ∀ k, ok k → some k ≠ row) : IsG base ok W' g b x t := by
  obtain ⟨cap, A, rest, i1, i2, i3, i4, i5, i6⟩ := h
  exact ⟨cap, A, rest, blk_grown i1 hg h1, blk_grown i2 hg h2, i3, i4, i5, Kd.F_grown i6 hg (fun k hk => h3 k hk.2)⟩
theorem IsG.types {base : Nat} {ok : Nat → Prop} {W : World} {g b : Nat} {x : S46} {t : Int} (h : IsG base ok W g b x t) : (∃ cs, W.heap[g]? = some (.cells cs 42 (0, 0))) ∧ (∃ cs, W.heap[b]? = some (.cells cs 46 (0, 0))) := by
  obtain ⟨cap, A, rest, h1, h2, _⟩ := h
  exact ⟨⟨_, h1⟩, ⟨_, h2⟩⟩
/-- What is below base stays, and all that was there but the gate's two blocks. -/
def BG (base g b : Nat) (w W : World) : Prop := Below base w W ∧ w.heap.size ≤ W.heap.size ∧ ∀ k, k < w.heap.size → k ≠ g → k ≠ b → W.heap[k]? = w.heap[k]?
theorem BG.of_below {base g b : Nat} {w W : World} (h : Below w.heap.size w W) (hs : base ≤ w.heap.size) : BG base g b w W := ⟨h.mono hs, h.size, fun k hk _ _ => h.block k hk⟩
theorem BG.drew {base g b : Nat} {w W : World} (h : BG base g b w W) : BG base g b w W.drew := ⟨below_drew1 h.1, h.2.1, h.2.2⟩
theorem BG.below {base g b : Nat} {w W W' : World} (h : BG base g b w W) (hs : base ≤ W.heap.size) (hb : Below W.heap.size W W') : BG base g b w W' :=
  ⟨h.1.trans (hb.mono hs), Nat.le_trans h.2.1 hb.size, fun k hk h1 h2 => (hb.block k (Nat.lt_of_lt_of_le hk h.2.1)).trans (h.2.2 k hk h1 h2)⟩
theorem BG.set {base g b : Nat} {w W : World} (h : BG base g b w W) {p : Addr} (hp : base ≤ p.block) (hgb : p.block = g ∨ p.block = b) (u : Value) : BG base g b w (W.setCell p u) :=
  ⟨h.1.setCell hp u, by have := h.2.1; simpa [World.setCell] using this, fun k hk h1 h2 => (Below.heap_setCell W p u k (by rcases hgb with e | e <;> rw [e] <;> assumption)).trans (h.2.2 k hk h1 h2)⟩
theorem BG.trans {base g b : Nat} {w W W' : World} (h : BG base g b w W) (h' : BG base g b W W') : BG base g b w W' :=
  ⟨h.1.trans h'.1, Nat.le_trans h.2.1 h'.2.1, fun k hk h1 h2 => (h'.2.2 k (Nat.lt_of_lt_of_le hk h.2.1) h1 h2).trans (h.2.2 k hk h1 h2)⟩
theorem row_reads {W : World} {b cap : Nat} {x : S46} {A : Option Addr} {rest : Array Value} (h2 : W.heap[b]? = some (.cells (rowC x A rest) 46 (0, 0))) (h6 : Kd.C (Kd.int .i64) W A x.f1.length x.f1) : Kd.C k46 W (some ⟨b, 0, none⟩) 1 [x] := by
  refine ⟨rfl, by decide, fun _ => ⟨_, rfl, fun j p hj => ?_⟩⟩
  cases j with
  | succ j => cases hj
  | zero =>
    cases hj
    refine ⟨_, rfl, k46_mk W x (Nat.le_refl _) h6, fun j u hj => ?_⟩
    have hc : ∀ i, W.cell? ⟨b, i, none⟩ = (rowC x A rest)[i]? := fun i => blk_cell h2 i
    have e : ((⟨b, 0, none⟩ : Addr).add (0 * k46.sz + j)) = ⟨b, j, none⟩ := by rw [Nat.zero_mul, Nat.zero_add, Addr.add_lit, Nat.zero_add]
    rw [e, hc]
    match j, hj with
    | 0, hj => exact (rowC_0 x A rest).trans hj
    | 1, hj => exact (rowC_1 x A rest).trans hj
    | 2, hj => exact (rowC_2 x A rest).trans hj
    | 3, hj => exact (rowC_3 x A rest).trans hj
    | j + 4, hj => cases hj
theorem IsG.rd {base : Nat} {ok : Nat → Prop} {W : World} {g b : Nat} {x : S46} {t : Int} (h : IsG base ok W g b x t) : RdG W g [x] t := by
  obtain ⟨cap, A, rest, h1, h2, h3, h4, h5, h6⟩ := h
  exact ⟨_, cap, h1, row_reads (cap := cap) h2 (Kd.F_now h6), h3⟩

theorem info3 : (Tryd.prog.info? 3).map (fun i => (i.zero, i.size, i.bytes)) = some (some (.int .i64 0), 1, 8) := by kernel_rfl

/-- 'append(l, x)' where l has no room. -/
theorem append_full (W : World) (ty : TypeId) (A : Option Addr) (ts : List Int) (y : Int) (nb : Nat) (hC : Kd.C (Kd.int .i64) W A ts.length ts) (hl : ts.length < 1000000) (hA : A = none → ts.length = 0) (hn : W.heap[nb]? = some (.cells #[.int .i64 y] 3 (0, 0))) :
    ∃ v w', (Builtin.append_ #[24, 24] ty #[.slice A ts.length ts.length, .slice (some ⟨nb, 0, none⟩) 1 1]).run Tryd.prog W = .ok v w' ∧ W.grownBy w' none ∧ ∃ q cap, v = .slice (some ⟨q, 0, none⟩) (ts ++ [y]).length cap ∧ W.heap.size ≤ q ∧ (ts ++ [y]).length ≤ cap ∧ Kd.F (Kd.int .i64) w' (fun k => k = q) (some ⟨q, 0, none⟩) (ts ++ [y]).length (ts ++ [y]) := by
  obtain ⟨i0, hi, hzz⟩ := Option.map_eq_some_iff.1 info3
  simp only [Prod.mk.injEq] at hzz
  obtain ⟨hz0, hz1, hz2⟩ := hzz
  have hnc : ∀ j u, [Value.int .i64 y][j]? = some u → W.cell? ((⟨nb, 0, none⟩ : Addr).add j) = some u := fun j u hj => by
    rw [Addr.add_lit, Nat.zero_add, blk_cell hn j]
    match j, hj with
    | 0, hj => exact hj
    | j + 1, hj => cases hj
  have fin : ∀ v' w', w'.ownsRow W.heap.size 3 1 v' (ts.length + 1) (encs (Value.int .i64) ts ++ [Value.int .i64 y]) → W.grownBy w' none → ∃ q cap, v' = .slice (some ⟨q, 0, none⟩) (ts ++ [y]).length cap ∧ W.heap.size ≤ q ∧ (ts ++ [y]).length ≤ cap ∧ Kd.F (Kd.int .i64) w' (fun k => k = q) (some ⟨q, 0, none⟩) (ts ++ [y]).length (ts ++ [y]) := by
    intro v' w' ho hg
    have hlen : (ts ++ [y]).length = ts.length + 1 := by simp
    have he : encs (Value.int .i64) ts ++ [Value.int .i64 y] = encs (Value.int .i64) (ts ++ [y]) := by simp [encs]
    rw [he, ← hlen] at ho
    obtain ⟨_, h⟩ := ho
    rcases h with ⟨_, h0⟩ | ⟨q, cap, cur, rfl, hq, hb, hc1, hc2, hc3, hc4⟩
    · simp at h0
    · refine ⟨q, cap, rfl, hq, hc1, ?_⟩
      have hR : (Kd.int .i64).R 3 w' W.heap.size (fun k => k = q) (.slice (some ⟨q, 0, none⟩) (ts ++ [y]).length cap) (ts ++ [y]) := Kd.R_of_own ⟨by rw [encs_length, Nat.mul_one], .inr ⟨q, cap, cur, rfl, hq, hb, hc1, hc2, hc3, hc4⟩⟩ (fun k hk => by simp [Value.ownBlock] at hk; exact hk.symm)
      exact Kd.R_F hR
  cases A with
  | some b =>
    obtain ⟨v', w', hrun, r1, r2⟩ := run_append_arg_grows (P := Tryd.prog) W 24 ty 3 i0 (.int .i64 0) 1 8 (by rfl) hi hz0 hz1 hz2 rfl (by decide) b ts.length ts.length (encs (Value.int .i64) ts) (by rw [encs_length, Nat.mul_one]) (fun j u hj => by
      obtain ⟨ad, e, hx⟩ := hC.2.2 (by
        have := (List.getElem?_eq_some_iff.1 hj).1
        rw [encs_length] at this
        omega)
      cases e
      obtain ⟨hj1, hj2⟩ := List.getElem?_eq_some_iff.1 hj
      rw [encs_length] at hj1
      obtain ⟨c, hc1, hc2, hc3⟩ := hx j ts[j] (List.getElem?_eq_getElem hj1)
      have hcu : c = [Value.int .i64 ts[j]] := hc2
      subst hcu
      have := hc3 0 _ rfl
      rw [Nat.add_zero] at this
      have hsz : (Kd.int .i64).sz = 1 := rfl
      rw [hsz, Nat.mul_one] at this
      rw [this, ← hj2]
      simp [encs]) ⟨nb, 0, none⟩ 1 1 [.int .i64 y] rfl hnc (by omega) (by simp [maxLen]; omega) (by omega)
    exact ⟨v', w', hrun, r2, fin v' w' r1 r2⟩
  | none =>
    have h0 := hA rfl
    have : ts = [] := List.eq_nil_of_length_eq_zero h0
    subst this
    obtain ⟨v', w', hrun, r1, r2, _⟩ := run_append_own (P := Tryd.prog) W W.heap.size 24 ty 3 i0 (.int .i64 0) 1 8 (by rfl) hi hz0 hz1 hz2 rfl (by decide) (.slice none 0 0) 0 [] (World.ownsRow_nil W _ 3 1) ⟨nb, 0, none⟩ 1 1 [.int .i64 y] rfl hnc (by intro u hu; simp at hu; subst hu; rfl) (by simp [maxLen]) (by omega) (Nat.le_refl _)
    exact ⟨v', w', hrun, r2, fin v' w' r1 r2⟩
end Go.Proofs.YtchfkkpghipeiaaDoor.Q
