/- What can be read as data is of one of the printed texts' kinds: kind by kind. -/
import Derived.Test.YthnfbcicnmnhnaaWMore
import Derived.WideShapes
import Derived.ProofKit
import Derived.Deep.Slices
namespace Go.Proofs.Ythnfbcicnmnhnaa.Opn
set_option linter.unusedVariables false
open Go.RowKit Go.WideShapes Go.Deep Go.Proofs.YthnfbcicnmnhnaaW.PrintWords

/-- Whatever cells can be read at type t are of kind d, and what they tell is as ok says. -/
structure Opens (P : Program) (t : TypeId) {α : Type} (d : Kd α) (ok : α → Prop) : Prop where
  sz : P.cellsOf t = d.sz
  go : ∀ {H : Type} {enc : TypeId × Value → H} {W : World} {spare : Nat → Bool} {held : Bool} {fuel : Nat} {cs : List Value} {y : DataW H × List MemPlace},
    DataW.trod enc P W 0 spare held fuel t cs = some y → ∃ x : α, d.K W x cs ∧ ok x

section
variable {P : Program} {t e : TypeId}
theorem opens_int {k : IntKind} (hc : P.cellsOf t = 1) (ht : P.underlying t = some (.int k)) : Opens P t (Kd.int k) (fun x => (Lit.int k x).wf = true) :=
  ⟨hc, fun h => by
    obtain ⟨n, rfl, _, hw⟩ := DataW.trod_int ht h
    exact ⟨n, rfl, hw⟩⟩
theorem opens_bool (hc : P.cellsOf t = 1) (ht : P.underlying t = some .bool) : Opens P t Kd.bool (fun _ => True) :=
  ⟨hc, fun h => by
    obtain ⟨n, rfl, _⟩ := DataW.trod_bool ht h
    exact ⟨n, rfl, trivial⟩⟩
theorem opens_string (hc : P.cellsOf t = 1) (ht : P.underlying t = some .string) : Opens P t Kd.string (fun x => x.size ≤ maxLen) :=
  ⟨hc, fun h => by
    obtain ⟨n, rfl, _, hw⟩ := DataW.trod_string ht h
    exact ⟨n, rfl, hw⟩⟩
theorem cells_get {w : World} {b : Nat} {a : Addr} {n : Nat} {cs : List Value} (h : w.cells? b a n = some cs) : cs.length = n ∧ ∀ i u, cs[i]? = some u → w.cell? (a.add i) = some u := by
  unfold World.cells? at h
  split at h
  · have hl := mapM_some_length h
    rw [List.length_range] at hl
    refine ⟨hl, fun i u hu => ?_⟩
    have hi : i < cs.length := (List.getElem?_eq_some_iff.1 hu).1
    have := mapM_some_get h i i (by rw [List.getElem?_range (by omega)])
    rw [this, hu]
  · cases h
/-- A list out of what there is at each place. -/
theorem list_of {α : Type} {Q : Nat → α → Prop} : ∀ n : Nat, (∀ i, i < n → ∃ x, Q i x) → ∃ xs : List α, xs.length = n ∧ ∀ i x, xs[i]? = some x → Q i x
  | 0, _ => ⟨[], rfl, fun i x h => by simp at h⟩
  | n + 1, h => by
    obtain ⟨xs, hl, hq⟩ := list_of n (fun i hi => h i (by omega))
    obtain ⟨x, hx⟩ := h n (by omega)
    refine ⟨xs ++ [x], by simp [hl], fun i y hy => ?_⟩
    by_cases hi : i < n
    · rw [List.getElem?_append_left (by omega)] at hy
      exact hq i y hy
    · have hlt := (List.getElem?_eq_some_iff.1 hy).1
      rw [List.length_append, List.length_singleton] at hlt
      have : i = n := by omega
      subst this
      rw [List.getElem?_append_right (by omega), hl, Nat.sub_self] at hy
      simp at hy
      subst hy
      exact hx
/-- A row of elements, each of which can be read. -/
theorem opens_row {α : Type} {d : Kd α} {ok : α → Prop} (he : Opens P e d ok) {H : Type} {enc : TypeId × Value → H} {W : World} {spare : Nat → Bool} {held : Bool} {fuel : Nat} {cs : List Value} {y : DataW H × List MemPlace}
    (ht : P.underlying t = some (.slice e)) (h : DataW.trod enc P W 0 spare held fuel t cs = some y) :
    ∃ (A : Option Addr) (c : Nat) (xs : List α), cs = [.slice A xs.length c] ∧ xs.length ≤ c ∧ c ≤ maxLen ∧ d.C W A xs.length xs ∧ ∀ x ∈ xs, ok x := by
  rcases open_slice ht h with ⟨rfl, _⟩ | ⟨a, len, cap, m, n, D, Pl, rfl, _, hl, hm, hmm, _, hel⟩
  · exact ⟨none, 0, [], rfl, Nat.le_refl _, by unfold maxLen; omega, Kd.C_nil d W, by simp⟩
  · have hlm : len ≤ m := by rw [hmm]; split <;> omega
    obtain ⟨xs, hxl, hx⟩ := list_of (Q := fun i x => ∃ cs', W.cells? 0 (a.add (i * P.cellsOf e)) (P.cellsOf e) = some cs' ∧ d.K W x cs' ∧ ok x) len (fun i hi => by
      obtain ⟨cs', h1, h2⟩ := hel i (by omega)
      obtain ⟨x, h3, h4⟩ := he.go h2
      exact ⟨x, cs', h1, h3, h4⟩)
    subst hxl
    refine ⟨some a, cap, xs, rfl, hl, hm, ⟨rfl, by unfold maxLen at hm; omega, fun _ => ⟨a, rfl, fun j p hj => ?_⟩⟩, fun x hxm => ?_⟩
    · obtain ⟨cs', h1, h3, _⟩ := hx j p hj
      obtain ⟨g1, g2⟩ := cells_get h1
      refine ⟨cs', by rw [g1, he.sz], h3, fun i u hu => ?_⟩
      have := g2 i u hu
      rw [he.sz] at this
      rwa [Addr.add_add] at this
    · obtain ⟨j, hj⟩ := List.getElem?_of_mem hxm
      obtain ⟨_, _, _, h4⟩ := hx j x hj
      exact h4
theorem opens_slice {α : Type} {d : Kd α} {ok : α → Prop} (hc : P.cellsOf t = 1) (he : Opens P e d ok) (ht : P.underlying t = some (.slice e)) : Opens P t (Kd.slice e d) (fun xs => xs.length ≤ maxLen ∧ ∀ x ∈ xs, ok x) :=
  ⟨hc, fun h => by
    obtain ⟨A, c, xs, rfl, h1, h2, h3, h4⟩ := opens_row he ht h
    exact ⟨xs, ⟨A, c, rfl, h1, h3⟩, by omega, h4⟩⟩
/-- The fields of a struct, from one on: they lie one behind the other from cell k on. -/
structure OpensF (P : Program) (fs : List Field) (k : Nat) {α : Type} (d : Kd α) (ok : α → Prop) : Prop where
  go : ∀ {H : Type} {enc : TypeId × Value → H} {W : World} {spare : Nat → Bool} {held : Bool} {fuel : Nat} {cs : List Value},
    cs.length = k + d.sz → (∀ f ∈ fs, ∃ y : DataW H × List MemPlace, DataW.trod enc P W 0 spare held fuel f.type ((cs.drop f.offset).take (P.cellsOf f.type)) = some y) → ∃ x : α, d.K W x (cs.drop k) ∧ ok x
theorem opensF_one {α : Type} {d : Kd α} {ok : α → Prop} {f : Field} {k : Nat} (hf : f.offset = k) (h : Opens P f.type d ok) : OpensF P [f] k d ok :=
  ⟨fun {H enc W spare held fuel cs} hl hall => by
    obtain ⟨y, hy⟩ := hall f (by simp)
    rw [hf, h.sz, List.take_of_length_le (by rw [List.length_drop]; omega)] at hy
    exact h.go hy⟩
theorem opensF_cons {α β : Type} {a : Kd α} {b : Kd β} {oka : α → Prop} {okb : β → Prop} {f : Field} {fs : List Field} {k : Nat} (hf : f.offset = k) (h : Opens P f.type a oka) (hs : OpensF P fs (k + a.sz) b okb) :
    OpensF P (f :: fs) k (Kd.pair a b) (fun x => oka x.1 ∧ okb x.2) :=
  ⟨fun {H enc W spare held fuel cs} hl hall => by
    have hl' : cs.length = k + (a.sz + b.sz) := hl
    obtain ⟨y, hy⟩ := hall f (by simp)
    rw [hf, h.sz] at hy
    obtain ⟨x, hx, ox⟩ := h.go hy
    obtain ⟨x2, hx2, ox2⟩ := hs.go (cs := cs) (by omega) (fun g hg => hall g (by simp [hg]))
    refine ⟨(x, x2), ⟨_, _, ?_, hx, hx2⟩, ox, ox2⟩
    have e : cs.drop (k + a.sz) = (cs.drop k).drop a.sz := by rw [List.drop_drop]
    rw [e, List.take_append_drop]⟩
theorem opens_struct {α β : Type} {d : Kd α} {ok : α → Prop} {fs : Array Field} (f : β → α) (g : α → β) (hfg : ∀ x, f (g x) = x) (hc : P.cellsOf t = d.sz) (ht : P.underlying t = some (.struct fs)) (h : OpensF P fs.toList 0 d ok) :
    Opens P t (Kd.iso d f) (fun x => ok (f x)) :=
  ⟨hc, fun {H enc W spare held fuel cs y} hy => by
    obtain ⟨xs, n, _, _, hlen, hxl, hx⟩ := DataW.trod_struct ht hy
    obtain ⟨x, h1, h2⟩ := h.go (enc := enc) (W := W) (spare := spare) (held := held) (fuel := n) (cs := cs) (by omega) (fun fd hfd => by
      obtain ⟨i, hi⟩ := List.getElem?_of_mem hfd
      have hi' : fs[i]? = some fd := by simpa using hi
      have hlt : i < xs.length := by rw [hxl]; exact (Array.getElem?_eq_some_iff.1 hi').1
      exact ⟨xs[i], by rw [hx i fd hi', List.getElem?_eq_getElem hlt]⟩)
    exact ⟨g x, by show d.K W (f (g x)) cs; rw [hfg]; exact h1, by show ok (f (g x)); rw [hfg]; exact h2⟩⟩
end
end Go.Proofs.Ythnfbcicnmnhnaa.Opn
