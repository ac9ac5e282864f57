/- Part 1 of a claim's texts. -/
import Derived.Test.YtcgpbakimkhdpaaDoorPk0
import Derived.WideShapes
import Derived.ProofKit
import Derived.Deep.Slices
import Derived.Test.YtcgpbakimkhdpaaDoorProg
import Derived.Below
import Derived.Deep.Draws
import Derived.Deep.AppendLies
import Derived.Maps.AppendAt
import Derived.OwnWalk
import Derived.Laws.BytesArg
import Derived.Laws.MakeOwn
import Derived.Laws.OwnMore
import Derived.Deep.OwnRows
import Derived.Tactics
import Derived.Lib.ConvBytes
import Derived.Laws.Slices
import Derived.WalkKit
import Derived.KernelRfl
import Derived.RowKit3
import Derived.Deep.LoopGhost
import Derived.Deep.QuietTactic
import Derived.BigQuiet
import Derived.WideLaws
import Derived.Deep.DeepCutAuto
import Derived.Deep.CutBlock
import Derived.Deep.RegionHeld3
import Derived.Laws.Rows
import Derived.Lib.AppendStr
import Derived.ArgAppend
import Derived.Laws.IdiomCopy
import Derived.OrdersHeld
import Derived.Laws.BitsLemmas
import Derived.RowKit
import Derived.WalkMore
import Derived.Lib.SliceRun
import Derived.Lib.Hide
import Derived.Outline
namespace Go.Proofs.YtcgpbakimkhdpaaDoor.Q.H_
open Go.RowKit Go.Proofs.YtcgpbakimkhdpaaDoorW.PrintWords Go.Proofs.YtcgpbakimkhdpaaDoorW.PrintLast Go.Proofs.YtcgpbakimkhdpaaDoorW.PrintMore
abbrev ak_ := @Aside0.mk
def b_ (n k : Nat) : Array Bool := ((List.range n).map fun i => k.testBit i).toArray
abbrev bl_ := @World.block_lt_of_cell?
theorem mc_ {α β : Type} {f : α → β} {a : α} {l : List α} : (a :: l).map f = f a :: l.map f := rfl
theorem mn_ {α β : Type} {f : α → β} : ([] : List α).map f = [] := rfl
theorem mt_ {α β : Type} {f : α → β} {l : List α} : l.toArray.map f = (l.map f).toArray := List.map_toArray
abbrev pe := @below_drew1
abbrev pa := @below_alloc
abbrev pd := @pw_below_drewN
abbrev ps := @below_step
theorem sa_ {α : Type} {l : List α} {i : Nat} {a : α} : l.toArray.setIfInBounds i a = (l.set i a).toArray := List.setIfInBounds_toArray l i a
theorem ss_ {α : Type} {a b : α} {l : List α} {n : Nat} : (a :: l).set (n + 1) b = a :: l.set n b := rfl
theorem sz_ {α : Type} {a b : α} {l : List α} : (a :: l).set 0 b = b :: l := rfl
abbrev za := @blk_alloc
abbrev zc := @blk_cell
abbrev zd := @blk_drew
abbrev zf := @blk_frozen
abbrev zn := @blk_drewN
abbrev zp := @blk_put
abbrev zr := @blk_far
abbrev zs := @below_set
theorem dt_ {p : Prop} [Decidable p] (h : p) : decide p = true := decide_eq_true h
theorem df_ {p : Prop} [Decidable p] (h : ¬ p) : decide p = false := decide_eq_false h
theorem bs_ {α β : Type} (x : α) (f : α → Option β) : (some x).bind f = f x := rfl
theorem ob_ {α β : Type} {o : Option α} {f : α → Option β} {b : β} (h : o.bind f = some b) : ∃ a, o = some a ∧ f a = some b := Option.bind_eq_some_iff.mp h
end Go.Proofs.YtcgpbakimkhdpaaDoor.Q.H_
section
namespace Go.Proofs.YtcgpbakimkhdpaaDoor.Opn
set_option linter.unusedVariables false
open Go.RowKit Go.WideShapes Go.Deep Go.Proofs.YtcgpbakimkhdpaaDoorW.PrintWords
structure Opens (P : Program) (t : TypeId) {α : Type} (d : Kd α) (ok : α → Prop) : Prop where
  sz : P.cellsOf t = d.sz
  go : ∀ {H : Type} {enc : TypeId × Value → H} {W : World} {spare : Nat → Bool} {held : Bool} {fuel : Nat} {cs : List Value} {y : DataW H × List MemPlace},
    DataW.trod enc P W 0 spare held fuel t cs = some y → ∃ x : α, d.K W x cs ∧ ok x
section
variable {P : Program} {t e : TypeId}
theorem opens_int {k : IntKind} (hc : P.cellsOf t = 1) (ht : P.underlying t = some (.int k)) : Opens P t (Kd.int k) (fun x => (Lit.int k x).wf = true) :=
  ⟨hc, fun h => by
    obtain ⟨n, rfl, _, hw⟩ := DataW.trod_int ht h
    exact ⟨n, rfl, hw⟩⟩
theorem opens_bool (hc : P.cellsOf t = 1) (ht : P.underlying t = some .bool) : Opens P t Kd.bool (fun _ => True) :=
  ⟨hc, fun h => by
    obtain ⟨n, rfl, _⟩ := DataW.trod_bool ht h
    exact ⟨n, rfl, trivial⟩⟩
theorem opens_string (hc : P.cellsOf t = 1) (ht : P.underlying t = some .string) : Opens P t Kd.string (fun x => x.size ≤ maxLen) :=
  ⟨hc, fun h => by
    obtain ⟨n, rfl, _, hw⟩ := DataW.trod_string ht h
    exact ⟨n, rfl, hw⟩⟩
theorem cells_get {w : World} {b : Nat} {a : Addr} {n : Nat} {cs : List Value} (h : w.cells? b a n = some cs) : cs.length = n ∧ ∀ i u, cs[i]? = some u → w.cell? (a.add i) = some u := by
  unfold World.cells? at h
  split at h
  · have hl := mapM_some_length h
    rw [List.length_range] at hl
    refine ⟨hl, fun i u hu => ?_⟩
    have hi : i < cs.length := (List.getElem?_eq_some_iff.1 hu).1
    have := mapM_some_get h i i (by rw [List.getElem?_range (by omega)])
    rw [this, hu]
  · cases h
theorem list_of {α : Type} {Q : Nat → α → Prop} : ∀ n : Nat, (∀ i, i < n → ∃ x, Q i x) → ∃ xs : List α, xs.length = n ∧ ∀ i x, xs[i]? = some x → Q i x
  | 0, _ => ⟨[], rfl, fun i x h => by simp at h⟩
  | n + 1, h => by
    obtain ⟨xs, hl, hq⟩ := list_of n (fun i hi => h i (by omega))
    obtain ⟨x, hx⟩ := h n (by omega)
    refine ⟨xs ++ [x], by simp [hl], fun i y hy => ?_⟩
    by_cases hi : i < n
    · rw [List.getElem?_append_left (by omega)] at hy
      exact hq i y hy
    · have hlt := (List.getElem?_eq_some_iff.1 hy).1
      rw [List.length_append, List.length_singleton] at hlt
      have : i = n := by omega
      subst this
      rw [List.getElem?_append_right (by omega), hl, Nat.sub_self] at hy
      simp at hy
      subst hy
      exact hx
theorem opens_row {α : Type} {d : Kd α} {ok : α → Prop} (he : Opens P e d ok) {H : Type} {enc : TypeId × Value → H} {W : World} {spare : Nat → Bool} {held : Bool} {fuel : Nat} {cs : List Value} {y : DataW H × List MemPlace}
    (ht : P.underlying t = some (.slice e)) (h : DataW.trod enc P W 0 spare held fuel t cs = some y) :
    ∃ (A : Option Addr) (c : Nat) (xs : List α), cs = [.slice A xs.length c] ∧ xs.length ≤ c ∧ c ≤ maxLen ∧ d.C W A xs.length xs ∧ ∀ x ∈ xs, ok x := by
  rcases open_slice ht h with ⟨rfl, _⟩ | ⟨a, len, cap, m, n, D, Pl, rfl, _, hl, hm, hmm, _, hel⟩
  · exact ⟨none, 0, [], rfl, Nat.le_refl _, by unfold maxLen; omega, Kd.C_nil d W, by simp⟩
  · have hlm : len ≤ m := by rw [hmm]; split <;> omega
    obtain ⟨xs, hxl, hx⟩ := list_of (Q := fun i x => ∃ cs', W.cells? 0 (a.add (i * P.cellsOf e)) (P.cellsOf e) = some cs' ∧ d.K W x cs' ∧ ok x) len (fun i hi => by
      obtain ⟨cs', h1, h2⟩ := hel i (by omega)
      obtain ⟨x, h3, h4⟩ := he.go h2
      exact ⟨x, cs', h1, h3, h4⟩)
    subst hxl
    refine ⟨some a, cap, xs, rfl, hl, hm, ⟨rfl, by unfold maxLen at hm; omega, fun _ => ⟨a, rfl, fun j p hj => ?_⟩⟩, fun x hxm => ?_⟩
    · obtain ⟨cs', h1, h3, _⟩ := hx j p hj
      obtain ⟨g1, g2⟩ := cells_get h1
      refine ⟨cs', by rw [g1, he.sz], h3, fun i u hu => ?_⟩
      have := g2 i u hu
      rw [he.sz] at this
      rwa [Addr.add_add] at this
    · obtain ⟨j, hj⟩ := List.getElem?_of_mem hxm
      obtain ⟨_, _, _, h4⟩ := hx j x hj
      exact h4
theorem opens_slice {α : Type} {d : Kd α} {ok : α → Prop} (hc : P.cellsOf t = 1) (he : Opens P e d ok) (ht : P.underlying t = some (.slice e)) : Opens P t (Kd.slice e d) (fun xs => xs.length ≤ maxLen ∧ ∀ x ∈ xs, ok x) :=
  ⟨hc, fun h => by
    obtain ⟨A, c, xs, rfl, h1, h2, h3, h4⟩ := opens_row he ht h
    exact ⟨xs, ⟨A, c, rfl, h1, h3⟩, by omega, h4⟩⟩
structure OpensF (P : Program) (fs : List Field) (k : Nat) {α : Type} (d : Kd α) (ok : α → Prop) : Prop where
  go : ∀ {H : Type} {enc : TypeId × Value → H} {W : World} {spare : Nat → Bool} {held : Bool} {fuel : Nat} {cs : List Value},
    cs.length = k + d.sz → (∀ f ∈ fs, ∃ y : DataW H × List MemPlace, DataW.trod enc P W 0 spare held fuel f.type ((cs.drop f.offset).take (P.cellsOf f.type)) = some y) → ∃ x : α, d.K W x (cs.drop k) ∧ ok x
theorem opensF_one {α : Type} {d : Kd α} {ok : α → Prop} {f : Field} {k : Nat} (hf : f.offset = k) (h : Opens P f.type d ok) : OpensF P [f] k d ok :=
  ⟨fun {H enc W spare held fuel cs} hl hall => by
    obtain ⟨y, hy⟩ := hall f (by simp)
    rw [hf, h.sz, List.take_of_length_le (by rw [List.length_drop]; omega)] at hy
    exact h.go hy⟩
theorem opensF_cons {α β : Type} {a : Kd α} {b : Kd β} {oka : α → Prop} {okb : β → Prop} {f : Field} {fs : List Field} {k : Nat} (hf : f.offset = k) (h : Opens P f.type a oka) (hs : OpensF P fs (k + a.sz) b okb) :
    OpensF P (f :: fs) k (Kd.pair a b) (fun x => oka x.1 ∧ okb x.2) :=
  ⟨fun {H enc W spare held fuel cs} hl hall => by
    have hl' : cs.length = k + (a.sz + b.sz) := hl
    obtain ⟨y, hy⟩ := hall f (by simp)
    rw [hf, h.sz] at hy
    obtain ⟨x, hx, ox⟩ := h.go hy
    obtain ⟨x2, hx2, ox2⟩ := hs.go (cs := cs) (by omega) (fun g hg => hall g (by simp [hg]))
    refine ⟨(x, x2), ⟨_, _, ?_, hx, hx2⟩, ox, ox2⟩
    have e : cs.drop (k + a.sz) = (cs.drop k).drop a.sz := by rw [List.drop_drop]
    rw [e, List.take_append_drop]⟩
theorem opens_struct {α β : Type} {d : Kd α} {ok : α → Prop} {fs : Array Field} (f : β → α) (g : α → β) (hfg : ∀ x, f (g x) = x) (hc : P.cellsOf t = d.sz) (ht : P.underlying t = some (.struct fs)) (h : OpensF P fs.toList 0 d ok) :
    Opens P t (Kd.iso d f) (fun x => ok (f x)) :=
  ⟨hc, fun {H enc W spare held fuel cs y} hy => by
    obtain ⟨xs, n, _, _, hlen, hxl, hx⟩ := DataW.trod_struct ht hy
    obtain ⟨x, h1, h2⟩ := h.go (enc := enc) (W := W) (spare := spare) (held := held) (fuel := n) (cs := cs) (by omega) (fun fd hfd => by
      obtain ⟨i, hi⟩ := List.getElem?_of_mem hfd
      have hi' : fs[i]? = some fd := by simpa using hi
      have hlt : i < xs.length := by rw [hxl]; exact (Array.getElem?_eq_some_iff.1 hi').1
      exact ⟨xs[i], by rw [hx i fd hi', List.getElem?_eq_getElem hlt]⟩)
    exact ⟨g x, by show d.K W (f (g x)) cs; rw [hfg]; exact h1, by show ok (f (g x)); rw [hfg]; exact h2⟩⟩
end
end Go.Proofs.YtcgpbakimkhdpaaDoor.Opn
end
namespace Go.Proofs.YtcgpbakimkhdpaaDoor.Q
open Go.RowKit Go.Proofs.YtcgpbakimkhdpaaDoorW.PrintWords Go.Proofs.YtcgpbakimkhdpaaDoorW.PrintLast Go.Proofs.YtcgpbakimkhdpaaDoorW.PrintMore
attribute [local go_sem] max2_int min2_int max_two min_two max_three min_three max_four min_four
set_option linter.unusedVariables false
set_option linter.unusedSimpArgs false
set_option maxHeartbeats 8000000
set_option maxRecDepth 100000
open Go.Proofs.YtcgpbakimkhdpaaDoor.Q.H_
def errW : Option Int → Value
 | none => .nilIface
 | some c => .iface 0 (.int .i64 c)
theorem errW_none : errW none = .nilIface := rfl
theorem errW_some (c : Int) : errW (some c) = .iface 0 (.int .i64 c) := rfl
structure S59 where
 f0 : Int
 f1 : Int
 f2 : Int
 f3 : Int
def z59 : S59 := ⟨(0 : Int), (0 : Int), (0 : Int), (0 : Int)⟩
def k59 : Kd S59 := Kd.iso (Kd.pair (Kd.int .i64) (Kd.pair (Kd.int .i64) (Kd.pair (Kd.int .i64) (Kd.int .i64)))) (fun x : S59 => (x.f0, x.f1, x.f2, x.f3))
theorem k59_open {w : World} {x : S59} {cs : List Value} (h : k59.K w x cs) : cs = [.int .i64 x.f0, .int .i64 x.f1, .int .i64 x.f2, .int .i64 x.f3] := by
 obtain ⟨_, _, rfl, rfl, ⟨_, _, rfl, rfl, ⟨_, _, rfl, rfl, rfl⟩⟩⟩ := h
 exact rfl
theorem k59_mkM (w : World) (base : Nat) (ok : Nat → Prop) (x : S59)  : k59.M w base ok x [.int .i64 x.f0, .int .i64 x.f1, .int .i64 x.f2, .int .i64 x.f3] := ⟨[.int .i64 x.f0], [.int .i64 x.f1, .int .i64 x.f2, .int .i64 x.f3], rfl, rfl, ⟨[.int .i64 x.f1], [.int .i64 x.f2, .int .i64 x.f3], rfl, rfl, ⟨[.int .i64 x.f2], [.int .i64 x.f3], rfl, rfl, rfl⟩⟩⟩
def rd_T59 (xs : List S59) (i : Int) : S59 := xs.getD i.toNat z59
structure S61 where
 f0 : ByteArray
 f1 : ByteArray
 f2 : Int
 f3 : S59
 f4 : S59
 f5 : Int
def z61 : S61 := ⟨(⟨#[]⟩ : ByteArray), (⟨#[]⟩ : ByteArray), (0 : Int), z59, z59, (0 : Int)⟩
def k61 : Kd S61 := Kd.iso (Kd.pair Kd.string (Kd.pair Kd.string (Kd.pair (Kd.int .i64) (Kd.pair k59 (Kd.pair k59 (Kd.int .i64)))))) (fun x : S61 => (x.f0, x.f1, x.f2, x.f3, x.f4, x.f5))
theorem k61_open {w : World} {x : S61} {cs : List Value} (h : k61.K w x cs) : cs = [.string x.f0, .string x.f1, .int .i64 x.f2, .int .i64 x.f3.f0, .int .i64 x.f3.f1, .int .i64 x.f3.f2, .int .i64 x.f3.f3, .int .i64 x.f4.f0, .int .i64 x.f4.f1, .int .i64 x.f4.f2, .int .i64 x.f4.f3, .int .i64 x.f5] := by
 obtain ⟨_, _, rfl, rfl, ⟨_, _, rfl, rfl, ⟨_, _, rfl, rfl, ⟨_, _, rfl, s3, ⟨_, _, rfl, s7, rfl⟩⟩⟩⟩⟩ := h
 obtain rfl := k59_open s3
 obtain rfl := k59_open s7
 exact rfl
theorem k61_mkM (w : World) (base : Nat) (ok : Nat → Prop) (x : S61)  : k61.M w base ok x [.string x.f0, .string x.f1, .int .i64 x.f2, .int .i64 x.f3.f0, .int .i64 x.f3.f1, .int .i64 x.f3.f2, .int .i64 x.f3.f3, .int .i64 x.f4.f0, .int .i64 x.f4.f1, .int .i64 x.f4.f2, .int .i64 x.f4.f3, .int .i64 x.f5] := ⟨[.string x.f0], [.string x.f1, .int .i64 x.f2, .int .i64 x.f3.f0, .int .i64 x.f3.f1, .int .i64 x.f3.f2, .int .i64 x.f3.f3, .int .i64 x.f4.f0, .int .i64 x.f4.f1, .int .i64 x.f4.f2, .int .i64 x.f4.f3, .int .i64 x.f5], rfl, rfl, ⟨[.string x.f1], [.int .i64 x.f2, .int .i64 x.f3.f0, .int .i64 x.f3.f1, .int .i64 x.f3.f2, .int .i64 x.f3.f3, .int .i64 x.f4.f0, .int .i64 x.f4.f1, .int .i64 x.f4.f2, .int .i64 x.f4.f3, .int .i64 x.f5], rfl, rfl, ⟨[.int .i64 x.f2], [.int .i64 x.f3.f0, .int .i64 x.f3.f1, .int .i64 x.f3.f2, .int .i64 x.f3.f3, .int .i64 x.f4.f0, .int .i64 x.f4.f1, .int .i64 x.f4.f2, .int .i64 x.f4.f3, .int .i64 x.f5], rfl, rfl, ⟨[.int .i64 x.f3.f0, .int .i64 x.f3.f1, .int .i64 x.f3.f2, .int .i64 x.f3.f3], [.int .i64 x.f4.f0, .int .i64 x.f4.f1, .int .i64 x.f4.f2, .int .i64 x.f4.f3, .int .i64 x.f5], rfl, (k59_mkM w base ok x.f3 ), ⟨[.int .i64 x.f4.f0, .int .i64 x.f4.f1, .int .i64 x.f4.f2, .int .i64 x.f4.f3], [.int .i64 x.f5], rfl, (k59_mkM w base ok x.f4 ), rfl⟩⟩⟩⟩⟩
def rT (xs : List S61) (i : Int) : S61 := xs.getD i.toNat z61
theorem at_T61 {w : World} {A : Option Addr} {n : Nat} {xs : List S61} (h : Kd.C k61 w A n xs) (i : Int) (h0 : 0 ≤ i) (h1 : i < n) : ∃ ad , A = some ad ∧ w.cell? (ad.add (i.toNat * 12)) = some (.string (rT xs i).f0) ∧ w.cell? ⟨(ad.add (i.toNat * 12)).block, (ad.add (i.toNat * 12)).off + 1, none⟩ = some (.string (rT xs i).f1) ∧ w.cell? ⟨(ad.add (i.toNat * 12)).block, (ad.add (i.toNat * 12)).off + 2, none⟩ = some (.int .i64 (rT xs i).f2) ∧ w.cell? ⟨(ad.add (i.toNat * 12)).block, (ad.add (i.toNat * 12)).off + 3, none⟩ = some (.int .i64 (rT xs i).f3.f0) ∧ w.cell? ⟨(ad.add (i.toNat * 12)).block, (ad.add (i.toNat * 12)).off + 4, none⟩ = some (.int .i64 (rT xs i).f3.f1) ∧ w.cell? ⟨(ad.add (i.toNat * 12)).block, (ad.add (i.toNat * 12)).off + 5, none⟩ = some (.int .i64 (rT xs i).f3.f2) ∧ w.cell? ⟨(ad.add (i.toNat * 12)).block, (ad.add (i.toNat * 12)).off + 6, none⟩ = some (.int .i64 (rT xs i).f3.f3) ∧ w.cell? ⟨(ad.add (i.toNat * 12)).block, (ad.add (i.toNat * 12)).off + 7, none⟩ = some (.int .i64 (rT xs i).f4.f0) ∧ w.cell? ⟨(ad.add (i.toNat * 12)).block, (ad.add (i.toNat * 12)).off + 8, none⟩ = some (.int .i64 (rT xs i).f4.f1) ∧ w.cell? ⟨(ad.add (i.toNat * 12)).block, (ad.add (i.toNat * 12)).off + 9, none⟩ = some (.int .i64 (rT xs i).f4.f2) ∧ w.cell? ⟨(ad.add (i.toNat * 12)).block, (ad.add (i.toNat * 12)).off + 10, none⟩ = some (.int .i64 (rT xs i).f4.f3) ∧ w.cell? ⟨(ad.add (i.toNat * 12)).block, (ad.add (i.toNat * 12)).off + 11, none⟩ = some (.int .i64 (rT xs i).f5) := by
 obtain ⟨ad, c, e, _, hK, hc0⟩ := Kd.C_get h z61 i h0 h1
 have hc : ∀ j u, c[j]? = some u → w.cell? (ad.add (i.toNat * 12 + j)) = some u := hc0
 obtain rfl := k61_open hK
 exact ⟨ad, e, hc 0 _ rfl, by rw [← add_field _ _ 1 (by omega)]; exact hc 1 _ rfl, by rw [← add_field _ _ 2 (by omega)]; exact hc 2 _ rfl, by rw [← add_field _ _ 3 (by omega)]; exact hc 3 _ rfl, by rw [← add_field _ _ 4 (by omega)]; exact hc 4 _ rfl, by rw [← add_field _ _ 5 (by omega)]; exact hc 5 _ rfl, by rw [← add_field _ _ 6 (by omega)]; exact hc 6 _ rfl, by rw [← add_field _ _ 7 (by omega)]; exact hc 7 _ rfl, by rw [← add_field _ _ 8 (by omega)]; exact hc 8 _ rfl, by rw [← add_field _ _ 9 (by omega)]; exact hc 9 _ rfl, by rw [← add_field _ _ 10 (by omega)]; exact hc 10 _ rfl, by rw [← add_field _ _ 11 (by omega)]; exact hc 11 _ rfl⟩
def IsWT (T : TypeId) (w0 W : World) (g : Nat) (v : Value) (xs : List Int) : Prop := W.heap[g]? = some (.cells #[v] T (0, 0)) ∧ w0.heap.size ≤ g ∧ Kd.R (Kd.int .u8) 5 W w0.heap.size (fun _ => True) v xs
abbrev IsW := IsWT 64
def OwnNext (w : World) (v v' : Value) : Prop := v'.ownBlock = v.ownBlock ∨ ∃ b, v'.ownBlock = some b ∧ w.heap.size ≤ b
def nb (m i : Int) : Int := IntKind.u8.wrap (m / 2 ^ (8 * i).toNat)
def nbs (m : Int) (j : Nat) : List Int := (List.range j).map fun (t : Nat) => nb m (7 - (t : Int))
theorem nbs_succ (m : Int) (j : Nat) : nbs m (j + 1) = nbs m j ++ [nb m (7 - (j : Int))] := by simp [nbs, List.range_succ]
theorem infoW : (Tryd.prog.info? 5).map (fun i => (i.zero, i.size, i.bytes)) = some (some (.int .u8 0), 1, 1) := by kernel_rfl
theorem own_next {w W : World} {v u u2 : Value} (hw : w.heap.size ≤ W.heap.size) (h : OwnNext w v u) (k : u2.ownBlock = u.ownBlock ∨ ∃ b, u2.ownBlock = some b ∧ W.heap.size ≤ b) : OwnNext w v u2 := by
 rcases k with k | ⟨b, k, kb⟩
 · rcases h with h | ⟨b, h, hb⟩
   · exact .inl (k.trans h)
   · exact .inr ⟨b, k.trans h, hb⟩
 · exact .inr ⟨b, k, by omega⟩
theorem keep_any {w W : World} {g : Nat} (h : KeepBut w W g none) (row : Option Nat) : KeepBut w W g row := ⟨h.1, fun i hi hg _ => h.2 i hi hg (by simp)⟩
def clampN (n : Int) : Int := mn (mx n 0) 4611686018427387904
theorem clamp_a {n : Int} (h : 4611686018427387904 < if n < 0 then 0 else n) : 4611686018427387904 = clampN n := by unfold clampN mn mx; rw [if_pos h]
theorem clamp_b {n : Int} (h : n < 0) : 0 = clampN n := by unfold clampN mn mx; rw [if_pos h]; rfl
theorem clamp_c {n : Int} (h : 0 ≤ n) (h2 : (if n < 0 then 0 else n) ≤ 4611686018427387904) : n = clampN n := by
 have e : (if n < 0 then 0 else n) = n := if_neg (by omega)
 unfold clampN mn mx
 rw [e] at h2 ⊢
 rw [if_neg (by omega)]
theorem ne_u8 {T : TypeId} (hT : 5 ≠ T) : ∀ q, q ∈ 5 :: (Kd.int .u8).E → q ≠ T := fun q hq => by
 simp [Kd.int, Kd.scalar] at hq
 rw [hq]
 exact hT
theorem writer_Num.callsT (T : TypeId) (hT : 5 ≠ T) (g : Nat) (v : Value) (xs : List Int) (n : Int) (w0 w : World) (hI : IsWT T w0 w g v xs) (hB : Below w0.heap.size w0 w) (hn : -9223372036854775808 ≤ n ∧ n ≤ 9223372036854775807) (hx : xs.length < 100000000) :
 Calls Tryd.prog 49 #[.pointer (some ⟨g, 0, none⟩), .int .i64 n] w fun e w' => ∃ v', e = .returned (.tuple #[]) ∧ IsWT T w0 w' g v' (xs ++ nbs (clampN n) 8) ∧ Below w0.heap.size w0 w' ∧ KeepBut w w' g v.ownBlock ∧ OwnNext w v v' := by
 have HI := ak_ hI
 have HB := ak_ hB
 clear hI hB
 go_enter Tryd.func49, Tryd.ntmps49
 go_upto_region 0 with (fail)
 go_cut [4] (fun v4 wc => v4 = .int .u64 (clampN n) ∧ w = wc)
 case first =>
  go_wp2
  all_goals go_meet
  all_goals (refine ⟨congrArg (Value.int .u64) ?_, rfl⟩; first | exact clamp_a (by assumption) | exact clamp_b (by assumption) | exact clamp_c (by assumption) (by assumption))
 case rest =>
 obtain ⟨rfl, rfl⟩ := hcut
 generalize hm : clampN n = m
 go_wp2
 go_loopw [5] (fun v5 W => ∃ (j : Nat) (u : Value), j ≤ 8 ∧ v5 = .int .i64 (7 - j) ∧ Aside0 (IsWT T w0 W g u (xs ++ nbs m j)) ∧ Aside0 (Below w0.heap.size w0 W) ∧ Aside0 (KeepBut w W g v.ownBlock) ∧ Aside0 (OwnNext w v u)) (fun v5 _ => (intOf v5 + 1).toNat)
 case atStart => exact ⟨0, v, by omega, rfl, ⟨by have := HI.out; simpa [nbs] using this⟩, HB, ⟨KeepBut.refl w g _⟩, ⟨.inl rfl⟩⟩
 case round =>
  clear HI HB
  obtain ⟨j, u, hj, rfl, HI, HB, HK, HN⟩ := hrel
  by_cases hlt : j < 8
  · obtain ⟨i, hi⟩ : ∃ i : Int, 7 - (j : Int) = i := ⟨_, rfl⟩
    rw [hi]
    have HJ := ak_ (show nb m i = nb m (7 - (j : Int)) by rw [hi])
    have HL := ak_ (show ((xs ++ nbs m j).length + 1) * 1 ≤ 140737488355328 by simp [nbs]; omega)
    have i0 : 0 ≤ i := by omega
    have i7 : i ≤ 7 := by omega
    have q0 : decide (0 ≤ i) = true := dt_ i0
    have q1 : wrap64 (8 * i) = 8 * i := by unfold wrap64; omega
    have q2 : IntKind.i64.wrap (8 * i) = 8 * i := by rw [IntKind.wrap_i64]; omega
    have q3 : ¬ (8 * i < 0) := by omega
    go_upto_region 4 with (fail)
    obtain ⟨hg, hge, hR⟩ := HI.out
    have HG := ak_ hg
    have HGE := ak_ hge
    have HU := ak_ hR
    have HCELL := ak_ (show wr.drew.cell? ⟨g, 0, none⟩ = some u from (zc hg 0).trans rfl)
    clear hg hge hR
    refine start_ (n := 15) (S := fun w' => w'.cell? ⟨g, 0, none⟩ = some u) (ds := [14]) #[false, false, false, false, false, false, false, false, false, false, false, false, false, false, false] (by kernel_rfl) rfl rfl (HCELL.out) (fun hHeld => ?_)
    refine pure_ (i := 0) (N := some 14) (v := ?_) (a' := ?_) #[true, false, false, false, false, false, false, false, false, false, false, false, false, false, false] rfl rfl (by kernel_rfl) (fun _ _ _ h => h) (Or.inl ⟨by rfl, ?_⟩) ?_ ?_
    rotate_left
    · intro w'
      go_simp
      with_reducible rfl
    rotate_left
    · simp only [Act.put, sa_, sz_, ss_, i64_w, i32_w]
      rfl
    refine pure_ (i := 1) (N := some 15) (v := ?_) (a' := ?_) #[true, true, false, false, false, false, false, false, false, false, false, false, false, false, false] rfl rfl (by kernel_rfl) (fun _ _ _ h => h) (Or.inl ⟨by rfl, ?_⟩) ?_ ?_
    rotate_left
    · intro w'
      go_simp
      with_reducible rfl
    rotate_left
    · simp only [Act.put, sa_, sz_, ss_, i64_w, i32_w]
      rfl
    refine pure_ (i := 2) (N := some 16) (v := ?_) (a' := ?_) #[true, true, true, false, false, false, false, false, false, false, false, false, false, false, false] rfl rfl (by kernel_rfl) (fun _ _ _ h => h) (Or.inl ⟨by rfl, ?_⟩) ?_ ?_
    rotate_left
    · intro w'
      go_simp
      with_reducible rfl
    rotate_left
    · simp only [Act.put, sa_, sz_, ss_, i64_w, i32_w]
      rfl
    refine pure_ (i := 3) (N := some 17) (v := ?_) (a' := ?_) #[true, true, true, true, false, false, false, false, false, false, false, false, false, false, false] rfl rfl (by kernel_rfl) (fun _ _ _ h => h) (Or.inl ⟨by rfl, ?_⟩) ?_ ?_
    rotate_left
    · intro w'
      go_simp
      with_reducible rfl
    rotate_left
    · simp only [Act.put, sa_, sz_, ss_, i64_w, i32_w]
      rfl
    refine pure_ (i := 5) (N := some 19) (v := ?_) (a' := ?_) #[true, true, true, true, false, true, false, false, false, false, false, false, false, false, false] rfl rfl (by kernel_rfl) (fun _ _ _ h => h) (Or.inl ⟨by rfl, ?_⟩) ?_ ?_
    rotate_left
    · intro w'
      go_simp
      with_reducible rfl
    rotate_left
    · simp only [Act.put, sa_, sz_, ss_, i64_w, i32_w]
      rfl
    refine pure_ (i := 6) (N := some 20) (v := ?_) (a' := ?_) #[true, true, true, true, false, true, true, false, false, false, false, false, false, false, false] rfl rfl (by kernel_rfl) (fun _ _ _ h => h) (Or.inl ⟨by rfl, ?_⟩) ?_ ?_
    rotate_left
    · intro w'
      go_simp
      with_reducible rfl
    rotate_left
    · simp only [Act.put, sa_, sz_, ss_, i64_w, i32_w]
      rfl
    refine pure_ (i := 7) (N := some 21) (v := ?_) (a' := ?_) #[true, true, true, true, false, true, true, true, false, false, false, false, false, false, false] rfl rfl (by kernel_rfl) (fun _ _ _ h => h) (Or.inl ⟨by rfl, ?_⟩) ?_ ?_
    rotate_left
    · intro w'
      go_simp
      with_reducible rfl
    rotate_left
    · simp only [Act.put, sa_, sz_, ss_, i64_w, i32_w]
      rfl
    refine pure_ (i := 8) (N := some 22) (v := ?_) (a' := ?_) #[true, true, true, true, false, true, true, true, true, false, false, false, false, false, false] rfl rfl (by kernel_rfl) (fun _ _ _ h => h) (Or.inl ⟨by rfl, ?_⟩) ?_ ?_
    rotate_left
    · intro w'
      go_simp
      with_reducible rfl
    rotate_left
    · simp only [Act.put, sa_, sz_, ss_, i64_w, i32_w]
      rfl
    refine pure_ (i := 9) (N := some 23) (v := ?_) (a' := ?_) #[true, true, true, true, false, true, true, true, true, true, false, false, false, false, false] rfl rfl (by kernel_rfl) (fun _ _ _ h => h) (Or.inl ⟨by rfl, ?_⟩) ?_ ?_
    rotate_left
    · intro w'
      go_simp
      with_reducible rfl
    rotate_left
    · simp only [Act.put, sa_, sz_, ss_, i64_w, i32_w]
      rfl
    refine take_ (i := 4) (N := some 18) (v := ?_) (a' := ?_) #[true, true, true, true, true, true, true, true, true, true, false, false, false, false, false] rfl rfl (by kernel_rfl) (fun _ _ _ h => h) (Or.inl ⟨by rfl, ?_⟩) hHeld ?_ ?_
    rotate_left
    · intro w' s0
      go_simp
      with_reducible rfl
    rotate_left
    · simp only [Act.put, sa_, sz_, ss_, i64_w, i32_w]
      rfl
    refine one_ (i := 10) (N := some 24) #[true, true, true, true, true, true, true, true, true, true, true, false, false, false, false] rfl rfl (by kernel_rfl) (by decide) (fun K hK => ?_)
    refine Kd.R_lit_step (Kd.int .u8) _ 5 ?hg (N := 24) ?hd (xs := ([nb m i] : List Int)) (inner := [.int .u8 (nb m i)]) (ok := fun _ => True) (okp := fun _ => True) ?hr ?hp (fun _ hk => hk) trivial (Below.refl _ _) (Nat.le_refl _) (by simp) ?_; (case hd | hg => rfl); (case hr => first | (go_simp; done) | (go_simp; rfl)); (case hp => exact (Reps.one (show Kd.M (Kd.int .u8) _ _ _ (nb m i) [.int .u8 (nb m i)] from rfl) (Reps.none _ _)))
    intro v1 w1 ho1 hb1 hg1 hn1
    obtain ⟨A1, c1, e1⟩ := Kd.R_slice ho1
    subst e1
    have HO1 := ak_ ho1
    have HU1 := ak_ (Kd.R_below (Kd.R_drew HU.out) hb1)
    have HG1 := ak_ (blk_grown (show wr.drew.heap[g]? = _ from HG.out) (grown_of_below hb1 none) (by simp))
    have HB1 := ak_ (below_step (below_drew1 HB.out) hb1)
    have HK1 := ak_ (KeepBut.trans (keep_drew HK.out) (keep_any (KeepBut.of_grown (grown_of_below hb1 none) g) v.ownBlock) (.inl rfl))
    have HS1 := ak_ (show w1.cell? ⟨g, 0, none⟩ = some u from (zc HG1.out 0).trans rfl)
    clear ho1 hb1 hg1 hn1
    refine hK.out _ _ HS1.out (fun hHeld => ?_)
    clear hK K
    refine norm_ (a' := ?_) ?_ ?_
    rotate_left
    · show Act.put _ (some 24) _ = _
      simp only [Act.put, sa_, sz_, ss_, i64_w, i32_w]
      rfl
    refine one_ (i := 11) (N := some 25) #[true, true, true, true, true, true, true, true, true, true, true, true, false, false, false] rfl rfl (by kernel_rfl) (by decide) (fun K hK => ?_)
    refine Kd.R_append_rows_step (Kd.int .u8) (w0 := w0) w0.heap.size (by rfl) (.tmp 18) (.tmp 24) 25 5 (.int .u8 0) 1 rfl Tryd.underlying25 infoW rfl (by decide) (by omega) u (xs ++ nbs m j) [nb m i] _ _ _ (fun _ => True) (fun _ => False) rfl rfl HU1.out (Kd.R_reads' HO1.out).2.2 (fun _ _ h => h) (fun _ h => h.elim) (fun _ _ => trivial) HB1.out HB1.out.size HL.out ?_
    intro v2 w2 ho2 hb2 hgr hat
    obtain ⟨A2, c2, e2⟩ := Kd.R_slice ho2
    subst e2
    have HG2 := ak_ (blk_grown HG1.out hgr (Kd.R_ne HU1.out HG1.out hT))
    have HO2 := ak_ ho2
    have HB2 := ak_ hb2
    have HK2 := ak_ (KeepBut.trans HK1.out (KeepBut.of_grown hgr g) HN.out)
    have HN2 := ak_ (own_next (Nat.le_trans (Nat.le_of_lt_succ (Nat.lt_succ_of_le HK1.out.1)) (Nat.le_refl _)) HN.out hat)
    have HS2 := ak_ (show w2.cell? ⟨g, 0, none⟩ = some u from (zc HG2.out 0).trans rfl)
    have hf2 := zf HG2.out 0
    clear ho2 hb2 hgr hat
    refine hK.out _ _ HS2.out (fun hHeld => ?_)
    clear hK K
    refine norm_ (a' := ?_) ?_ ?_
    rotate_left
    · show Act.put _ (some 25) _ = _
      simp only [Act.put, sa_, sz_, ss_, i64_w, i32_w]
      rfl
    refine pure_ (i := 12) (N := some 26) (v := ?_) (a' := ?_) #[true, true, true, true, true, true, true, true, true, true, true, true, true, false, false] rfl rfl (by kernel_rfl) (fun _ _ _ h => h) (Or.inl ⟨by rfl, ?_⟩) ?_ ?_
    rotate_left
    · intro w'
      go_simp
      with_reducible rfl
    rotate_left
    · simp only [Act.put, sa_, sz_, ss_, i64_w, i32_w]
      rfl
    refine pure_ (i := 13) (N := some 27) (v := ?_) (a' := ?_) #[true, true, true, true, true, true, true, true, true, true, true, true, true, true, false] rfl rfl (by kernel_rfl) (fun _ _ _ h => h) (Or.inl ⟨by rfl, ?_⟩) ?_ ?_
    rotate_left
    · intro w'
      go_simp
      with_reducible rfl
    rotate_left
    · simp only [Act.put, sa_, sz_, ss_, i64_w, i32_w]
      rfl
    refine last_ (i := 14) (N := none) #[true, true, true, true, true, true, true, true, true, true, true, true, true, true, true] rfl rfl (by kernel_rfl) (by decide) (fun K hK => ?_)
    refine skip_ (w1 := ?_) (by rfl) rfl ?_ ?_
    rotate_left
    · go_simp
      rfl
    refine hK.out _ _ ?_
    clear hK K
    refine done_ (by kernel_rfl) ?_
    go_wp2
    go_roundw
    case rel => exact ⟨j + 1, _, by omega, by first | go_num | (congr 1; unfold wrap64; omega), ⟨by rw [nbs_succ, ← List.append_assoc, ← HJ.out]; exact ⟨by simpa using blk_set HG2.out 0 _, HGE.out, Kd.R_set HO2.out HG2.out (ne_u8 hT) 0 _⟩⟩, ⟨below_set HB2.out HGE.out⟩, ⟨KeepBut.set_ HK2.out 0 _⟩, HN2⟩
    case measure => simp [intOf]; omega
  · have hj8 : j = 8 := by omega
    subst hj8
    rw [show (7 : Int) - ((8 : Nat) : Int) = -1 from rfl]
    go_wp2
    go_end0
    exact ⟨u, rfl, by rw [hm]; exact HI.out, HB.out, HK.out, HN.out⟩
section
variable {P : Program} {ops : Array Oper} {rest : List Oper} {o : Oper} {a : Act} {Q : Exit → Act → World → Prop} {Kc : Act → World → Prop}
theorem append_str_run {w0 W : World} (base : Nat) (t u ty e : TypeId) (ht : P.underlying t = some (.slice e)) (hu : P.underlying u = some .string) (hinfo : (P.info? e).map (fun i => (i.zero, i.size, i.bytes)) = some (some (.int .u8 0), 1, 1))
 (v : Value) (xs : List Int) (y : ByteArray) (HO : Kd.R (Kd.int .u8) e W base (fun _ => True) v xs) (HB : Below base w0 W) (hbase : base ≤ W.heap.size) (hl : xs.length + y.size ≤ 140737488355328) :
 ∃ v1 w1, (Builtin.append_ #[t, u] ty #[v, .string y]).run P W = .ok v1 w1 ∧ Kd.R (Kd.int .u8) e w1 base (fun _ => True) v1 (xs ++ bytesOf y) ∧ Below base w0 w1 ∧ W.grownBy w1 v.ownBlock ∧ (v1.ownBlock = v.ownBlock ∨ ∃ b, v1.ownBlock = some b ∧ W.heap.size ≤ b) := by
 obtain ⟨i0, hi, hzz⟩ := Option.map_eq_some_iff.1 hinfo
 simp only [Prod.mk.injEq] at hzz
 obtain ⟨hz0, hz1, hz2⟩ := hzz
 have hown : W.ownsRow base e 1 v xs.length (nums .u8 xs) := Kd.own_of_R HO
 have hml : xs.length + y.size ≤ maxLen := by simp only [maxLen]; omega
 obtain ⟨v1, w1, hr, h2, hg, hnil⟩ := Lib.run_append_own_string (P := P) W base t u ty e i0 ht hu hi hz0 hz1 hz2 v xs.length (nums .u8 xs) hown y hml hl hbase
 have hat : v1.ownBlock = v.ownBlock ∨ ∃ b, v1.ownBlock = some b ∧ W.heap.size ≤ b := by
  have hxl : (nums .u8 xs).length = xs.length := by simpa using hown.1
  rcases hown.2 with ⟨hv, hn⟩ | ⟨g, cap, cur, hv, hbg, hgc, hnc, hcm, hcs, htake⟩
  · subst hv
    by_cases hm : y.size = 0
    · exact .inl (by rw [hnil.2 ⟨rfl, hm⟩])
    · have hr2 := run_append_nil_string (P := P) W t u ty e i0 (.int .u8 0) ht hu hi hz0 y (by omega) (by omega) (by rw [hz2]; omega)
      rw [hr] at hr2
      injection hr2 with e1 e2
      exact .inr ⟨_, by rw [e1]; rfl, Nat.le_refl _⟩
  · subst hv
    by_cases hroom : xs.length + y.size ≤ cap
    · have hcs' : cur.size = cap := by simpa using hcs
      have hr2 := Lib.run_append_room_string (P := P) W t u ty e i0 ht hu hi hz1 g xs.length cap cur hgc y hroom (by omega)
      rw [hr] at hr2
      injection hr2 with e1 e2
      exact .inl (by rw [e1]; rfl)
    · have holds : ∀ j u, (nums .u8 xs)[j]? = some u → W.cell? ((⟨g, 0, none⟩ : Addr).add j) = some u := hown.cells (g := g) rfl
      have hr2 := Lib.run_append_grow_string (P := P) W t u ty e i0 (.int .u8 0) ht hu hi hz0 ⟨g, 0, none⟩ xs.length cap (nums .u8 xs) (by rw [hz1]; simpa using hxl) holds y (by omega) (by omega) (by rw [hz2]; exact growslice_fits (by omega) (by omega))
      rw [hr] at hr2
      injection hr2 with e1 e2
      exact .inr ⟨_, by rw [e1]; rfl, Nat.le_refl _⟩
 have hc : nums .u8 (xs ++ bytesOf y) = nums .u8 xs ++ Lib.strCells y := by
  rw [nums_append]
  congr 1
  simp [nums, bytesOf, Lib.strCells]
 have hl2 : (xs ++ bytesOf y).length = xs.length + y.size := by rw [List.length_append, bytesOf_length]
 have h2' : w1.ownsRow base e 1 v1 (xs ++ bytesOf y).length (nums .u8 (xs ++ bytesOf y)) := by rw [hl2, hc]; exact h2
 exact ⟨v1, w1, hr, Kd.R_of_own (h1 := fun _ => rfl) h2' (fun _ _ => trivial), HB.grown hg hbase (own_base hown), hg, hat⟩
theorem append_str_ {w0 W : World} (base : Nat) (hgd : o.guard = none) (s x : Operand) (t u e : TypeId)
 (ho : o.op = .call { callee := .builtin .append, args := #[s, x], argTypes := #[t, u] })
 (ht : P.underlying t = some (.slice e)) (hu : P.underlying u = some .string) (hinfo : (P.info? e).map (fun i => (i.zero, i.size, i.bytes)) = some (some (.int .u8 0), 1, 1))
 (v : Value) (xs : List Int) (y : ByteArray) (hs : a.eval s = v) (hx : a.eval x = .string y)
 (HO : Kd.R (Kd.int .u8) e W base (fun _ => True) v xs) (HB : Below base w0 W) (hbase : base ≤ W.heap.size) (hl : xs.length + y.size ≤ 140737488355328)
 (h : ∀ v1 w1, Kd.R (Kd.int .u8) e w1 base (fun _ => True) v1 (xs ++ bytesOf y) → Below base w0 w1 → W.grownBy w1 v.ownBlock → (v1.ownBlock = v.ownBlock ∨ ∃ b, v1.ownBlock = some b ∧ W.heap.size ≤ b) → wpList P ops Q rest (a.put o.dst v1) w1) :
 wpList P ops Q (o :: rest) a W := by
 obtain ⟨v1, w1, hr, h1, h2, h3, h4⟩ := append_str_run (P := P) base t u o.type e ht hu hinfo v xs y HO HB hbase hl
 refine wpList_plain hgd fun K hK => ?_
 unfold Oper.wp execOp
 simp only [ho, resolve, invoke, builtin, Sem.run_bind, Sem.run_pure, Result.andThen_ok, List.map_toArray, List.map_cons, List.map_nil, hs, hx, hr]
 exact hK _ _ (h v1 w1 h1 h2 h3 h4)
end
theorem writer_Text.callsT (T : TypeId) (hT : 5 ≠ T) (g : Nat) (v : Value) (xs : List Int) (s : ByteArray) (w0 w : World) (hI : IsWT T w0 w g v xs) (hB : Below w0.heap.size w0 w) (hx : xs.length + s.size < 100000000) :
 Calls Tryd.prog 46 #[.pointer (some ⟨g, 0, none⟩), .string s] w fun e w' => ∃ v', e = .returned (.tuple #[]) ∧ IsWT T w0 w' g v' (xs ++ nbs (clampN s.size) 8 ++ bytesOf s) ∧ Below w0.heap.size w0 w' ∧ KeepBut w w' g v.ownBlock ∧ OwnNext w v v' := by
 have HI := ak_ hI
 have HB := ak_ hB
 have HN0 := ak_ (show -9223372036854775808 ≤ (s.size : Int) ∧ (s.size : Int) ≤ 9223372036854775807 by omega)
 have HX := ak_ (show xs.length < 100000000 by omega)
 have HL := ak_ (show (xs ++ nbs (clampN s.size) 8).length + s.size ≤ 140737488355328 by simp [nbs]; omega)
 clear hI hB hx
 go_enter Tryd.func46, Tryd.ntmps46
 go_upto_region 1 with (first | (go_at_call 49; refine (writer_Num.callsT T hT g v xs (s.size : Int) w0 _ HI.out HB.out HN0.out HX.out).mono ?_; rintro e w1 ⟨u, rfl, hi, hb, hk, hn⟩; have HI1 := ak_ hi; have HB1 := ak_ hb; have HK := ak_ hk; have HN := ak_ hn; clear hi hb hk hn))
 obtain ⟨hg, hge, hR⟩ := HI1.out
 have HG := ak_ hg
 have HGE := ak_ hge
 have HU := ak_ hR
 have hcell : w1.cell? ⟨g, 0, none⟩ = some u := (zc hg 0).trans rfl
 clear hg hge hR
 go_wp2_with (first | ((with_reducible refine gate_builtin (b := .append) (xs := #[.tmp 12, .tmp 13]) rfl ?_); refine append_str_ (w0 := w0) w0.heap.size rfl (.tmp 12) (.tmp 13) 25 9 5 rfl Tryd.underlying25 Tryd.underlying9 infoW u (xs ++ nbs (clampN s.size) 8) s rfl rfl HU.out HB1.out HB1.out.size HL.out ?_; intro v2 w2 ho2 hb2 hgr hat; obtain ⟨A2, c2, e2⟩ := Kd.R_slice ho2; subst e2; have HG2 := ak_ (blk_grown HG.out hgr (Kd.R_ne HU.out HG.out hT)); have HO2 := ak_ ho2; have HB2 := ak_ hb2; have HK2 := ak_ (KeepBut.trans HK.out (KeepBut.of_grown hgr g) HN.out); have HN2 := ak_ (own_next HK.out.1 HN.out hat); have hf2 := zf HG2.out 0; have hc2 := (zc HG2.out 0).trans rfl; clear ho2 hb2 hgr hat))
 go_end0
 exact ⟨_, rfl, ⟨by simpa using blk_set HG2.out 0 _, HGE.out, Kd.R_set HO2.out HG2.out (ne_u8 hT) 0 _⟩, below_set HB2.out HGE.out, KeepBut.set_ HK2.out 0 _, HN2.out⟩
def flagB (b : Bool) : Int := if b = true then 1 else 0
theorem writer_Flag.callsT (T : TypeId) (hT : 5 ≠ T) (g : Nat) (v : Value) (xs : List Int) (b : Bool) (w0 w : World) (hI : IsWT T w0 w g v xs) (hB : Below w0.heap.size w0 w) (hx : xs.length < 100000000) :
 Calls Tryd.prog 50 #[.pointer (some ⟨g, 0, none⟩), .bool b] w fun e w' => ∃ v', e = .returned (.tuple #[]) ∧ IsWT T w0 w' g v' (xs ++ [flagB b]) ∧ Below w0.heap.size w0 w' ∧ KeepBut w w' g v.ownBlock ∧ OwnNext w v v' := by
 obtain ⟨hg, hge, hR⟩ := hI
 have HG := ak_ hg
 have HGE := ak_ hge
 have HU := ak_ hR
 have hcell : w.cell? ⟨g, 0, none⟩ = some v := (zc hg 0).trans rfl
 have HB := ak_ hB
 have HL := ak_ (show (xs.length + 1) * 1 ≤ 140737488355328 by omega)
 clear hg hge hR hB hx
 go_enter Tryd.func50, Tryd.ntmps50
 cases b
 · go_wp2_with (first | ((with_reducible refine gate_builtin (b := .append) (xs := #[.tmp 10, .tmp 12]) rfl ?_); refine Kd.R_append (Kd.int .u8) (w0 := w0) w0.heap.size rfl (.tmp 10) (.tmp 12) 25 5 (.int .u8 0) 1 rfl Tryd.underlying25 infoW rfl (by decide) (by omega) v xs 0 [.int .u8 0] (fun _ => True) (fun _ => False) rfl rfl rfl (fun _ hk => hk.elim) (fun _ _ => trivial) HU.out HB.out HB.out.size HL.out ?_; intro v2 w2 ho2 hb2 hgr hat; obtain ⟨A2, c2, e2⟩ := Kd.R_slice ho2; subst e2; have HG2 := ak_ (blk_grown HG.out hgr (Kd.R_ne HU.out HG.out hT)); have HO2 := ak_ ho2; have HB2 := ak_ hb2; have HK2 := ak_ (KeepBut.of_grown hgr g); have HN2 := ak_ (own_next (Nat.le_refl _) (.inl rfl : OwnNext w v v) hat); have hf2 := zf HG2.out 0; have hc2 := (zc HG2.out 0).trans rfl; clear ho2 hb2 hgr hat))
   go_end0
   exact ⟨_, rfl, ⟨by simpa using blk_set HG2.out 0 _, HGE.out, Kd.R_set HO2.out HG2.out (ne_u8 hT) 0 _⟩, below_set HB2.out HGE.out, KeepBut.set_ HK2.out 0 _, HN2.out⟩
 · go_wp2_with (first | ((with_reducible refine gate_builtin (b := .append) (xs := #[.tmp 10, .tmp 12]) rfl ?_); refine Kd.R_append (Kd.int .u8) (w0 := w0) w0.heap.size rfl (.tmp 10) (.tmp 12) 25 5 (.int .u8 0) 1 rfl Tryd.underlying25 infoW rfl (by decide) (by omega) v xs 1 [.int .u8 1] (fun _ => True) (fun _ => False) rfl rfl rfl (fun _ hk => hk.elim) (fun _ _ => trivial) HU.out HB.out HB.out.size HL.out ?_; intro v2 w2 ho2 hb2 hgr hat; obtain ⟨A2, c2, e2⟩ := Kd.R_slice ho2; subst e2; have HG2 := ak_ (blk_grown HG.out hgr (Kd.R_ne HU.out HG.out hT)); have HO2 := ak_ ho2; have HB2 := ak_ hb2; have HK2 := ak_ (KeepBut.of_grown hgr g); have HN2 := ak_ (own_next (Nat.le_refl _) (.inl rfl : OwnNext w v v) hat); have hf2 := zf HG2.out 0; have hc2 := (zc HG2.out 0).trans rfl; clear ho2 hb2 hgr hat))
   go_end0
   exact ⟨_, rfl, ⟨by simpa using blk_set HG2.out 0 _, HGE.out, Kd.R_set HO2.out HG2.out (ne_u8 hT) 0 _⟩, below_set HB2.out HGE.out, KeepBut.set_ HK2.out 0 _, HN2.out⟩
theorem eqA106 (d : Nat) (w : World) (x0 y0 : Int) (x1 y1 : Int) :
 (Op.equalIn (d + 2) 106 (.agg #[.int .i64 x0, .int .i64 x1]) (.agg #[.int .i64 y0, .int .i64 y1])).run Tryd.prog w = .ok (x0 == y0 && (x1 == y1)) w := by
 refine eqA_of Tryd.underlying106 (by kernel_rfl) ?_
 refine eqf_cons (by rfl) (by go_simp; rfl) (by go_simp; rfl) (by go_simp) ?_
 exact eqf_last (by rfl) (by go_simp; rfl) (by go_simp; rfl) (by go_simp)
attribute [local go_sem high] eqA106
def IsS108 (w0 W : World) (g : Nat) (f0 : List Int) (f1 : Int) (f2 : Int) (f3 : Int) : Prop := ∃ A0 c0, W.heap[g]? = some (.cells #[.slice A0 f0.length c0, .int .i64 f1, .int .i64 f2, .int .i64 f3] 108 (0, 0)) ∧ w0.heap.size ≤ g ∧ (Kd.C (Kd.int .u8) w0 A0 f0.length f0 ∧ f0.length ≤ c0)
theorem IsS108.grown {w0 W : World} {g : Nat} {f0 : List Int} {f1 : Int} {f2 : Int} {f3 : Int} {W1 : World} {row : Option Nat} (h : IsS108 w0 W g f0 f1 f2 f3) (hw : W.grownBy W1 row) (hne : some g ≠ row) : IsS108 w0 W1 g f0 f1 f2 f3 := by
 obtain ⟨A0, c0, hb, hg, hr0⟩ := h
 exact ⟨A0, c0, blk_grown hb hw hne, hg, hr0⟩
theorem IsS108.kept {w0 W : World} {g : Nat} {f0 : List Int} {f1 : Int} {f2 : Int} {f3 : Int} {W1 : World} {S : Nat → Prop} (h : IsS108 w0 W g f0 f1 f2 f3) (hk : Kept W W1 S) (hne : ¬ S g) : IsS108 w0 W1 g f0 f1 f2 f3 := by
 obtain ⟨A0, c0, hb, hg, hr0⟩ := h
 exact ⟨A0, c0, blk_kept hb hk hne, hg, hr0⟩
theorem IsS108.below {w0 W : World} {g : Nat} {f0 : List Int} {f1 : Int} {f2 : Int} {f3 : Int} {W1 : World} (h : IsS108 w0 W g f0 f1 f2 f3) (hw : Below W.heap.size W W1) : IsS108 w0 W1 g f0 f1 f2 f3 := h.grown (grown_of_below hw none) (by simp)
theorem IsS108.alloc {w0 W : World} {g : Nat} {f0 : List Int} {f1 : Int} {f2 : Int} {f3 : Int} (h : IsS108 w0 W g f0 f1 f2 f3) (o : Obj) : IsS108 w0 (W.alloc o) g f0 f1 f2 f3 := h.below (below_alloc (Below.refl _ _) o)
theorem IsS108.drewN {w0 W : World} {g : Nat} {f0 : List Int} {f1 : Int} {f2 : Int} {f3 : Int} (h : IsS108 w0 W g f0 f1 f2 f3) (m : Nat) : IsS108 w0 (W.drewN m) g f0 f1 f2 f3 := h
theorem IsS108.drew {w0 W : World} {g : Nat} {f0 : List Int} {f1 : Int} {f2 : Int} {f3 : Int} (h : IsS108 w0 W g f0 f1 f2 f3) : IsS108 w0 W.drew g f0 f1 f2 f3 := h
theorem IsS108.at_ {w0 W : World} {g : Nat} {f0 : List Int} {f1 : Int} {f2 : Int} {f3 : Int} {w' : World} {m : Nat} (hq : W.drewN m = w') (h : IsS108 w0 W g f0 f1 f2 f3) : IsS108 w0 w' g f0 f1 f2 f3 := by subst hq; exact IsS108.drewN h m
theorem IsS108.apart {w0 W : World} {g : Nat} {f0 : List Int} {f1 : Int} {f2 : Int} {f3 : Int} {α : Type} {d : Kd α} {e : Nat} {base : Nat} {ok : Nat → Prop} {v : Value} {xs : List α} (h : IsS108 w0 W g f0 f1 f2 f3) (ho : d.R e W base ok v xs) (ht : ∀ q, q ∈ e :: d.E → q ≠ 108) : d.R e W base (fun k => ok k ∧ k ≠ g) v xs := by
 obtain ⟨A0, c0, hb, hg, hr0⟩ := h
 exact Kd.R_types ho hb ht
theorem IsS108.own_ne {w0 W : World} {g : Nat} {f0 : List Int} {f1 : Int} {f2 : Int} {f3 : Int} {α : Type} {d : Kd α} {e : Nat} {base : Nat} {ok : Nat → Prop} {v : Value} {xs : List α} (h : IsS108 w0 W g f0 f1 f2 f3) (ho : d.R e W base ok v xs) (ht : e ≠ 108) : some g ≠ v.ownBlock := by
 obtain ⟨A0, c0, hb, hg, hr0⟩ := h
 exact Kd.R_ne ho hb ht
theorem IsS108.lt {w0 W : World} {g : Nat} {f0 : List Int} {f1 : Int} {f2 : Int} {f3 : Int} (h : IsS108 w0 W g f0 f1 f2 f3) : g < W.heap.size := by
 obtain ⟨A0, c0, hb, hg, hr0⟩ := h
 exact blk_lt hb
theorem IsS108.ge {w0 W : World} {g : Nat} {f0 : List Int} {f1 : Int} {f2 : Int} {f3 : Int} (h : IsS108 w0 W g f0 f1 f2 f3) : w0.heap.size ≤ g := by
 obtain ⟨A0, c0, hb, hg, hr0⟩ := h
 exact hg
theorem IsS108.far {w0 W : World} {g : Nat} {f0 : List Int} {f1 : Int} {f2 : Int} {f3 : Int} {p : Addr} (h : IsS108 w0 W g f0 f1 f2 f3) (hne : g ≠ p.block) (u : Value) : IsS108 w0 (W.setCell p u) g f0 f1 f2 f3 := by
 obtain ⟨A0, c0, hb, hg, hr0⟩ := h
 exact ⟨A0, c0, blk_far hb hne u, hg, hr0⟩
theorem cellS108_0 {W : World} {g : Nat} {A0 : Option Addr} {c0 : Nat} {f0 : List Int} {f1 : Int} {f2 : Int} {f3 : Int} (h : W.heap[g]? = some (.cells #[.slice A0 f0.length c0, .int .i64 f1, .int .i64 f2, .int .i64 f3] 108 (0, 0))) : W.cell? ⟨g, 0, none⟩ = some (.slice A0 f0.length c0) := (zc h 0).trans rfl
theorem cellS108_1 {W : World} {g : Nat} {A0 : Option Addr} {c0 : Nat} {f0 : List Int} {f1 : Int} {f2 : Int} {f3 : Int} (h : W.heap[g]? = some (.cells #[.slice A0 f0.length c0, .int .i64 f1, .int .i64 f2, .int .i64 f3] 108 (0, 0))) : W.cell? ⟨g, 1, none⟩ = some (.int .i64 f1) := (zc h 1).trans rfl
theorem IsS108.set_1 {w0 W : World} {g : Nat} {f0 : List Int} {f1 : Int} {f2 : Int} {f3 : Int} (h : IsS108 w0 W g f0 f1 f2 f3) (x : Int) : IsS108 w0 (W.setCell ⟨g, 1, none⟩ (.int .i64 x)) g f0 x f2 f3 := by
 obtain ⟨A0, c0, hb, hg, hr0⟩ := h
 exact ⟨A0, c0, by simpa using blk_set hb 1 (.int .i64 x), hg, hr0⟩
theorem cellS108_2 {W : World} {g : Nat} {A0 : Option Addr} {c0 : Nat} {f0 : List Int} {f1 : Int} {f2 : Int} {f3 : Int} (h : W.heap[g]? = some (.cells #[.slice A0 f0.length c0, .int .i64 f1, .int .i64 f2, .int .i64 f3] 108 (0, 0))) : W.cell? ⟨g, 2, none⟩ = some (.int .i64 f2) := (zc h 2).trans rfl
theorem IsS108.set_2 {w0 W : World} {g : Nat} {f0 : List Int} {f1 : Int} {f2 : Int} {f3 : Int} (h : IsS108 w0 W g f0 f1 f2 f3) (x : Int) : IsS108 w0 (W.setCell ⟨g, 2, none⟩ (.int .i64 x)) g f0 f1 x f3 := by
 obtain ⟨A0, c0, hb, hg, hr0⟩ := h
 exact ⟨A0, c0, by simpa using blk_set hb 2 (.int .i64 x), hg, hr0⟩
theorem cellS108_3 {W : World} {g : Nat} {A0 : Option Addr} {c0 : Nat} {f0 : List Int} {f1 : Int} {f2 : Int} {f3 : Int} (h : W.heap[g]? = some (.cells #[.slice A0 f0.length c0, .int .i64 f1, .int .i64 f2, .int .i64 f3] 108 (0, 0))) : W.cell? ⟨g, 3, none⟩ = some (.int .i64 f3) := (zc h 3).trans rfl
theorem IsS108.set_3 {w0 W : World} {g : Nat} {f0 : List Int} {f1 : Int} {f2 : Int} {f3 : Int} (h : IsS108 w0 W g f0 f1 f2 f3) (x : Int) : IsS108 w0 (W.setCell ⟨g, 3, none⟩ (.int .i64 x)) g f0 f1 f2 x := by
 obtain ⟨A0, c0, hb, hg, hr0⟩ := h
 exact ⟨A0, c0, by simpa using blk_set hb 3 (.int .i64 x), hg, hr0⟩
def fR_ok.f (s0_0 : List Int) (s0_1 : Int) (s0_2 : Int) (s0_3 : Int) : Option (Bool × Int × Int × Int) := some ((s0_2 == 0 && (s0_3 == 0)), s0_1, s0_2, s0_3)
namespace fR_ok
abbrev i108a_ := @IsS108.alloc
abbrev i108n_ := @IsS108.drewN
abbrev i108d_ := @IsS108.drew
end fR_ok
open fR_ok in
theorem fR_ok.calls (g : Nat) (s0_0 : List Int) (s0_1 : Int) (s0_2 : Int) (s0_3 : Int) (r1 : Bool) (r2 : Int) (r3 : Int) (r4 : Int) (w0 w : World) (hI : IsS108 w0 w g s0_0 s0_1 s0_2 s0_3) (hB : Below w0.heap.size w0 w) (h : fR_ok.f s0_0 s0_1 s0_2 s0_3 = some (r1, r2, r3, r4)) :
 Calls Tryd.prog 56 #[.pointer (some ⟨g, 0, none⟩)] w fun e w' => e = .returned (.bool r1) ∧ IsS108 w0 w' g s0_0 r2 r3 r4 ∧ Below w0.heap.size w0 w' ∧ KeepBut w w' g none := by
 have hu106 := Tryd.underlying106
 have HI0 := ak_ hI
 have HK := ak_ (KeepBut.refl w g none)
 have HL := ak_ hB.size
 clear hI
 have HW0 := ak_ hB.size
 have HB := ak_ hB
 clear hB
 have H : (some ((s0_2 == 0 && (s0_3 == 0)), s0_1, s0_2, s0_3)) = some (r1, r2, r3, r4) := h
 clear h
 simp only [Option.some.injEq, Prod.mk.injEq] at H
 obtain ⟨rfl, rfl, rfl, rfl⟩ := H
 obtain ⟨ASz2_0, cSz2_0, HGz2, hgz2, ⟨HSz2_0, _⟩⟩ := HI0.out
 have hcz2_0 := cellS108_0 HGz2
 have hcz2_1 := cellS108_1 HGz2
 have hcz2_2 := cellS108_2 HGz2
 have hcz2_3 := cellS108_3 HGz2
 have hfz2_1 := zf HGz2 1
 have hfz2_2 := zf HGz2 2
 have hfz2_3 := zf HGz2 3
 clear HGz2 hgz2
 go_enter Tryd.func56, Tryd.ntmps56
 go_wp2
 go_ret
 exact ⟨by first | rfl | simp [*], by repeat (first | (with_reducible first | exact HI0.out | apply i108a_ | apply i108n_ | apply i108d_ | apply IsS108.set_1 | apply IsS108.set_2 | apply IsS108.set_3) | exact HI0.out), by repeat (first | (with_reducible first | exact HB.out | apply pa | apply pd | apply pe | refine zs ?_ (IsS108.ge HI0.out)) | exact HB.out), by repeat (first | (with_reducible first | exact HK.out | apply KeepBut.set_ | apply keep_drewN | apply keep_drew | apply keep_alloc) | exact HK.out)⟩
attribute [local go_sem high] eqA106
def fR_left.f (s0_0 : List Int) (s0_1 : Int) (s0_2 : Int) (s0_3 : Int) : Option (Int × Int × Int × Int) := some (wrap64 ((s0_0.length : Int) - s0_1), s0_1, s0_2, s0_3)
theorem fR_left.calls (g : Nat) (s0_0 : List Int) (s0_1 : Int) (s0_2 : Int) (s0_3 : Int) (r1 : Int) (r2 : Int) (r3 : Int) (r4 : Int) (w0 w : World) (hI : IsS108 w0 w g s0_0 s0_1 s0_2 s0_3) (hB : Below w0.heap.size w0 w) (h : fR_left.f s0_0 s0_1 s0_2 s0_3 = some (r1, r2, r3, r4)) :
 Calls Tryd.prog 57 #[.pointer (some ⟨g, 0, none⟩)] w fun e w' => e = .returned (.int .i64 r1) ∧ IsS108 w0 w' g s0_0 r2 r3 r4 ∧ Below w0.heap.size w0 w' ∧ KeepBut w w' g none := by
 have HI0 := ak_ hI
 have HK := ak_ (KeepBut.refl w g none)
 have HL := ak_ hB.size
 clear hI
 have HW0 := ak_ hB.size
 have HB := ak_ hB
 clear hB
 have H : (some (wrap64 ((s0_0.length : Int) - s0_1), s0_1, s0_2, s0_3)) = some (r1, r2, r3, r4) := h
 clear h
 simp only [Option.some.injEq, Prod.mk.injEq] at H
 obtain ⟨rfl, rfl, rfl, rfl⟩ := H
 obtain ⟨ASz2_0, cSz2_0, HGz2, hgz2, ⟨HSz2_0, _⟩⟩ := HI0.out
 have hcz2_0 := cellS108_0 HGz2
 have hcz2_1 := cellS108_1 HGz2
 have hcz2_2 := cellS108_2 HGz2
 have hcz2_3 := cellS108_3 HGz2
 have hfz2_1 := zf HGz2 1
 have hfz2_2 := zf HGz2 2
 have hfz2_3 := zf HGz2 3
 clear HGz2 hgz2
 go_enter Tryd.func57, Tryd.ntmps57
 go_wp2
 repeat (go_quiet (fail); try go_wp2)
 go_ret
 exact ⟨by first | rfl | simp [*], by repeat (first | (with_reducible first | exact HI0.out | apply IsS108.alloc | apply IsS108.drewN | apply IsS108.drew | apply IsS108.set_1 | apply IsS108.set_2 | apply IsS108.set_3) | exact HI0.out), by repeat (first | (with_reducible first | exact HB.out | apply below_alloc | apply pw_below_drewN | apply below_drew1 | refine below_set ?_ (IsS108.ge HI0.out)) | exact HB.out), by repeat (first | (with_reducible first | exact HK.out | apply KeepBut.set_ | apply keep_drewN | apply keep_drew | apply keep_alloc) | exact HK.out)⟩
def fR_fail.f (s0_0 : List Int) (s0_1 : Int) (s0_2 : Int) (s0_3 : Int) (a1 : Int) (a2 : Int) : Option (Int × Int × Int) := if (s0_2 == 0 && (s0_3 == 0)) = true then (some (a1, a1, a2)) else (some (a1, s0_2, s0_3))
theorem fR_fail.calls (g : Nat) (s0_0 : List Int) (s0_1 : Int) (s0_2 : Int) (s0_3 : Int) (a1 : Int) (a2 : Int) (r1 : Int) (r2 : Int) (r3 : Int) (w0 w : World) (hI : IsS108 w0 w g s0_0 s0_1 s0_2 s0_3) (hB : Below w0.heap.size w0 w) (h : fR_fail.f s0_0 s0_1 s0_2 s0_3 a1 a2 = some (r1, r2, r3)) :
 Calls Tryd.prog 58 #[.pointer (some ⟨g, 0, none⟩), .int .i64 a1, .int .i64 a2] w fun e w' => e = .returned (.tuple #[]) ∧ IsS108 w0 w' g s0_0 r1 r2 r3 ∧ Below w0.heap.size w0 w' ∧ KeepBut w w' g none := by
 have hu106 := Tryd.underlying106
 have HI0 := ak_ hI
 have HK := ak_ (KeepBut.refl w g none)
 have HL := ak_ hB.size
 clear hI
 have HW0 := ak_ hB.size
 have HB := ak_ hB
 clear hB
 have H : (if (s0_2 == 0 && (s0_3 == 0)) = true then (some (a1, a1, a2)) else (some (a1, s0_2, s0_3))) = some (r1, r2, r3) := h
 clear h
 have HF4 := ak_ H
 clear H
 obtain ⟨ASz5_0, cSz5_0, HGz5, hgz5, ⟨HSz5_0, _⟩⟩ := HI0.out
 have hcz5_0 := cellS108_0 HGz5
 have hcz5_1 := cellS108_1 HGz5
 have hcz5_2 := cellS108_2 HGz5
 have hcz5_3 := cellS108_3 HGz5
 have hfz5_1 := zf HGz5 1
 have hfz5_2 := zf HGz5 2
 have hfz5_3 := zf HGz5 3
 clear HGz5 hgz5
 go_enter Tryd.func58, Tryd.ntmps58
 go_upto_if 11 with (fail)
 have H := HF4.out
 clear HF4
 by_cases c6 : (s0_2 == 0 && (s0_3 == 0)) = true
 · rw [if_pos c6] at H
   have c6b0 : (s0_2 == 0 && (s0_3 == 0)) = true := c6
   (try (have c6b1 : decide (s0_2 = 0 && (s0_3 == 0)) = true := by simpa using c6))
   (try (have c6b2 : (s0_2 == 0 && (s0_3 == 0)) = true := by simpa using c6))
   clear c6
   (first | rw [c6b0] | (simp only [i64_w, i32_w]; rw [c6b0]) | skip)
   simp only [Option.some.injEq, Prod.mk.injEq] at H
   obtain ⟨rfl, rfl, rfl⟩ := H
   obtain ⟨ASz7_0, cSz7_0, HGz7, hgz7, ⟨HSz7_0, _⟩⟩ := HI0.out
   have hcz7_0 := cellS108_0 HGz7
   have hcz7_1 := cellS108_1 HGz7
   have hcz7_2 := cellS108_2 HGz7
   have hcz7_3 := cellS108_3 HGz7
   have hfz7_1 := zf HGz7 1
   have hfz7_2 := zf HGz7 2
   have hfz7_3 := zf HGz7 3
   clear HGz7 hgz7
   go_wp2
   first | go_end0 | ((try simp only [Exit.inBlock, Exit.then]); refine bodyPost_ret (results_none rfl _ _ _) rfl ?_)
   exact ⟨by first | rfl | simp [*], by repeat (first | (with_reducible first | exact HI0.out | apply IsS108.alloc | apply IsS108.drewN | apply IsS108.drew | apply IsS108.set_1 | apply IsS108.set_2 | apply IsS108.set_3) | exact HI0.out), by repeat (first | (with_reducible first | exact HB.out | apply below_alloc | apply pw_below_drewN | apply below_drew1 | refine below_set ?_ (IsS108.ge HI0.out)) | exact HB.out), by repeat (first | (with_reducible first | exact HK.out | apply KeepBut.set_ | apply keep_drewN | apply keep_drew | apply keep_alloc) | exact HK.out)⟩
 · rw [if_neg c6] at H
   have c6b0 : (s0_2 == 0 && (s0_3 == 0)) = false := by simpa using c6
   (try (have c6b1 : decide (s0_2 = 0 && (s0_3 == 0)) = false := by simpa using c6))
   (try (have c6b2 : (s0_2 == 0 && (s0_3 == 0)) = false := by simpa using c6))
   (try (have c6b3 : ¬ (s0_2 = 0 && (s0_3 == 0)) := by simpa using c6))
   clear c6
   (first | rw [c6b0] | (simp only [i64_w, i32_w]; rw [c6b0]) | skip)
   simp only [Option.some.injEq, Prod.mk.injEq] at H
   obtain ⟨rfl, rfl, rfl⟩ := H
   obtain ⟨ASz8_0, cSz8_0, HGz8, hgz8, ⟨HSz8_0, _⟩⟩ := HI0.out
   have hcz8_0 := cellS108_0 HGz8
   have hcz8_1 := cellS108_1 HGz8
   have hcz8_2 := cellS108_2 HGz8
   have hcz8_3 := cellS108_3 HGz8
   have hfz8_1 := zf HGz8 1
   have hfz8_2 := zf HGz8 2
   have hfz8_3 := zf HGz8 3
   clear HGz8 hgz8
   go_wp2
   first | go_end0 | ((try simp only [Exit.inBlock, Exit.then]); refine bodyPost_ret (results_none rfl _ _ _) rfl ?_)
   exact ⟨by first | rfl | simp [*], by repeat (first | (with_reducible first | exact HI0.out | apply IsS108.alloc | apply IsS108.drewN | apply IsS108.drew | apply IsS108.set_1 | apply IsS108.set_2 | apply IsS108.set_3) | exact HI0.out), by repeat (first | (with_reducible first | exact HB.out | apply below_alloc | apply pw_below_drewN | apply below_drew1 | refine below_set ?_ (IsS108.ge HI0.out)) | exact HB.out), by repeat (first | (with_reducible first | exact HK.out | apply KeepBut.set_ | apply keep_drewN | apply keep_drew | apply keep_alloc) | exact HK.out)⟩
theorem infoR : (Tryd.prog.info? 5).map (fun i => (i.zero, i.size, i.bytes)) = some (some (.int .u8 0), 1, 1) := by kernel_rfl
def vstep (v c : Int) : Int := Go.bits .or .u64 ((v * 256) % 18446744073709551616) (c % 18446744073709551616)
def vfold (l : List Int) : Int := l.foldl vstep 0
def okR (fa fe : Int) : Bool := fa == 0 && (fe == 0)
def fR_Num.f (s0_0 : List Int) (s0_1 : Int) (s0_2 : Int) (s0_3 : Int) : Option (Int × Int × Int × Int) :=
 if okR s0_2 s0_3 = true then
  if wrap64 ((s0_0.length : Int) - s0_1) < 8 then some (0, s0_1, s0_1, 2)
  else if 0 ≤ s0_1 ∧ s0_1 + 8 ≤ (s0_0.length : Int) then
   if vfold ((s0_0.take (s0_1 + 8).toNat).drop s0_1.toNat) > 4611686018427387904 then some (0, s0_1, s0_1, 4)
   else some (wrap64 (vfold ((s0_0.take (s0_1 + 8).toNat).drop s0_1.toNat)), s0_1 + 8, s0_2, s0_3)
  else none
 else some (0, s0_1, s0_2, s0_3)
theorem okR_f (b : List Int) (at_ fa fe : Int) : fR_ok.f b at_ fa fe = some (okR fa fe, at_, fa, fe) := rfl
theorem leftR_f (b : List Int) (at_ fa fe : Int) : fR_left.f b at_ fa fe = some (wrap64 ((b.length : Int) - at_), at_, fa, fe) := rfl
theorem failR_f (b : List Int) (at_ fa fe x e : Int) (h : okR fa fe = true) : fR_fail.f b at_ fa fe x e = some (x, x, e) := by
 unfold okR at h
 unfold fR_fail.f
 rw [if_pos h]
theorem fR_Num.calls (g : Nat) (s0_0 : List Int) (s0_1 : Int) (s0_2 : Int) (s0_3 : Int) (r1 : Int) (r2 : Int) (r3 : Int) (r4 : Int) (w0 w : World) (hI : IsS108 w0 w g s0_0 s0_1 s0_2 s0_3) (hB : Below w0.heap.size w0 w) (h : fR_Num.f s0_0 s0_1 s0_2 s0_3 = some (r1, r2, r3, r4)) :
 Calls Tryd.prog 36 #[.pointer (some ⟨g, 0, none⟩)] w fun e w' => e = .returned (.int .i64 r1) ∧ IsS108 w0 w' g s0_0 r2 r3 r4 ∧ Below w0.heap.size w0 w' ∧ KeepBut w w' g none := by
 have HK := ak_ (KeepBut.refl w g none)
 have HI := ak_ hI
 have HB := ak_ hB
 unfold fR_Num.f at h
 obtain ⟨A0, c0, hg, hge, hC, hcap⟩ := hI
 have hc1 := cellS108_1 hg
 have hc0 := cellS108_0 hg
 have hCR := ak_ hC
 clear hB hC hge hg hcap
 by_cases ho : okR s0_2 s0_3 = true
 · rw [if_pos ho] at h
   have A1 := ak_ ((okR_f s0_0 s0_1 s0_2 s0_3).trans (by rw [ho]))
   have HF := fun e => ak_ (failR_f s0_0 s0_1 s0_2 s0_3 s0_1 e ho)
   clear ho
   by_cases hl : wrap64 ((s0_0.length : Int) - s0_1) < 8
   · rw [if_pos hl] at h
     simp only [Option.some.injEq, Prod.mk.injEq] at h
     obtain ⟨rfl, rfl, rfl, rfl⟩ := h
     have A2 := ak_ (leftR_f s0_0 s0_1 s0_2 s0_3)
     have hd := dt_ hl
     have A3 := HF 2
     generalize wrap64 ((s0_0.length : Int) - s0_1) = m at *
     clear hl HF hc0
     go_enter Tryd.func36, Tryd.ntmps36
     go_wp2_with (first | (go_at_call 56; refine (fR_ok.calls g _ _ _ _ _ _ _ _ w0 _ HI.out HB.out A1.out).mono ?_; rintro e w1 ⟨rfl, hi, hb, hk⟩; have HI1 := ak_ hi; have HB1 := ak_ hb; have HK1 := ak_ (KeepBut.trans HK.out hk (.inl rfl)); clear hi hb hk) | (go_at_call 57; refine (fR_left.calls g _ _ _ _ _ _ _ _ w0 _ HI1.out HB1.out A2.out).mono ?_; rintro e w2 ⟨rfl, hi, hb, hk⟩; have HI2 := ak_ hi; have HB2 := ak_ hb; have HK2 := ak_ (KeepBut.trans HK1.out hk (.inl rfl)); clear hi hb hk) | (go_at_call 58; refine (fR_fail.calls g _ _ _ _ _ _ _ _ _ w0 _ HI2.out HB2.out A3.out).mono ?_; rintro e w3 ⟨rfl, hi, hb, hk⟩; have HI3 := ak_ hi; have HB3 := ak_ hb; have HK3 := ak_ (KeepBut.trans HK2.out hk (.inl rfl)); clear hi hb hk))
     go_ret
     exact ⟨rfl, HI3.out, HB3.out, HK3.out⟩
   · rw [if_neg hl] at h
     by_cases hin : 0 ≤ s0_1 ∧ s0_1 + 8 ≤ (s0_0.length : Int)
     · rw [if_pos hin] at h
       obtain ⟨h0, h8⟩ := hin
       have hlen : s0_0.length ≤ 9223372036854775807 := hCR.out.2.1
       have A2 := ak_ (leftR_f s0_0 s0_1 s0_2 s0_3)
       have hd := df_ hl
       have HFr := ak_ (fun e => (HF e).out)
       have hw : wrap64 (s0_1 + 8) = s0_1 + 8 := by unfold wrap64; omega
       have Hh := ak_ h
       have H0 := ak_ h0
       have H8 := ak_ h8
       have HL := ak_ hlen
       generalize wrap64 ((s0_0.length : Int) - s0_1) = m at *
       clear hl hc0 h HF h0 h8 hlen hCR
       go_enter Tryd.func36, Tryd.ntmps36
       go_upto_region 8 with (first | (go_at_call 56; refine (fR_ok.calls g _ _ _ _ _ _ _ _ w0 _ HI.out HB.out A1.out).mono ?_; rintro e w1 ⟨rfl, hi, hb, hk⟩; have HI1 := ak_ hi; have HB1 := ak_ hb; have HK1 := ak_ (KeepBut.trans HK.out hk (.inl rfl)); clear hi hb hk) | (go_at_call 57; refine (fR_left.calls g _ _ _ _ _ _ _ _ w0 _ HI1.out HB1.out A2.out).mono ?_; rintro e w2 ⟨rfl, hi, hb, hk⟩; have HI2 := ak_ hi; have HB2 := ak_ hb; have HK2 := ak_ (KeepBut.trans HK1.out hk (.inl rfl)); clear hi hb hk))
       obtain ⟨A2, c2, hg2, hge2, hC2, hcap2⟩ := HI2.out
       have hc0 := cellS108_0 hg2
       have hc1 := cellS108_1 hg2
       have hf1 := zf hg2 1
       clear hg2 hge2
       obtain ⟨i0, hi0, _, hsz0, _⟩ := info_parts infoR
       obtain ⟨A3, hcut, hA3, hC3⟩ := print_mid_of (P := Tryd.prog) (Value.int .u8) 0 25 5 .i64 .i64 Tryd.underlying25 hi0 hsz0 A2 c2 s0_0 s0_1 (s0_1 + 8) H0.out (by omega) H8.out hcap2
       have HR := ak_ (show (Kd.int .u8).C w2 A3 _ _ from Kd.C_below (Kd.C_of_reads (h1 := fun _ => rfl) (hA3 _ (Kd.reads_of_C hC2))) HB2.out)
       have hln : ((s0_0.take (s0_1 + 8).toNat).drop s0_1.toNat).length = 8 := by
        have := H0.out; have := H8.out
        rw [List.length_drop, List.length_take]; omega
       obtain ⟨l, hl⟩ : ∃ l, (s0_0.take (s0_1 + 8).toNat).drop s0_1.toNat = l := ⟨_, rfl⟩
       rw [hl] at hln HR hcut
       have Hh2 := ak_ (by have := Hh.out; rw [hl] at this; exact this)
       rw [hln] at HR hcut
       clear hA3 hC3 hC2 hcap2 hi0 hsz0 hl Hh
       have HLN := ak_ hln
       clear hln
       go_wp2
       go_loop [4, 31] (fun v4 v31 => ∃ k : Nat, k ≤ 8 ∧ v31 = .int .i64 k ∧ v4 = .int .u64 (vfold (l.take k))) (fun _ v31 => 8 - (intOf v31).toNat)
       case atStart => exact ⟨0, by omega, rfl, rfl⟩
       case round =>
        obtain ⟨k, hk, rfl, rfl⟩ := hrel
        by_cases hlt : k < 8
        · have hs := ak_ (show vfold (l.take (k + 1)) = vstep (vfold (l.take k)) (rd l k) by
           have h8 : k < l.length := by rw [HLN.out]; exact hlt
           unfold vfold
           rw [List.take_succ_eq_append_getElem h8, List.foldl_append]
           simp [rd, h8])
          obtain ⟨s, hs0⟩ : ∃ s, vfold (l.take k) = s := ⟨_, rfl⟩
          rw [hs0] at hs ⊢
          clear hs0
          have q0 : 0 ≤ (k : Int) := by omega
          have q1 : (k : Int) < ((8 : Nat) : Int) := by omega
          obtain ⟨ad, e, hx⟩ := Kd.at_int HR.out (k : Int) q0 q1
          cases e
          rw [Int.toNat_natCast] at hx
          generalize rd l (k : Int) = c at *
          go_wp2
          go_round
          case rel => exact ⟨k + 1, by omega, by go_num, by rw [hs.out]; rfl⟩
          case measure => simp [intOf]; omega
        · have hkk : k = 8 := by omega
          subst hkk
          have hall : l.take 8 = l := List.take_of_length_le (by rw [HLN.out]; exact Nat.le_refl _)
          rw [hall]
          have h := Hh2.out
          generalize vfold l = v at *
          clear Hh2
          by_cases hv : v > 4611686018427387904
          · rw [if_pos hv] at h
            simp only [Option.some.injEq, Prod.mk.injEq] at h
            obtain ⟨rfl, rfl, rfl, rfl⟩ := h
            have hd2 : decide (4611686018427387904 < v) = true := dt_ hv
            have A3 := HFr.out 4
            clear hv
            go_wp2_with (first | (go_at_call 58; refine (fR_fail.calls g _ _ _ _ _ _ _ _ _ w0 _ HI2.out HB2.out A3).mono ?_; rintro e w3 ⟨rfl, hi, hb, hk⟩; have HI3 := ak_ hi; have HB3 := ak_ hb; have HK3 := ak_ (KeepBut.trans HK2.out hk (.inl rfl)); clear hi hb hk))
            go_ret
            exact ⟨rfl, HI3.out, HB3.out, HK3.out⟩
          · rw [if_neg hv] at h
            simp only [Option.some.injEq, Prod.mk.injEq] at h
            obtain ⟨rfl, rfl, rfl, rfl⟩ := h
            have hd2 : decide (4611686018427387904 < v) = false := df_ hv
            clear hv
            go_wp2
            go_ret
            exact ⟨rfl, IsS108.set_1 HI2.out _, below_set HB2.out (IsS108.ge HI2.out), by repeat (first | (with_reducible first | exact HK2.out | apply KeepBut.set_ | apply keep_drewN | apply keep_drew | apply keep_alloc) | exact HK2.out)⟩
     · rw [if_neg hin] at h
       cases h
 · rw [if_neg ho] at h
   simp only [Option.some.injEq, Prod.mk.injEq] at h
   obtain ⟨rfl, rfl, rfl, rfl⟩ := h
   have A1 := ak_ ((okR_f s0_0 s0_1 s0_2 s0_3).trans (by rw [Bool.eq_false_iff.mpr ho]))
   clear ho
   go_enter Tryd.func36, Tryd.ntmps36
   go_wp2_with (first | (go_at_call 56; refine (fR_ok.calls g _ _ _ _ _ _ _ _ w0 _ HI.out HB.out A1.out).mono ?_; rintro e w1 ⟨rfl, hi, hb, hk⟩; have HI1 := ak_ hi; have HB1 := ak_ hb; have HK1 := ak_ (KeepBut.trans HK.out hk (.inl rfl)); clear hi hb hk))
   go_ret
   exact ⟨rfl, HI1.out, HB1.out, HK1.out⟩
def fR_Text.f (s0_0 : List Int) (s0_1 : Int) (s0_2 : Int) (s0_3 : Int) (a1 : Int) : Option (ByteArray × Int × Int × Int) :=
 (fR_Num.f s0_0 s0_1 s0_2 s0_3).bind fun q =>
  if okR q.2.2.1 q.2.2.2 = true then
   if q.1 > a1 then some (⟨#[]⟩, s0_1, s0_1, 4)
   else if q.1 > wrap64 ((s0_0.length : Int) - q.2.1) then some (⟨#[]⟩, s0_1, s0_1, 2)
   else if 0 ≤ q.2.1 ∧ 0 ≤ q.1 ∧ q.2.1 + q.1 ≤ (s0_0.length : Int) then some (strOfNums ((s0_0.take (q.2.1 + q.1).toNat).drop q.2.1.toNat), q.2.1 + q.1, q.2.2.1, q.2.2.2)
   else none
  else some (⟨#[]⟩, q.2.1, q.2.2.1, q.2.2.2)
theorem fR_Text.calls (g : Nat) (s0_0 : List Int) (s0_1 : Int) (s0_2 : Int) (s0_3 : Int) (a1 : Int) (r1 : ByteArray) (r2 : Int) (r3 : Int) (r4 : Int) (w0 w : World) (hI : IsS108 w0 w g s0_0 s0_1 s0_2 s0_3) (hB : Below w0.heap.size w0 w) (h : fR_Text.f s0_0 s0_1 s0_2 s0_3 a1 = some (r1, r2, r3, r4)) :
 Calls Tryd.prog 37 #[.pointer (some ⟨g, 0, none⟩), .int .i64 a1] w fun e w' => e = .returned (.string r1) ∧ IsS108 w0 w' g s0_0 r2 r3 r4 ∧ Below w0.heap.size w0 w' ∧ KeepBut w w' g none := by
 have HK := ak_ (KeepBut.refl w g none)
 have HI := ak_ hI
 have HB := ak_ hB
 unfold fR_Text.f at h
 obtain ⟨⟨n, at_, fa, fe⟩, hn, h⟩ := ob_ h
 have A0 := ak_ hn
 dsimp only at h
 obtain ⟨B0, c0, hg, hge, hC, hcap⟩ := hI
 have hc1 := cellS108_1 hg
 have hlen : s0_0.length ≤ 9223372036854775807 := hC.2.1
 clear hB hC hge hg hcap hn
 by_cases ho : okR fa fe = true
 · rw [if_pos ho] at h
   have A1 := ak_ ((okR_f s0_0 at_ fa fe).trans (by rw [ho]))
   have HF := ak_ (fun e => failR_f s0_0 at_ fa fe s0_1 e ho)
   clear ho
   by_cases hm : n > a1
   · rw [if_pos hm] at h
     simp only [Option.some.injEq, Prod.mk.injEq] at h
     obtain ⟨rfl, rfl, rfl, rfl⟩ := h
     have hd : decide (a1 < n) = true := dt_ hm
     have A3 := ak_ (HF.out 4)
     clear hm HF
     go_enter Tryd.func37, Tryd.ntmps37
     go_wp2_with (first | (go_at_call 36; refine (fR_Num.calls g _ _ _ _ _ _ _ _ w0 _ HI.out HB.out A0.out).mono ?_; rintro e w1 ⟨rfl, hi, hb, hk⟩; have HI1 := ak_ hi; have HB1 := ak_ hb; have HK1 := ak_ (KeepBut.trans HK.out hk (.inl rfl)); clear hi hb hk) | (go_at_call 56; refine (fR_ok.calls g _ _ _ _ _ _ _ _ w0 _ HI1.out HB1.out A1.out).mono ?_; rintro e w2 ⟨rfl, hi, hb, hk⟩; have HI2 := ak_ hi; have HB2 := ak_ hb; have HK2 := ak_ (KeepBut.trans HK1.out hk (.inl rfl)); clear hi hb hk) | (go_at_call 58; refine (fR_fail.calls g _ _ _ _ _ _ _ _ _ w0 _ HI2.out HB2.out A3.out).mono ?_; rintro e w3 ⟨rfl, hi, hb, hk⟩; have HI3 := ak_ hi; have HB3 := ak_ hb; have HK3 := ak_ (KeepBut.trans HK2.out hk (.inl rfl)); clear hi hb hk))
     go_ret
     exact ⟨rfl, HI3.out, HB3.out, HK3.out⟩
   · rw [if_neg hm] at h
     have hd : decide (a1 < n) = false := df_ hm
     clear hm
     have A2 := ak_ (leftR_f s0_0 at_ fa fe)
     by_cases hl : n > wrap64 ((s0_0.length : Int) - at_)
     · rw [if_pos hl] at h
       simp only [Option.some.injEq, Prod.mk.injEq] at h
       obtain ⟨rfl, rfl, rfl, rfl⟩ := h
       have hd2 : decide (wrap64 ((s0_0.length : Int) - at_) < n) = true := dt_ hl
       have A3 := ak_ (HF.out 2)
       generalize wrap64 ((s0_0.length : Int) - at_) = m at *
       clear hl HF
       go_enter Tryd.func37, Tryd.ntmps37
       go_wp2_with (first | (go_at_call 36; refine (fR_Num.calls g _ _ _ _ _ _ _ _ w0 _ HI.out HB.out A0.out).mono ?_; rintro e w1 ⟨rfl, hi, hb, hk⟩; have HI1 := ak_ hi; have HB1 := ak_ hb; have HK1 := ak_ (KeepBut.trans HK.out hk (.inl rfl)); clear hi hb hk) | (go_at_call 56; refine (fR_ok.calls g _ _ _ _ _ _ _ _ w0 _ HI1.out HB1.out A1.out).mono ?_; rintro e w2 ⟨rfl, hi, hb, hk⟩; have HI2 := ak_ hi; have HB2 := ak_ hb; have HK2 := ak_ (KeepBut.trans HK1.out hk (.inl rfl)); clear hi hb hk) | (go_at_call 57; refine (fR_left.calls g _ _ _ _ _ _ _ _ w0 _ HI2.out HB2.out A2.out).mono ?_; rintro e w3 ⟨rfl, hi, hb, hk⟩; have HI3 := ak_ hi; have HB3 := ak_ hb; have HK3 := ak_ (KeepBut.trans HK2.out hk (.inl rfl)); clear hi hb hk) | (go_at_call 58; refine (fR_fail.calls g _ _ _ _ _ _ _ _ _ w0 _ HI3.out HB3.out A3.out).mono ?_; rintro e w4 ⟨rfl, hi, hb, hk⟩; have HI4 := ak_ hi; have HB4 := ak_ hb; have HK4 := ak_ (KeepBut.trans HK3.out hk (.inl rfl)); clear hi hb hk))
       go_ret
       exact ⟨rfl, HI4.out, HB4.out, HK4.out⟩
     · rw [if_neg hl] at h
       by_cases hin : 0 ≤ at_ ∧ 0 ≤ n ∧ at_ + n ≤ (s0_0.length : Int)
       · rw [if_pos hin] at h
         simp only [Option.some.injEq, Prod.mk.injEq] at h
         obtain ⟨rfl, rfl, rfl, rfl⟩ := h
         obtain ⟨h0, h1, h8⟩ := hin
         have hd2 : decide (wrap64 ((s0_0.length : Int) - at_) < n) = false := df_ hl
         have hw : wrap64 (at_ + n) = at_ + n := by unfold wrap64; omega
         have hww : IntKind.i64.wrap (at_ + n) = at_ + n := by rw [IntKind.wrap_i64]; omega
         have H0 := ak_ h0
         have H1 := ak_ h1
         have H8 := ak_ h8
         generalize wrap64 ((s0_0.length : Int) - at_) = m at *
         clear hl HF h0 h1 h8 hlen
         go_enter Tryd.func37, Tryd.ntmps37
         go_upto_region 11 with (first | (go_at_call 36; refine (fR_Num.calls g _ _ _ _ _ _ _ _ w0 _ HI.out HB.out A0.out).mono ?_; rintro e w1 ⟨rfl, hi, hb, hk⟩; have HI1 := ak_ hi; have HB1 := ak_ hb; have HK1 := ak_ (KeepBut.trans HK.out hk (.inl rfl)); clear hi hb hk) | (go_at_call 56; refine (fR_ok.calls g _ _ _ _ _ _ _ _ w0 _ HI1.out HB1.out A1.out).mono ?_; rintro e w2 ⟨rfl, hi, hb, hk⟩; have HI2 := ak_ hi; have HB2 := ak_ hb; have HK2 := ak_ (KeepBut.trans HK1.out hk (.inl rfl)); clear hi hb hk) | (go_at_call 57; refine (fR_left.calls g _ _ _ _ _ _ _ _ w0 _ HI2.out HB2.out A2.out).mono ?_; rintro e w3 ⟨rfl, hi, hb, hk⟩; have HI3 := ak_ hi; have HB3 := ak_ hb; have HK3 := ak_ (KeepBut.trans HK2.out hk (.inl rfl)); clear hi hb hk))
         obtain ⟨A5, c5, hg5, hge5, hC5, hcap5⟩ := HI3.out
         have hc50 := cellS108_0 hg5
         have hc51 := cellS108_1 hg5
         have hf51 := zf hg5 1
         clear hg5 hge5 hc1
         obtain ⟨i0, hi0, _, hsz0, _⟩ := info_parts infoR
         obtain ⟨A6, hcut, hA6, hC6⟩ := print_mid_of (P := Tryd.prog) (Value.int .u8) 0 25 5 .i64 .i64 Tryd.underlying25 hi0 hsz0 A5 c5 s0_0 at_ (at_ + n) H0.out (by have := H1.out; omega) H8.out hcap5
         have HR := ak_ (show (Kd.int .u8).C w3 A6 _ _ from Kd.C_below (Kd.C_of_reads (h1 := fun _ => rfl) (hA6 _ (Kd.reads_of_C hC5))) HB3.out)
         have hcv := fun m_ : Nat => Kd.C_string (P := Tryd.prog) (w := w3.drewN m_) (A := A6) (c := c5 - at_.toNat) Tryd.underlying25 Tryd.underlying5 Tryd.underlying9 (Kd.C_drewN HR.out m_)
         clear hA6 hC6 hC5 hcap5 hi0 hsz0
         obtain ⟨l, hl⟩ : ∃ l, (s0_0.take (at_ + n).toNat).drop at_.toNat = l := ⟨_, rfl⟩
         rw [hl] at hcut hcv HR
         have HLL := ak_ hl
         clear hl
         go_quiet (fail)
         go_wp2
         go_ret
         exact ⟨by rw [HLL.out]; rfl, by repeat (first | (with_reducible first | exact HI3.out | apply IsS108.set_1 | apply IsS108.drewN | apply IsS108.drew) | exact HI3.out), by repeat (first | (with_reducible first | exact HB3.out | apply below_alloc | apply pw_below_drewN | apply below_drew1 | refine below_set ?_ (IsS108.ge HI3.out)) | exact HB3.out), by repeat (first | (with_reducible first | exact HK3.out | apply KeepBut.set_ | apply keep_drewN | apply keep_drew | apply keep_alloc) | exact HK3.out)⟩
       · rw [if_neg hin] at h
         cases h
 · rw [if_neg ho] at h
   simp only [Option.some.injEq, Prod.mk.injEq] at h
   obtain ⟨rfl, rfl, rfl, rfl⟩ := h
   have A1 := ak_ ((okR_f s0_0 at_ fa fe).trans (by rw [Bool.eq_false_iff.mpr ho]))
   clear ho
   go_enter Tryd.func37, Tryd.ntmps37
   go_wp2_with (first | (go_at_call 36; refine (fR_Num.calls g _ _ _ _ _ _ _ _ w0 _ HI.out HB.out A0.out).mono ?_; rintro e w1 ⟨rfl, hi, hb, hk⟩; have HI1 := ak_ hi; have HB1 := ak_ hb; have HK1 := ak_ (KeepBut.trans HK.out hk (.inl rfl)); clear hi hb hk) | (go_at_call 56; refine (fR_ok.calls g _ _ _ _ _ _ _ _ w0 _ HI1.out HB1.out A1.out).mono ?_; rintro e w2 ⟨rfl, hi, hb, hk⟩; have HI2 := ak_ hi; have HB2 := ak_ hb; have HK2 := ak_ (KeepBut.trans HK1.out hk (.inl rfl)); clear hi hb hk))
   go_ret
   exact ⟨rfl, HI2.out, HB2.out, HK2.out⟩
def fR_Flag.f (s0_0 : List Int) (s0_1 : Int) (s0_2 : Int) (s0_3 : Int) : Option (Bool × Int × Int × Int) := (fR_ok.f s0_0 s0_1 s0_2 s0_3).bind fun bt603 => (if bt603.1 = true then ((fR_left.f s0_0 bt603.2.1 bt603.2.2.1 bt603.2.2.2).bind fun bt607 => (if bt607.1 = 0 then ((fR_fail.f s0_0 bt607.2.1 bt607.2.2.1 bt607.2.2.2 bt607.2.1 2).bind fun bt611 => (some (false, bt611.1, bt611.2.1, bt611.2.2))) else (if 0 ≤ bt607.2.1 then (if bt607.2.1 < (s0_0.length : Int) then (if (rd s0_0 bt607.2.1) > 1 then ((fR_fail.f s0_0 bt607.2.1 bt607.2.2.1 bt607.2.2.2 bt607.2.1 3).bind fun bt615 => (some (false, bt615.1, bt615.2.1, bt615.2.2))) else (if 0 ≤ (wrap64 ((wrap64 (bt607.2.1 + 1)) - 1)) then (if (wrap64 ((wrap64 (bt607.2.1 + 1)) - 1)) < (s0_0.length : Int) then (some (((rd s0_0 (wrap64 ((wrap64 (bt607.2.1 + 1)) - 1))) == 1), wrap64 (bt607.2.1 + 1), bt607.2.2.1, bt607.2.2.2)) else (none)) else (none))) else (none)) else (none)))) else (some (false, bt603.2.1, bt603.2.2.1, bt603.2.2.2)))
namespace fR_Flag
abbrev i108a_ := @IsS108.alloc
abbrev i108n_ := @IsS108.drewN
abbrev i108d_ := @IsS108.drew
end fR_Flag
open fR_Flag in
theorem fR_Flag.calls (g : Nat) (s0_0 : List Int) (s0_1 : Int) (s0_2 : Int) (s0_3 : Int) (r1 : Bool) (r2 : Int) (r3 : Int) (r4 : Int) (w0 w : World) (hI : IsS108 w0 w g s0_0 s0_1 s0_2 s0_3) (hB : Below w0.heap.size w0 w) (h : fR_Flag.f s0_0 s0_1 s0_2 s0_3 = some (r1, r2, r3, r4)) :
 Calls Tryd.prog 67 #[.pointer (some ⟨g, 0, none⟩)] w fun e w' => e = .returned (.bool r1) ∧ IsS108 w0 w' g s0_0 r2 r3 r4 ∧ Below w0.heap.size w0 w' ∧ KeepBut w w' g none := by
 have HI0 := ak_ hI
 have HK := ak_ (KeepBut.refl w g none)
 have HL := ak_ hB.size
 clear hI
 have HW0 := ak_ hB.size
 have HB := ak_ hB
 clear hB
 have H : ((fR_ok.f s0_0 s0_1 s0_2 s0_3).bind fun bt603 => (if bt603.1 = true then ((fR_left.f s0_0 bt603.2.1 bt603.2.2.1 bt603.2.2.2).bind fun bt607 => (if bt607.1 = 0 then ((fR_fail.f s0_0 bt607.2.1 bt607.2.2.1 bt607.2.2.2 bt607.2.1 2).bind fun bt611 => (some (false, bt611.1, bt611.2.1, bt611.2.2))) else (if 0 ≤ bt607.2.1 then (if bt607.2.1 < (s0_0.length : Int) then (if (rd s0_0 bt607.2.1) > 1 then ((fR_fail.f s0_0 bt607.2.1 bt607.2.2.1 bt607.2.2.2 bt607.2.1 3).bind fun bt615 => (some (false, bt615.1, bt615.2.1, bt615.2.2))) else (if 0 ≤ (wrap64 ((wrap64 (bt607.2.1 + 1)) - 1)) then (if (wrap64 ((wrap64 (bt607.2.1 + 1)) - 1)) < (s0_0.length : Int) then (some (((rd s0_0 (wrap64 ((wrap64 (bt607.2.1 + 1)) - 1))) == 1), wrap64 (bt607.2.1 + 1), bt607.2.2.1, bt607.2.2.2)) else (none)) else (none))) else (none)) else (none)))) else (some (false, bt603.2.1, bt603.2.2.1, bt603.2.2.2)))) = some (r1, r2, r3, r4) := h
 clear h
 replace H := ob_ H
 obtain ⟨⟨t603, t604, t605, t606⟩, A20, H⟩ := H
 replace H : (if t603 = true then ((fR_left.f s0_0 t604 t605 t606).bind fun bt607 => (if bt607.1 = 0 then ((fR_fail.f s0_0 bt607.2.1 bt607.2.2.1 bt607.2.2.2 bt607.2.1 2).bind fun bt611 => (some (false, bt611.1, bt611.2.1, bt611.2.2))) else (if 0 ≤ bt607.2.1 then (if bt607.2.1 < (s0_0.length : Int) then (if (rd s0_0 bt607.2.1) > 1 then ((fR_fail.f s0_0 bt607.2.1 bt607.2.2.1 bt607.2.2.2 bt607.2.1 3).bind fun bt615 => (some (false, bt615.1, bt615.2.1, bt615.2.2))) else (if 0 ≤ (wrap64 ((wrap64 (bt607.2.1 + 1)) - 1)) then (if (wrap64 ((wrap64 (bt607.2.1 + 1)) - 1)) < (s0_0.length : Int) then (some (((rd s0_0 (wrap64 ((wrap64 (bt607.2.1 + 1)) - 1))) == 1), wrap64 (bt607.2.1 + 1), bt607.2.2.1, bt607.2.2.2)) else (none)) else (none))) else (none)) else (none)))) else (some (false, t604, t605, t606))) = some (r1, r2, r3, r4) := H
 have A2 := ak_ A20
 clear A20
 by_cases c3 : t603 = true
 · subst c3
   have H1 : ((fR_left.f s0_0 t604 t605 t606).bind fun bt607 => (if bt607.1 = 0 then ((fR_fail.f s0_0 bt607.2.1 bt607.2.2.1 bt607.2.2.2 bt607.2.1 2).bind fun bt611 => (some (false, bt611.1, bt611.2.1, bt611.2.2))) else (if 0 ≤ bt607.2.1 then (if bt607.2.1 < (s0_0.length : Int) then (if (rd s0_0 bt607.2.1) > 1 then ((fR_fail.f s0_0 bt607.2.1 bt607.2.2.1 bt607.2.2.2 bt607.2.1 3).bind fun bt615 => (some (false, bt615.1, bt615.2.1, bt615.2.2))) else (if 0 ≤ (wrap64 ((wrap64 (bt607.2.1 + 1)) - 1)) then (if (wrap64 ((wrap64 (bt607.2.1 + 1)) - 1)) < (s0_0.length : Int) then (some (((rd s0_0 (wrap64 ((wrap64 (bt607.2.1 + 1)) - 1))) == 1), wrap64 (bt607.2.1 + 1), bt607.2.2.1, bt607.2.2.2)) else (none)) else (none))) else (none)) else (none)))) = some (r1, r2, r3, r4) := by rw [if_pos rfl] at H; exact H
   clear H
   have H := H1
   clear H1
   replace H := ob_ H
   obtain ⟨⟨t607, t608, t609, t610⟩, A40, H⟩ := H
   replace H : (if t607 = 0 then ((fR_fail.f s0_0 t608 t609 t610 t608 2).bind fun bt611 => (some (false, bt611.1, bt611.2.1, bt611.2.2))) else (if 0 ≤ t608 then (if t608 < (s0_0.length : Int) then (if (rd s0_0 t608) > 1 then ((fR_fail.f s0_0 t608 t609 t610 t608 3).bind fun bt615 => (some (false, bt615.1, bt615.2.1, bt615.2.2))) else (if 0 ≤ (wrap64 ((wrap64 (t608 + 1)) - 1)) then (if (wrap64 ((wrap64 (t608 + 1)) - 1)) < (s0_0.length : Int) then (some (((rd s0_0 (wrap64 ((wrap64 (t608 + 1)) - 1))) == 1), wrap64 (t608 + 1), t609, t610)) else (none)) else (none))) else (none)) else (none))) = some (r1, r2, r3, r4) := H
   have A4 := ak_ A40
   clear A40
   by_cases c5 : t607 = 0
   · rw [if_pos c5] at H
     have c5b0 : (t607 == 0) = true := beq_iff_eq.mpr c5
     have c5b1 : (t607 != 0) = false := bne_eq_false_iff_eq.mpr c5
     clear c5
     replace H := ob_ H
     obtain ⟨⟨t611, t612, t613⟩, A60, H⟩ := H
     replace H : (some (false, t611, t612, t613)) = some (r1, r2, r3, r4) := H
     have A6 := ak_ A60
     clear A60
     simp only [Option.some.injEq, Prod.mk.injEq] at H
     obtain ⟨rfl, rfl, rfl, rfl⟩ := H
     go_enter Tryd.func67, Tryd.ntmps67
     go_wp2_with (first | (go_at_call 56; (with_reducible refine (fR_ok.calls g s0_0 s0_1 s0_2 s0_3 true t604 t605 t606 w0 _ ?side1 ?side2 A2.out).mono ?_); (case side1 => repeat (first | (with_reducible first | exact HI0.out | apply i108a_ | apply i108n_ | apply i108d_ | apply IsS108.set_1 | apply IsS108.set_2 | apply IsS108.set_3) | exact HI0.out)); (case side2 => repeat (first | (with_reducible first | exact HB.out | apply pa | apply pd | apply pe | refine zs ?_ (IsS108.ge HI0.out)) | exact HB.out)); rintro e w7 ⟨rfl, hi, hb, hk⟩; have n0_ := ak_ (KeepBut.trans (by with_reducible repeat first | exact HK.out | apply KeepBut.set_ | apply keep_drewN | apply keep_drew | apply keep_alloc) hk (.inl rfl)); have n1_ := ak_ (hb); have n2_ := ak_ (hi); clear HK HB HI0; have HK := n0_; have HB := n1_; have HI0 := n2_; clear n0_ n1_ n2_) | (go_at_call 57; (with_reducible refine (fR_left.calls g s0_0 t604 t605 t606 t607 t608 t609 t610 w0 _ ?side1 ?side2 A4.out).mono ?_); (case side1 => repeat (first | (with_reducible first | exact HI0.out | apply i108a_ | apply i108n_ | apply i108d_ | apply IsS108.set_1 | apply IsS108.set_2 | apply IsS108.set_3) | exact HI0.out)); (case side2 => repeat (first | (with_reducible first | exact HB.out | apply pa | apply pd | apply pe | refine zs ?_ (IsS108.ge HI0.out)) | exact HB.out)); rintro e w8 ⟨rfl, hi, hb, hk⟩; have n0_ := ak_ (KeepBut.trans (by with_reducible repeat first | exact HK.out | apply KeepBut.set_ | apply keep_drewN | apply keep_drew | apply keep_alloc) hk (.inl rfl)); have n1_ := ak_ (hb); have n2_ := ak_ (hi); clear HK HB HI0; have HK := n0_; have HB := n1_; have HI0 := n2_; clear n0_ n1_ n2_; obtain ⟨ASz9_0, cSz9_0, HGz9, hgz9, ⟨HSz9_0, _⟩⟩ := HI0.out; have hcz9_0 := cellS108_0 HGz9; have hcz9_1 := cellS108_1 HGz9; have hcz9_2 := cellS108_2 HGz9; have hcz9_3 := cellS108_3 HGz9; have hfz9_1 := zf HGz9 1; have hfz9_2 := zf HGz9 2; have hfz9_3 := zf HGz9 3; clear HGz9 hgz9) | (go_at_call 58; (with_reducible refine (fR_fail.calls g s0_0 t608 t609 t610 t608 2 t611 t612 t613 w0 _ ?side1 ?side2 A6.out).mono ?_); (case side1 => repeat (first | (with_reducible first | exact HI0.out | apply i108a_ | apply i108n_ | apply i108d_ | apply IsS108.set_1 | apply IsS108.set_2 | apply IsS108.set_3) | exact HI0.out)); (case side2 => repeat (first | (with_reducible first | exact HB.out | apply pa | apply pd | apply pe | refine zs ?_ (IsS108.ge HI0.out)) | exact HB.out)); rintro e w10 ⟨rfl, hi, hb, hk⟩; have n0_ := ak_ (KeepBut.trans (by with_reducible repeat first | exact HK.out | apply KeepBut.set_ | apply keep_drewN | apply keep_drew | apply keep_alloc) hk (.inl rfl)); have n1_ := ak_ (hb); have n2_ := ak_ (hi); clear HK HB HI0; have HK := n0_; have HB := n1_; have HI0 := n2_; clear n0_ n1_ n2_))
     repeat (go_quiet (first | (go_at_call 56; (with_reducible refine (fR_ok.calls g s0_0 s0_1 s0_2 s0_3 true t604 t605 t606 w0 _ ?side1 ?side2 A2.out).mono ?_); (case side1 => repeat (first | (with_reducible first | exact HI0.out | apply i108a_ | apply i108n_ | apply i108d_ | apply IsS108.set_1 | apply IsS108.set_2 | apply IsS108.set_3) | exact HI0.out)); (case side2 => repeat (first | (with_reducible first | exact HB.out | apply pa | apply pd | apply pe | refine zs ?_ (IsS108.ge HI0.out)) | exact HB.out)); rintro e w7 ⟨rfl, hi, hb, hk⟩; have n0_ := ak_ (KeepBut.trans (by with_reducible repeat first | exact HK.out | apply KeepBut.set_ | apply keep_drewN | apply keep_drew | apply keep_alloc) hk (.inl rfl)); have n1_ := ak_ (hb); have n2_ := ak_ (hi); clear HK HB HI0; have HK := n0_; have HB := n1_; have HI0 := n2_; clear n0_ n1_ n2_) | (go_at_call 57; (with_reducible refine (fR_left.calls g s0_0 t604 t605 t606 t607 t608 t609 t610 w0 _ ?side1 ?side2 A4.out).mono ?_); (case side1 => repeat (first | (with_reducible first | exact HI0.out | apply i108a_ | apply i108n_ | apply i108d_ | apply IsS108.set_1 | apply IsS108.set_2 | apply IsS108.set_3) | exact HI0.out)); (case side2 => repeat (first | (with_reducible first | exact HB.out | apply pa | apply pd | apply pe | refine zs ?_ (IsS108.ge HI0.out)) | exact HB.out)); rintro e w8 ⟨rfl, hi, hb, hk⟩; have n0_ := ak_ (KeepBut.trans (by with_reducible repeat first | exact HK.out | apply KeepBut.set_ | apply keep_drewN | apply keep_drew | apply keep_alloc) hk (.inl rfl)); have n1_ := ak_ (hb); have n2_ := ak_ (hi); clear HK HB HI0; have HK := n0_; have HB := n1_; have HI0 := n2_; clear n0_ n1_ n2_; obtain ⟨ASz9_0, cSz9_0, HGz9, hgz9, ⟨HSz9_0, _⟩⟩ := HI0.out; have hcz9_0 := cellS108_0 HGz9; have hcz9_1 := cellS108_1 HGz9; have hcz9_2 := cellS108_2 HGz9; have hcz9_3 := cellS108_3 HGz9; have hfz9_1 := zf HGz9 1; have hfz9_2 := zf HGz9 2; have hfz9_3 := zf HGz9 3; clear HGz9 hgz9) | (go_at_call 58; (with_reducible refine (fR_fail.calls g s0_0 t608 t609 t610 t608 2 t611 t612 t613 w0 _ ?side1 ?side2 A6.out).mono ?_); (case side1 => repeat (first | (with_reducible first | exact HI0.out | apply i108a_ | apply i108n_ | apply i108d_ | apply IsS108.set_1 | apply IsS108.set_2 | apply IsS108.set_3) | exact HI0.out)); (case side2 => repeat (first | (with_reducible first | exact HB.out | apply pa | apply pd | apply pe | refine zs ?_ (IsS108.ge HI0.out)) | exact HB.out)); rintro e w10 ⟨rfl, hi, hb, hk⟩; have n0_ := ak_ (KeepBut.trans (by with_reducible repeat first | exact HK.out | apply KeepBut.set_ | apply keep_drewN | apply keep_drew | apply keep_alloc) hk (.inl rfl)); have n1_ := ak_ (hb); have n2_ := ak_ (hi); clear HK HB HI0; have HK := n0_; have HB := n1_; have HI0 := n2_; clear n0_ n1_ n2_)); try go_wp2_with (first | (go_at_call 56; (with_reducible refine (fR_ok.calls g s0_0 s0_1 s0_2 s0_3 true t604 t605 t606 w0 _ ?side1 ?side2 A2.out).mono ?_); (case side1 => repeat (first | (with_reducible first | exact HI0.out | apply i108a_ | apply i108n_ | apply i108d_ | apply IsS108.set_1 | apply IsS108.set_2 | apply IsS108.set_3) | exact HI0.out)); (case side2 => repeat (first | (with_reducible first | exact HB.out | apply pa | apply pd | apply pe | refine zs ?_ (IsS108.ge HI0.out)) | exact HB.out)); rintro e w7 ⟨rfl, hi, hb, hk⟩; have n0_ := ak_ (KeepBut.trans (by with_reducible repeat first | exact HK.out | apply KeepBut.set_ | apply keep_drewN | apply keep_drew | apply keep_alloc) hk (.inl rfl)); have n1_ := ak_ (hb); have n2_ := ak_ (hi); clear HK HB HI0; have HK := n0_; have HB := n1_; have HI0 := n2_; clear n0_ n1_ n2_) | (go_at_call 57; (with_reducible refine (fR_left.calls g s0_0 t604 t605 t606 t607 t608 t609 t610 w0 _ ?side1 ?side2 A4.out).mono ?_); (case side1 => repeat (first | (with_reducible first | exact HI0.out | apply i108a_ | apply i108n_ | apply i108d_ | apply IsS108.set_1 | apply IsS108.set_2 | apply IsS108.set_3) | exact HI0.out)); (case side2 => repeat (first | (with_reducible first | exact HB.out | apply pa | apply pd | apply pe | refine zs ?_ (IsS108.ge HI0.out)) | exact HB.out)); rintro e w8 ⟨rfl, hi, hb, hk⟩; have n0_ := ak_ (KeepBut.trans (by with_reducible repeat first | exact HK.out | apply KeepBut.set_ | apply keep_drewN | apply keep_drew | apply keep_alloc) hk (.inl rfl)); have n1_ := ak_ (hb); have n2_ := ak_ (hi); clear HK HB HI0; have HK := n0_; have HB := n1_; have HI0 := n2_; clear n0_ n1_ n2_; obtain ⟨ASz9_0, cSz9_0, HGz9, hgz9, ⟨HSz9_0, _⟩⟩ := HI0.out; have hcz9_0 := cellS108_0 HGz9; have hcz9_1 := cellS108_1 HGz9; have hcz9_2 := cellS108_2 HGz9; have hcz9_3 := cellS108_3 HGz9; have hfz9_1 := zf HGz9 1; have hfz9_2 := zf HGz9 2; have hfz9_3 := zf HGz9 3; clear HGz9 hgz9) | (go_at_call 58; (with_reducible refine (fR_fail.calls g s0_0 t608 t609 t610 t608 2 t611 t612 t613 w0 _ ?side1 ?side2 A6.out).mono ?_); (case side1 => repeat (first | (with_reducible first | exact HI0.out | apply i108a_ | apply i108n_ | apply i108d_ | apply IsS108.set_1 | apply IsS108.set_2 | apply IsS108.set_3) | exact HI0.out)); (case side2 => repeat (first | (with_reducible first | exact HB.out | apply pa | apply pd | apply pe | refine zs ?_ (IsS108.ge HI0.out)) | exact HB.out)); rintro e w10 ⟨rfl, hi, hb, hk⟩; have n0_ := ak_ (KeepBut.trans (by with_reducible repeat first | exact HK.out | apply KeepBut.set_ | apply keep_drewN | apply keep_drew | apply keep_alloc) hk (.inl rfl)); have n1_ := ak_ (hb); have n2_ := ak_ (hi); clear HK HB HI0; have HK := n0_; have HB := n1_; have HI0 := n2_; clear n0_ n1_ n2_)))
     go_ret
     exact ⟨by first | rfl | simp [*], by repeat (first | (with_reducible first | exact HI0.out | apply i108a_ | apply i108n_ | apply i108d_ | apply IsS108.set_1 | apply IsS108.set_2 | apply IsS108.set_3) | exact HI0.out), by repeat (first | (with_reducible first | exact HB.out | apply pa | apply pd | apply pe | refine zs ?_ (IsS108.ge HI0.out)) | exact HB.out), by repeat (first | (with_reducible first | exact HK.out | apply KeepBut.set_ | apply keep_drewN | apply keep_drew | apply keep_alloc) | exact HK.out)⟩
   rw [if_neg c5] at H
   have c5b0 : (t607 == 0) = false := beq_eq_false_iff_ne.mpr c5
   have c5b1 : (t607 != 0) = true := bne_iff_ne.mpr c5
   by_cases c11 : 0 ≤ t608
   · rw [if_pos c11] at H
     have c11b0 : decide (0 ≤ t608) = true := dt_ c11
     clear c11
     by_cases c12 : t608 < (s0_0.length : Int)
     · rw [if_pos c12] at H
       have c12b0 : decide (t608 < (s0_0.length : Int)) = true := dt_ c12
       clear c12
       by_cases c13 : (rd s0_0 t608) > 1
       · rw [if_pos c13] at H
         have c13b0 : decide (1 < (rd s0_0 t608)) = true := dt_ c13
         clear c13
         replace H := ob_ H
         obtain ⟨⟨t615, t616, t617⟩, A140, H⟩ := H
         replace H : (some (false, t615, t616, t617)) = some (r1, r2, r3, r4) := H
         have A14 := ak_ A140
         clear A140
         simp only [Option.some.injEq, Prod.mk.injEq] at H
         obtain ⟨rfl, rfl, rfl, rfl⟩ := H
         go_enter Tryd.func67, Tryd.ntmps67
         go_wp2_with (first | (go_at_call 56; (with_reducible refine (fR_ok.calls g s0_0 s0_1 s0_2 s0_3 true t604 t605 t606 w0 _ ?side1 ?side2 A2.out).mono ?_); (case side1 => repeat (first | (with_reducible first | exact HI0.out | apply i108a_ | apply i108n_ | apply i108d_ | apply IsS108.set_1 | apply IsS108.set_2 | apply IsS108.set_3) | exact HI0.out)); (case side2 => repeat (first | (with_reducible first | exact HB.out | apply pa | apply pd | apply pe | refine zs ?_ (IsS108.ge HI0.out)) | exact HB.out)); rintro e w15 ⟨rfl, hi, hb, hk⟩; have n0_ := ak_ (KeepBut.trans (by with_reducible repeat first | exact HK.out | apply KeepBut.set_ | apply keep_drewN | apply keep_drew | apply keep_alloc) hk (.inl rfl)); have n1_ := ak_ (hb); have n2_ := ak_ (hi); clear HK HB HI0; have HK := n0_; have HB := n1_; have HI0 := n2_; clear n0_ n1_ n2_) | (go_at_call 57; (with_reducible refine (fR_left.calls g s0_0 t604 t605 t606 t607 t608 t609 t610 w0 _ ?side1 ?side2 A4.out).mono ?_); (case side1 => repeat (first | (with_reducible first | exact HI0.out | apply i108a_ | apply i108n_ | apply i108d_ | apply IsS108.set_1 | apply IsS108.set_2 | apply IsS108.set_3) | exact HI0.out)); (case side2 => repeat (first | (with_reducible first | exact HB.out | apply pa | apply pd | apply pe | refine zs ?_ (IsS108.ge HI0.out)) | exact HB.out)); rintro e w16 ⟨rfl, hi, hb, hk⟩; have n0_ := ak_ (KeepBut.trans (by with_reducible repeat first | exact HK.out | apply KeepBut.set_ | apply keep_drewN | apply keep_drew | apply keep_alloc) hk (.inl rfl)); have n1_ := ak_ (hb); have n2_ := ak_ (hi); clear HK HB HI0; have HK := n0_; have HB := n1_; have HI0 := n2_; clear n0_ n1_ n2_; obtain ⟨ASz17_0, cSz17_0, HGz17, hgz17, ⟨HSz17_0, _⟩⟩ := HI0.out; have hcz17_0 := cellS108_0 HGz17; have hcz17_1 := cellS108_1 HGz17; have hcz17_2 := cellS108_2 HGz17; have hcz17_3 := cellS108_3 HGz17; have hfz17_1 := zf HGz17 1; have hfz17_2 := zf HGz17 2; have hfz17_3 := zf HGz17 3; clear HGz17 hgz17; have p614 : 0 ≤ (t608 : Int) := of_decide_eq_true (by assumption); have q614 : t608 < (s0_0.length : Int) := of_decide_eq_true (by assumption); obtain ⟨ad614, e614, hx614_0⟩ := Kd.at_int HSz17_0 t608 p614 q614; cases e614; replace hx614_0 := pw_cell_below HB.out hx614_0; replace p614 := eq_true p614; replace q614 := eq_true q614) | (go_at_call 58; (with_reducible refine (fR_fail.calls g s0_0 t608 t609 t610 t608 3 t615 t616 t617 w0 _ ?side1 ?side2 A14.out).mono ?_); (case side1 => repeat (first | (with_reducible first | exact HI0.out | apply i108a_ | apply i108n_ | apply i108d_ | apply IsS108.set_1 | apply IsS108.set_2 | apply IsS108.set_3) | exact HI0.out)); (case side2 => repeat (first | (with_reducible first | exact HB.out | apply pa | apply pd | apply pe | refine zs ?_ (IsS108.ge HI0.out)) | exact HB.out)); rintro e w18 ⟨rfl, hi, hb, hk⟩; have n0_ := ak_ (KeepBut.trans (by with_reducible repeat first | exact HK.out | apply KeepBut.set_ | apply keep_drewN | apply keep_drew | apply keep_alloc) hk (.inl rfl)); have n1_ := ak_ (hb); have n2_ := ak_ (hi); clear HK HB HI0; have HK := n0_; have HB := n1_; have HI0 := n2_; clear n0_ n1_ n2_))
         repeat (go_quiet (first | (go_at_call 56; (with_reducible refine (fR_ok.calls g s0_0 s0_1 s0_2 s0_3 true t604 t605 t606 w0 _ ?side1 ?side2 A2.out).mono ?_); (case side1 => repeat (first | (with_reducible first | exact HI0.out | apply i108a_ | apply i108n_ | apply i108d_ | apply IsS108.set_1 | apply IsS108.set_2 | apply IsS108.set_3) | exact HI0.out)); (case side2 => repeat (first | (with_reducible first | exact HB.out | apply pa | apply pd | apply pe | refine zs ?_ (IsS108.ge HI0.out)) | exact HB.out)); rintro e w15 ⟨rfl, hi, hb, hk⟩; have n0_ := ak_ (KeepBut.trans (by with_reducible repeat first | exact HK.out | apply KeepBut.set_ | apply keep_drewN | apply keep_drew | apply keep_alloc) hk (.inl rfl)); have n1_ := ak_ (hb); have n2_ := ak_ (hi); clear HK HB HI0; have HK := n0_; have HB := n1_; have HI0 := n2_; clear n0_ n1_ n2_) | (go_at_call 57; (with_reducible refine (fR_left.calls g s0_0 t604 t605 t606 t607 t608 t609 t610 w0 _ ?side1 ?side2 A4.out).mono ?_); (case side1 => repeat (first | (with_reducible first | exact HI0.out | apply i108a_ | apply i108n_ | apply i108d_ | apply IsS108.set_1 | apply IsS108.set_2 | apply IsS108.set_3) | exact HI0.out)); (case side2 => repeat (first | (with_reducible first | exact HB.out | apply pa | apply pd | apply pe | refine zs ?_ (IsS108.ge HI0.out)) | exact HB.out)); rintro e w16 ⟨rfl, hi, hb, hk⟩; have n0_ := ak_ (KeepBut.trans (by with_reducible repeat first | exact HK.out | apply KeepBut.set_ | apply keep_drewN | apply keep_drew | apply keep_alloc) hk (.inl rfl)); have n1_ := ak_ (hb); have n2_ := ak_ (hi); clear HK HB HI0; have HK := n0_; have HB := n1_; have HI0 := n2_; clear n0_ n1_ n2_; obtain ⟨ASz17_0, cSz17_0, HGz17, hgz17, ⟨HSz17_0, _⟩⟩ := HI0.out; have hcz17_0 := cellS108_0 HGz17; have hcz17_1 := cellS108_1 HGz17; have hcz17_2 := cellS108_2 HGz17; have hcz17_3 := cellS108_3 HGz17; have hfz17_1 := zf HGz17 1; have hfz17_2 := zf HGz17 2; have hfz17_3 := zf HGz17 3; clear HGz17 hgz17; have p614 : 0 ≤ (t608 : Int) := of_decide_eq_true (by assumption); have q614 : t608 < (s0_0.length : Int) := of_decide_eq_true (by assumption); obtain ⟨ad614, e614, hx614_0⟩ := Kd.at_int HSz17_0 t608 p614 q614; cases e614; replace hx614_0 := pw_cell_below HB.out hx614_0; replace p614 := eq_true p614; replace q614 := eq_true q614) | (go_at_call 58; (with_reducible refine (fR_fail.calls g s0_0 t608 t609 t610 t608 3 t615 t616 t617 w0 _ ?side1 ?side2 A14.out).mono ?_); (case side1 => repeat (first | (with_reducible first | exact HI0.out | apply i108a_ | apply i108n_ | apply i108d_ | apply IsS108.set_1 | apply IsS108.set_2 | apply IsS108.set_3) | exact HI0.out)); (case side2 => repeat (first | (with_reducible first | exact HB.out | apply pa | apply pd | apply pe | refine zs ?_ (IsS108.ge HI0.out)) | exact HB.out)); rintro e w18 ⟨rfl, hi, hb, hk⟩; have n0_ := ak_ (KeepBut.trans (by with_reducible repeat first | exact HK.out | apply KeepBut.set_ | apply keep_drewN | apply keep_drew | apply keep_alloc) hk (.inl rfl)); have n1_ := ak_ (hb); have n2_ := ak_ (hi); clear HK HB HI0; have HK := n0_; have HB := n1_; have HI0 := n2_; clear n0_ n1_ n2_)); try go_wp2_with (first | (go_at_call 56; (with_reducible refine (fR_ok.calls g s0_0 s0_1 s0_2 s0_3 true t604 t605 t606 w0 _ ?side1 ?side2 A2.out).mono ?_); (case side1 => repeat (first | (with_reducible first | exact HI0.out | apply i108a_ | apply i108n_ | apply i108d_ | apply IsS108.set_1 | apply IsS108.set_2 | apply IsS108.set_3) | exact HI0.out)); (case side2 => repeat (first | (with_reducible first | exact HB.out | apply pa | apply pd | apply pe | refine zs ?_ (IsS108.ge HI0.out)) | exact HB.out)); rintro e w15 ⟨rfl, hi, hb, hk⟩; have n0_ := ak_ (KeepBut.trans (by with_reducible repeat first | exact HK.out | apply KeepBut.set_ | apply keep_drewN | apply keep_drew | apply keep_alloc) hk (.inl rfl)); have n1_ := ak_ (hb); have n2_ := ak_ (hi); clear HK HB HI0; have HK := n0_; have HB := n1_; have HI0 := n2_; clear n0_ n1_ n2_) | (go_at_call 57; (with_reducible refine (fR_left.calls g s0_0 t604 t605 t606 t607 t608 t609 t610 w0 _ ?side1 ?side2 A4.out).mono ?_); (case side1 => repeat (first | (with_reducible first | exact HI0.out | apply i108a_ | apply i108n_ | apply i108d_ | apply IsS108.set_1 | apply IsS108.set_2 | apply IsS108.set_3) | exact HI0.out)); (case side2 => repeat (first | (with_reducible first | exact HB.out | apply pa | apply pd | apply pe | refine zs ?_ (IsS108.ge HI0.out)) | exact HB.out)); rintro e w16 ⟨rfl, hi, hb, hk⟩; have n0_ := ak_ (KeepBut.trans (by with_reducible repeat first | exact HK.out | apply KeepBut.set_ | apply keep_drewN | apply keep_drew | apply keep_alloc) hk (.inl rfl)); have n1_ := ak_ (hb); have n2_ := ak_ (hi); clear HK HB HI0; have HK := n0_; have HB := n1_; have HI0 := n2_; clear n0_ n1_ n2_; obtain ⟨ASz17_0, cSz17_0, HGz17, hgz17, ⟨HSz17_0, _⟩⟩ := HI0.out; have hcz17_0 := cellS108_0 HGz17; have hcz17_1 := cellS108_1 HGz17; have hcz17_2 := cellS108_2 HGz17; have hcz17_3 := cellS108_3 HGz17; have hfz17_1 := zf HGz17 1; have hfz17_2 := zf HGz17 2; have hfz17_3 := zf HGz17 3; clear HGz17 hgz17; have p614 : 0 ≤ (t608 : Int) := of_decide_eq_true (by assumption); have q614 : t608 < (s0_0.length : Int) := of_decide_eq_true (by assumption); obtain ⟨ad614, e614, hx614_0⟩ := Kd.at_int HSz17_0 t608 p614 q614; cases e614; replace hx614_0 := pw_cell_below HB.out hx614_0; replace p614 := eq_true p614; replace q614 := eq_true q614) | (go_at_call 58; (with_reducible refine (fR_fail.calls g s0_0 t608 t609 t610 t608 3 t615 t616 t617 w0 _ ?side1 ?side2 A14.out).mono ?_); (case side1 => repeat (first | (with_reducible first | exact HI0.out | apply i108a_ | apply i108n_ | apply i108d_ | apply IsS108.set_1 | apply IsS108.set_2 | apply IsS108.set_3) | exact HI0.out)); (case side2 => repeat (first | (with_reducible first | exact HB.out | apply pa | apply pd | apply pe | refine zs ?_ (IsS108.ge HI0.out)) | exact HB.out)); rintro e w18 ⟨rfl, hi, hb, hk⟩; have n0_ := ak_ (KeepBut.trans (by with_reducible repeat first | exact HK.out | apply KeepBut.set_ | apply keep_drewN | apply keep_drew | apply keep_alloc) hk (.inl rfl)); have n1_ := ak_ (hb); have n2_ := ak_ (hi); clear HK HB HI0; have HK := n0_; have HB := n1_; have HI0 := n2_; clear n0_ n1_ n2_)))
         go_ret
         exact ⟨by first | rfl | simp [*], by repeat (first | (with_reducible first | exact HI0.out | apply i108a_ | apply i108n_ | apply i108d_ | apply IsS108.set_1 | apply IsS108.set_2 | apply IsS108.set_3) | exact HI0.out), by repeat (first | (with_reducible first | exact HB.out | apply pa | apply pd | apply pe | refine zs ?_ (IsS108.ge HI0.out)) | exact HB.out), by repeat (first | (with_reducible first | exact HK.out | apply KeepBut.set_ | apply keep_drewN | apply keep_drew | apply keep_alloc) | exact HK.out)⟩
       rw [if_neg c13] at H
       have c13b0 : decide (1 < (rd s0_0 t608)) = false := df_ c13
       clear c13
       obtain ⟨ji19, hji19⟩ : ∃ j_ : Int, (wrap64 ((wrap64 (t608 + 1)) - 1)) = j_ := ⟨_, rfl⟩
       replace H : (if 0 ≤ (ji19) then (if (ji19) < (s0_0.length : Int) then (some (((rd s0_0 (ji19)) == 1), wrap64 (t608 + 1), t609, t610)) else (none)) else (none)) = some (r1, r2, r3, r4) := by first | (rw [hji19] at H; exact H) | (simp only [hji19] at H ⊢; exact H)
       (try rw [hji19] at A2)
       (try rw [hji19] at A4)
       have hji19w : (IntKind.i64.wrap ((wrap64 (t608 + 1)) - 1)) = ji19 := (i64_w _).trans hji19
       by_cases c20 : 0 ≤ (ji19)
       · rw [if_pos c20] at H
         have c20b0 : decide (0 ≤ (ji19)) = true := dt_ c20
         clear c20
         by_cases c21 : (ji19) < (s0_0.length : Int)
         · rw [if_pos c21] at H
           have c21b0 : decide ((ji19) < (s0_0.length : Int)) = true := dt_ c21
           clear c21
           simp only [Option.some.injEq, Prod.mk.injEq] at H
           obtain ⟨rfl, rfl, rfl, rfl⟩ := H
           go_enter Tryd.func67, Tryd.ntmps67
           go_wp2_with (first | (go_at_call 56; (with_reducible refine (fR_ok.calls g s0_0 s0_1 s0_2 s0_3 true t604 t605 t606 w0 _ ?side1 ?side2 A2.out).mono ?_); (case side1 => repeat (first | (with_reducible first | exact HI0.out | apply i108a_ | apply i108n_ | apply i108d_ | apply IsS108.set_1 | apply IsS108.set_2 | apply IsS108.set_3) | exact HI0.out)); (case side2 => repeat (first | (with_reducible first | exact HB.out | apply pa | apply pd | apply pe | refine zs ?_ (IsS108.ge HI0.out)) | exact HB.out)); rintro e w22 ⟨rfl, hi, hb, hk⟩; have n0_ := ak_ (KeepBut.trans (by with_reducible repeat first | exact HK.out | apply KeepBut.set_ | apply keep_drewN | apply keep_drew | apply keep_alloc) hk (.inl rfl)); have n1_ := ak_ (hb); have n2_ := ak_ (hi); clear HK HB HI0; have HK := n0_; have HB := n1_; have HI0 := n2_; clear n0_ n1_ n2_) | (go_at_call 57; (with_reducible refine (fR_left.calls g s0_0 t604 t605 t606 t607 t608 t609 t610 w0 _ ?side1 ?side2 A4.out).mono ?_); (case side1 => repeat (first | (with_reducible first | exact HI0.out | apply i108a_ | apply i108n_ | apply i108d_ | apply IsS108.set_1 | apply IsS108.set_2 | apply IsS108.set_3) | exact HI0.out)); (case side2 => repeat (first | (with_reducible first | exact HB.out | apply pa | apply pd | apply pe | refine zs ?_ (IsS108.ge HI0.out)) | exact HB.out)); rintro e w23 ⟨rfl, hi, hb, hk⟩; have n0_ := ak_ (KeepBut.trans (by with_reducible repeat first | exact HK.out | apply KeepBut.set_ | apply keep_drewN | apply keep_drew | apply keep_alloc) hk (.inl rfl)); have n1_ := ak_ (hb); have n2_ := ak_ (hi); clear HK HB HI0; have HK := n0_; have HB := n1_; have HI0 := n2_; clear n0_ n1_ n2_; obtain ⟨ASz24_0, cSz24_0, HGz24, hgz24, ⟨HSz24_0, _⟩⟩ := HI0.out; have hcz24_0 := cellS108_0 HGz24; have hcz24_1 := cellS108_1 HGz24; have hcz24_2 := cellS108_2 HGz24; have hcz24_3 := cellS108_3 HGz24; have hfz24_1 := zf HGz24 1; have hfz24_2 := zf HGz24 2; have hfz24_3 := zf HGz24 3; clear HGz24 hgz24; have p614 : 0 ≤ (t608 : Int) := of_decide_eq_true (by assumption); have q614 : t608 < (s0_0.length : Int) := of_decide_eq_true (by assumption); obtain ⟨ad614, e614, hx614_0⟩ := Kd.at_int HSz24_0 t608 p614 q614; cases e614; replace hx614_0 := pw_cell_below HB.out hx614_0; replace p614 := eq_true p614; replace q614 := eq_true q614; have p618 : 0 ≤ ((ji19) : Int) := of_decide_eq_true (by assumption); have q618 : (ji19) < (s0_0.length : Int) := of_decide_eq_true (by assumption); obtain ⟨ad618, e618, hx618_0⟩ := Kd.at_int HSz24_0 (ji19) p618 q618; obtain rfl : ad614 = ad618 := (by injection e618); have hn618_0 : ad614.block ≠ g := Nat.ne_of_lt (Nat.lt_of_lt_of_le (by have := bl_ _ _ hx618_0; first | rwa [add_block] at this | exact this) (IsS108.ge HI0.out)); replace hx618_0 := pw_cell_below HB.out hx618_0; replace hx618_0 := (cell_far (p := ⟨g, 1, none⟩) (by first | (rw [add_block]; exact hn618_0) | (show (Addr.add _ _).block ≠ _; rw [add_block]; exact hn618_0) | exact hn618_0) (.int .i64 (wrap64 (t608 + 1)))).trans hx618_0; (try have hy618_0 := fun (n_ : Nat) => (show (((w23.drewN n_).setCell ⟨g, 1, none⟩ (.int .i64 (wrap64 (t608 + 1))))).cell? _ = some _ from hx618_0)); clear hn618_0; replace p618 := eq_true p618; replace q618 := eq_true q618))
           repeat (go_quiet (first | (go_at_call 56; (with_reducible refine (fR_ok.calls g s0_0 s0_1 s0_2 s0_3 true t604 t605 t606 w0 _ ?side1 ?side2 A2.out).mono ?_); (case side1 => repeat (first | (with_reducible first | exact HI0.out | apply i108a_ | apply i108n_ | apply i108d_ | apply IsS108.set_1 | apply IsS108.set_2 | apply IsS108.set_3) | exact HI0.out)); (case side2 => repeat (first | (with_reducible first | exact HB.out | apply pa | apply pd | apply pe | refine zs ?_ (IsS108.ge HI0.out)) | exact HB.out)); rintro e w22 ⟨rfl, hi, hb, hk⟩; have n0_ := ak_ (KeepBut.trans (by with_reducible repeat first | exact HK.out | apply KeepBut.set_ | apply keep_drewN | apply keep_drew | apply keep_alloc) hk (.inl rfl)); have n1_ := ak_ (hb); have n2_ := ak_ (hi); clear HK HB HI0; have HK := n0_; have HB := n1_; have HI0 := n2_; clear n0_ n1_ n2_) | (go_at_call 57; (with_reducible refine (fR_left.calls g s0_0 t604 t605 t606 t607 t608 t609 t610 w0 _ ?side1 ?side2 A4.out).mono ?_); (case side1 => repeat (first | (with_reducible first | exact HI0.out | apply i108a_ | apply i108n_ | apply i108d_ | apply IsS108.set_1 | apply IsS108.set_2 | apply IsS108.set_3) | exact HI0.out)); (case side2 => repeat (first | (with_reducible first | exact HB.out | apply pa | apply pd | apply pe | refine zs ?_ (IsS108.ge HI0.out)) | exact HB.out)); rintro e w23 ⟨rfl, hi, hb, hk⟩; have n0_ := ak_ (KeepBut.trans (by with_reducible repeat first | exact HK.out | apply KeepBut.set_ | apply keep_drewN | apply keep_drew | apply keep_alloc) hk (.inl rfl)); have n1_ := ak_ (hb); have n2_ := ak_ (hi); clear HK HB HI0; have HK := n0_; have HB := n1_; have HI0 := n2_; clear n0_ n1_ n2_; obtain ⟨ASz24_0, cSz24_0, HGz24, hgz24, ⟨HSz24_0, _⟩⟩ := HI0.out; have hcz24_0 := cellS108_0 HGz24; have hcz24_1 := cellS108_1 HGz24; have hcz24_2 := cellS108_2 HGz24; have hcz24_3 := cellS108_3 HGz24; have hfz24_1 := zf HGz24 1; have hfz24_2 := zf HGz24 2; have hfz24_3 := zf HGz24 3; clear HGz24 hgz24; have p614 : 0 ≤ (t608 : Int) := of_decide_eq_true (by assumption); have q614 : t608 < (s0_0.length : Int) := of_decide_eq_true (by assumption); obtain ⟨ad614, e614, hx614_0⟩ := Kd.at_int HSz24_0 t608 p614 q614; cases e614; replace hx614_0 := pw_cell_below HB.out hx614_0; replace p614 := eq_true p614; replace q614 := eq_true q614; have p618 : 0 ≤ ((ji19) : Int) := of_decide_eq_true (by assumption); have q618 : (ji19) < (s0_0.length : Int) := of_decide_eq_true (by assumption); obtain ⟨ad618, e618, hx618_0⟩ := Kd.at_int HSz24_0 (ji19) p618 q618; obtain rfl : ad614 = ad618 := (by injection e618); have hn618_0 : ad614.block ≠ g := Nat.ne_of_lt (Nat.lt_of_lt_of_le (by have := bl_ _ _ hx618_0; first | rwa [add_block] at this | exact this) (IsS108.ge HI0.out)); replace hx618_0 := pw_cell_below HB.out hx618_0; replace hx618_0 := (cell_far (p := ⟨g, 1, none⟩) (by first | (rw [add_block]; exact hn618_0) | (show (Addr.add _ _).block ≠ _; rw [add_block]; exact hn618_0) | exact hn618_0) (.int .i64 (wrap64 (t608 + 1)))).trans hx618_0; (try have hy618_0 := fun (n_ : Nat) => (show (((w23.drewN n_).setCell ⟨g, 1, none⟩ (.int .i64 (wrap64 (t608 + 1))))).cell? _ = some _ from hx618_0)); clear hn618_0; replace p618 := eq_true p618; replace q618 := eq_true q618)); try go_wp2_with (first | (go_at_call 56; (with_reducible refine (fR_ok.calls g s0_0 s0_1 s0_2 s0_3 true t604 t605 t606 w0 _ ?side1 ?side2 A2.out).mono ?_); (case side1 => repeat (first | (with_reducible first | exact HI0.out | apply i108a_ | apply i108n_ | apply i108d_ | apply IsS108.set_1 | apply IsS108.set_2 | apply IsS108.set_3) | exact HI0.out)); (case side2 => repeat (first | (with_reducible first | exact HB.out | apply pa | apply pd | apply pe | refine zs ?_ (IsS108.ge HI0.out)) | exact HB.out)); rintro e w22 ⟨rfl, hi, hb, hk⟩; have n0_ := ak_ (KeepBut.trans (by with_reducible repeat first | exact HK.out | apply KeepBut.set_ | apply keep_drewN | apply keep_drew | apply keep_alloc) hk (.inl rfl)); have n1_ := ak_ (hb); have n2_ := ak_ (hi); clear HK HB HI0; have HK := n0_; have HB := n1_; have HI0 := n2_; clear n0_ n1_ n2_) | (go_at_call 57; (with_reducible refine (fR_left.calls g s0_0 t604 t605 t606 t607 t608 t609 t610 w0 _ ?side1 ?side2 A4.out).mono ?_); (case side1 => repeat (first | (with_reducible first | exact HI0.out | apply i108a_ | apply i108n_ | apply i108d_ | apply IsS108.set_1 | apply IsS108.set_2 | apply IsS108.set_3) | exact HI0.out)); (case side2 => repeat (first | (with_reducible first | exact HB.out | apply pa | apply pd | apply pe | refine zs ?_ (IsS108.ge HI0.out)) | exact HB.out)); rintro e w23 ⟨rfl, hi, hb, hk⟩; have n0_ := ak_ (KeepBut.trans (by with_reducible repeat first | exact HK.out | apply KeepBut.set_ | apply keep_drewN | apply keep_drew | apply keep_alloc) hk (.inl rfl)); have n1_ := ak_ (hb); have n2_ := ak_ (hi); clear HK HB HI0; have HK := n0_; have HB := n1_; have HI0 := n2_; clear n0_ n1_ n2_; obtain ⟨ASz24_0, cSz24_0, HGz24, hgz24, ⟨HSz24_0, _⟩⟩ := HI0.out; have hcz24_0 := cellS108_0 HGz24; have hcz24_1 := cellS108_1 HGz24; have hcz24_2 := cellS108_2 HGz24; have hcz24_3 := cellS108_3 HGz24; have hfz24_1 := zf HGz24 1; have hfz24_2 := zf HGz24 2; have hfz24_3 := zf HGz24 3; clear HGz24 hgz24; have p614 : 0 ≤ (t608 : Int) := of_decide_eq_true (by assumption); have q614 : t608 < (s0_0.length : Int) := of_decide_eq_true (by assumption); obtain ⟨ad614, e614, hx614_0⟩ := Kd.at_int HSz24_0 t608 p614 q614; cases e614; replace hx614_0 := pw_cell_below HB.out hx614_0; replace p614 := eq_true p614; replace q614 := eq_true q614; have p618 : 0 ≤ ((ji19) : Int) := of_decide_eq_true (by assumption); have q618 : (ji19) < (s0_0.length : Int) := of_decide_eq_true (by assumption); obtain ⟨ad618, e618, hx618_0⟩ := Kd.at_int HSz24_0 (ji19) p618 q618; obtain rfl : ad614 = ad618 := (by injection e618); have hn618_0 : ad614.block ≠ g := Nat.ne_of_lt (Nat.lt_of_lt_of_le (by have := bl_ _ _ hx618_0; first | rwa [add_block] at this | exact this) (IsS108.ge HI0.out)); replace hx618_0 := pw_cell_below HB.out hx618_0; replace hx618_0 := (cell_far (p := ⟨g, 1, none⟩) (by first | (rw [add_block]; exact hn618_0) | (show (Addr.add _ _).block ≠ _; rw [add_block]; exact hn618_0) | exact hn618_0) (.int .i64 (wrap64 (t608 + 1)))).trans hx618_0; (try have hy618_0 := fun (n_ : Nat) => (show (((w23.drewN n_).setCell ⟨g, 1, none⟩ (.int .i64 (wrap64 (t608 + 1))))).cell? _ = some _ from hx618_0)); clear hn618_0; replace p618 := eq_true p618; replace q618 := eq_true q618)))
           go_ret
           exact ⟨by first | rfl | (simp [errW_none, errW_some] <;> rfl) | (simp only [← hji19]; first | rfl | (simp [errW_none, errW_some] <;> rfl)) | (simp [*, errW_none, errW_some] <;> rfl), by repeat (first | (with_reducible first | exact HI0.out | apply i108a_ | apply i108n_ | apply i108d_ | apply IsS108.set_1 | apply IsS108.set_2 | apply IsS108.set_3) | exact HI0.out), by repeat (first | (with_reducible first | exact HB.out | apply pa | apply pd | apply pe | refine zs ?_ (IsS108.ge HI0.out)) | exact HB.out), by repeat (first | (with_reducible first | exact HK.out | apply KeepBut.set_ | apply keep_drewN | apply keep_drew | apply keep_alloc) | exact HK.out)⟩
         rw [if_neg c21] at H
         exact absurd H (by simp)
       rw [if_neg c20] at H
       exact absurd H (by simp)
     rw [if_neg c12] at H
     exact absurd H (by simp)
   rw [if_neg c11] at H
   exact absurd H (by simp)
 replace c3 := Bool.eq_false_iff.mpr c3
 subst c3
 have H1 : (some (false, t604, t605, t606)) = some (r1, r2, r3, r4) := by rw [if_neg (show ¬ (false = true) by decide)] at H; exact H
 clear H
 have H := H1
 clear H1
 simp only [Option.some.injEq, Prod.mk.injEq] at H
 obtain ⟨rfl, rfl, rfl, rfl⟩ := H
 go_enter Tryd.func67, Tryd.ntmps67
 go_wp2_with (first | (go_at_call 56; (with_reducible refine (fR_ok.calls g s0_0 s0_1 s0_2 s0_3 false t604 t605 t606 w0 _ ?side1 ?side2 A2.out).mono ?_); (case side1 => repeat (first | (with_reducible first | exact HI0.out | apply i108a_ | apply i108n_ | apply i108d_ | apply IsS108.set_1 | apply IsS108.set_2 | apply IsS108.set_3) | exact HI0.out)); (case side2 => repeat (first | (with_reducible first | exact HB.out | apply pa | apply pd | apply pe | refine zs ?_ (IsS108.ge HI0.out)) | exact HB.out)); rintro e w25 ⟨rfl, hi, hb, hk⟩; have n0_ := ak_ (KeepBut.trans (by with_reducible repeat first | exact HK.out | apply KeepBut.set_ | apply keep_drewN | apply keep_drew | apply keep_alloc) hk (.inl rfl)); have n1_ := ak_ (hb); have n2_ := ak_ (hi); clear HK HB HI0; have HK := n0_; have HB := n1_; have HI0 := n2_; clear n0_ n1_ n2_))
 repeat (go_quiet (first | (go_at_call 56; (with_reducible refine (fR_ok.calls g s0_0 s0_1 s0_2 s0_3 false t604 t605 t606 w0 _ ?side1 ?side2 A2.out).mono ?_); (case side1 => repeat (first | (with_reducible first | exact HI0.out | apply i108a_ | apply i108n_ | apply i108d_ | apply IsS108.set_1 | apply IsS108.set_2 | apply IsS108.set_3) | exact HI0.out)); (case side2 => repeat (first | (with_reducible first | exact HB.out | apply pa | apply pd | apply pe | refine zs ?_ (IsS108.ge HI0.out)) | exact HB.out)); rintro e w25 ⟨rfl, hi, hb, hk⟩; have n0_ := ak_ (KeepBut.trans (by with_reducible repeat first | exact HK.out | apply KeepBut.set_ | apply keep_drewN | apply keep_drew | apply keep_alloc) hk (.inl rfl)); have n1_ := ak_ (hb); have n2_ := ak_ (hi); clear HK HB HI0; have HK := n0_; have HB := n1_; have HI0 := n2_; clear n0_ n1_ n2_)); try go_wp2_with (first | (go_at_call 56; (with_reducible refine (fR_ok.calls g s0_0 s0_1 s0_2 s0_3 false t604 t605 t606 w0 _ ?side1 ?side2 A2.out).mono ?_); (case side1 => repeat (first | (with_reducible first | exact HI0.out | apply i108a_ | apply i108n_ | apply i108d_ | apply IsS108.set_1 | apply IsS108.set_2 | apply IsS108.set_3) | exact HI0.out)); (case side2 => repeat (first | (with_reducible first | exact HB.out | apply pa | apply pd | apply pe | refine zs ?_ (IsS108.ge HI0.out)) | exact HB.out)); rintro e w25 ⟨rfl, hi, hb, hk⟩; have n0_ := ak_ (KeepBut.trans (by with_reducible repeat first | exact HK.out | apply KeepBut.set_ | apply keep_drewN | apply keep_drew | apply keep_alloc) hk (.inl rfl)); have n1_ := ak_ (hb); have n2_ := ak_ (hi); clear HK HB HI0; have HK := n0_; have HB := n1_; have HI0 := n2_; clear n0_ n1_ n2_)))
 go_ret
 exact ⟨by first | rfl | simp [*], by repeat (first | (with_reducible first | exact HI0.out | apply i108a_ | apply i108n_ | apply i108d_ | apply IsS108.set_1 | apply IsS108.set_2 | apply IsS108.set_3) | exact HI0.out), by repeat (first | (with_reducible first | exact HB.out | apply pa | apply pd | apply pe | refine zs ?_ (IsS108.ge HI0.out)) | exact HB.out), by repeat (first | (with_reducible first | exact HK.out | apply KeepBut.set_ | apply keep_drewN | apply keep_drew | apply keep_alloc) | exact HK.out)⟩
def fR_End.j0 : Nat → Bool → List Int → Int → Int → Int → Option (Bool × Int × Int × Int)
 | 0, _, _, _, _, _ => none
 | k + 1, x9, x1000, x1001, x1002, x1003 => if x9 = true then ((fR_fail.f x1000 x1001 x1002 x1003 x1001 3).bind fun bt627 => ((fR_ok.f x1000 bt627.1 bt627.2.1 bt627.2.2).bind fun bt630 => (some (bt630.1, bt630.2.1, bt630.2.2.1, bt630.2.2.2)))) else ((fR_ok.f x1000 x1001 x1002 x1003).bind fun bt634 => (some (bt634.1, bt634.2.1, bt634.2.2.1, bt634.2.2.2)))
def fR_End.f (k : Nat) (s0_0 : List Int) (s0_1 : Int) (s0_2 : Int) (s0_3 : Int) : Option (Bool × Int × Int × Int) := (fR_ok.f s0_0 s0_1 s0_2 s0_3).bind fun bt619 => (if bt619.1 = true then ((fR_left.f s0_0 bt619.2.1 bt619.2.2.1 bt619.2.2.2).bind fun bt623 => (fR_End.j0 k (decide (bt623.1 > 0)) s0_0 bt623.2.1 bt623.2.2.1 bt623.2.2.2)) else (fR_End.j0 k false s0_0 bt619.2.1 bt619.2.2.1 bt619.2.2.2))
namespace fR_End
abbrev i108a_ := @IsS108.alloc
abbrev i108n_ := @IsS108.drewN
abbrev i108d_ := @IsS108.drew
end fR_End
open fR_End in
theorem fR_End.calls (k : Nat) (g : Nat) (s0_0 : List Int) (s0_1 : Int) (s0_2 : Int) (s0_3 : Int) (r1 : Bool) (r2 : Int) (r3 : Int) (r4 : Int) (w0 w : World) (hI : IsS108 w0 w g s0_0 s0_1 s0_2 s0_3) (hB : Below w0.heap.size w0 w) (h : fR_End.f k s0_0 s0_1 s0_2 s0_3 = some (r1, r2, r3, r4)) :
 Calls Tryd.prog 29 #[.pointer (some ⟨g, 0, none⟩)] w fun e w' => e = .returned (.bool r1) ∧ IsS108 w0 w' g s0_0 r2 r3 r4 ∧ Below w0.heap.size w0 w' ∧ KeepBut w w' g none := by
 have HI0 := ak_ hI
 have HK := ak_ (KeepBut.refl w g none)
 have HL := ak_ hB.size
 clear hI
 have HW0 := ak_ hB.size
 have HB := ak_ hB
 clear hB
 have H : ((fR_ok.f s0_0 s0_1 s0_2 s0_3).bind fun bt619 => (if bt619.1 = true then ((fR_left.f s0_0 bt619.2.1 bt619.2.2.1 bt619.2.2.2).bind fun bt623 => (fR_End.j0 k (decide (bt623.1 > 0)) s0_0 bt623.2.1 bt623.2.2.1 bt623.2.2.2)) else (fR_End.j0 k false s0_0 bt619.2.1 bt619.2.2.1 bt619.2.2.2))) = some (r1, r2, r3, r4) := h
 clear h
 have HC2 := ak_ H
 clear H
 go_enter Tryd.func29, Tryd.ntmps29
 go_upto_region 1 with (fail)
 go_cut [9] (fun v9 wc => ∃ (kq : Nat) (x9_1 : Bool) (x1001_1 : Int) (x1002_1 : Int) (x1003_1 : Int), v9 = .bool x9_1 ∧ Aside0 (fR_End.j0 kq x9_1 s0_0 x1001_1 x1002_1 x1003_1 = some (r1, r2, r3, r4)) ∧ Aside0 (kq ≤ k) ∧ Aside0 (IsS108 w0 wc g s0_0 x1001_1 x1002_1 x1003_1) ∧ Aside0 (KeepBut w wc g none) ∧ Aside0 (Below w0.heap.size w0 wc))
 case first =>
  have H := HC2.out
  clear HC2
  replace H := ob_ H
  obtain ⟨⟨t619, t620, t621, t622⟩, A30, H⟩ := H
  replace H : (if t619 = true then ((fR_left.f s0_0 t620 t621 t622).bind fun bt623 => (fR_End.j0 k (decide (bt623.1 > 0)) s0_0 bt623.2.1 bt623.2.2.1 bt623.2.2.2)) else (fR_End.j0 k false s0_0 t620 t621 t622)) = some (r1, r2, r3, r4) := H
  have A3 := ak_ A30
  clear A30
  by_cases c4 : t619 = true
  · subst c4
    have H1 : ((fR_left.f s0_0 t620 t621 t622).bind fun bt623 => (fR_End.j0 k (decide (bt623.1 > 0)) s0_0 bt623.2.1 bt623.2.2.1 bt623.2.2.2)) = some (r1, r2, r3, r4) := by rw [if_pos rfl] at H; exact H
    clear H
    have H := H1
    clear H1
    replace H := ob_ H
    obtain ⟨⟨t623, t624, t625, t626⟩, A50, H⟩ := H
    replace H : (fR_End.j0 k (decide (t623 > 0)) s0_0 t624 t625 t626) = some (r1, r2, r3, r4) := H
    have A5 := ak_ A50
    clear A50
    have H' := ak_ H
    clear H
    go_wp2_with (first | ((with_reducible refine gate_callee (f := 56) rfl ?_); refine goesL_ (some 4) rfl rfl Tryd.func56 (by kernel_rfl) rfl #[.pointer (some ⟨g, 0, none⟩)] rfl (by simp only [mt_, mc_, mn_] <;> rfl) ?_; (with_reducible refine (fR_ok.calls g s0_0 s0_1 s0_2 s0_3 true t620 t621 t622 w0 _ ?side1 ?side2 A3.out).mono ?_); (case side1 => repeat (first | (with_reducible first | exact HI0.out | apply i108a_ | apply i108n_ | apply i108d_ | apply IsS108.set_1 | apply IsS108.set_2 | apply IsS108.set_3) | exact HI0.out)); (case side2 => repeat (first | (with_reducible first | exact HB.out | apply pa | apply pd | apply pe | refine zs ?_ (IsS108.ge HI0.out)) | exact HB.out)); rintro e w6 ⟨rfl, hi, hb, hk⟩; refine ⟨_, rfl, ?_⟩; have n0_ := ak_ (KeepBut.trans (by with_reducible repeat first | exact HK.out | apply KeepBut.set_ | apply keep_drewN | apply keep_drew | apply keep_alloc) hk (.inl rfl)); have n1_ := ak_ (hb); have n2_ := ak_ (hi); clear HK HB HI0; have HK := n0_; have HB := n1_; have HI0 := n2_; clear n0_ n1_ n2_) | (go_at_call 57; (with_reducible refine (fR_left.calls g s0_0 t620 t621 t622 t623 t624 t625 t626 w0 _ ?side1 ?side2 A5.out).mono ?_); (case side1 => repeat (first | (with_reducible first | exact HI0.out | apply i108a_ | apply i108n_ | apply i108d_ | apply IsS108.set_1 | apply IsS108.set_2 | apply IsS108.set_3) | exact HI0.out)); (case side2 => repeat (first | (with_reducible first | exact HB.out | apply pa | apply pd | apply pe | refine zs ?_ (IsS108.ge HI0.out)) | exact HB.out)); rintro e w7 ⟨rfl, hi, hb, hk⟩; have n0_ := ak_ (KeepBut.trans (by with_reducible repeat first | exact HK.out | apply KeepBut.set_ | apply keep_drewN | apply keep_drew | apply keep_alloc) hk (.inl rfl)); have n1_ := ak_ (hb); have n2_ := ak_ (hi); clear HK HB HI0; have HK := n0_; have HB := n1_; have HI0 := n2_; clear n0_ n1_ n2_))
    go_meet
    case rel => exact ⟨_, (decide (t623 > 0)), (t624), (t625), (t626), (by first | rfl | simp [*]), H', ⟨by first | omega | exact Nat.le_refl _⟩, ⟨by repeat (first | (with_reducible first | exact HI0.out | apply i108a_ | apply i108n_ | apply i108d_ | apply IsS108.set_1 | apply IsS108.set_2 | apply IsS108.set_3) | exact HI0.out)⟩, ⟨by repeat (first | (with_reducible first | exact HK.out | apply KeepBut.set_ | apply keep_drewN | apply keep_drew | apply keep_alloc) | exact HK.out)⟩, ⟨by repeat (first | (with_reducible first | exact HB.out | apply pa | apply pd | apply pe | refine zs ?_ (IsS108.ge HI0.out)) | exact HB.out)⟩⟩
  replace c4 := Bool.eq_false_iff.mpr c4
  subst c4
  have H1 : (fR_End.j0 k false s0_0 t620 t621 t622) = some (r1, r2, r3, r4) := by rw [if_neg (show ¬ (false = true) by decide)] at H; exact H
  clear H
  have H := H1
  clear H1
  have H' := ak_ H
  clear H
  go_wp2_with (first | ((with_reducible refine gate_callee (f := 56) rfl ?_); refine goesL_ (some 4) rfl rfl Tryd.func56 (by kernel_rfl) rfl #[.pointer (some ⟨g, 0, none⟩)] rfl (by simp only [mt_, mc_, mn_] <;> rfl) ?_; (with_reducible refine (fR_ok.calls g s0_0 s0_1 s0_2 s0_3 false t620 t621 t622 w0 _ ?side1 ?side2 A3.out).mono ?_); (case side1 => repeat (first | (with_reducible first | exact HI0.out | apply i108a_ | apply i108n_ | apply i108d_ | apply IsS108.set_1 | apply IsS108.set_2 | apply IsS108.set_3) | exact HI0.out)); (case side2 => repeat (first | (with_reducible first | exact HB.out | apply pa | apply pd | apply pe | refine zs ?_ (IsS108.ge HI0.out)) | exact HB.out)); rintro e w8 ⟨rfl, hi, hb, hk⟩; refine ⟨_, rfl, ?_⟩; have n0_ := ak_ (KeepBut.trans (by with_reducible repeat first | exact HK.out | apply KeepBut.set_ | apply keep_drewN | apply keep_drew | apply keep_alloc) hk (.inl rfl)); have n1_ := ak_ (hb); have n2_ := ak_ (hi); clear HK HB HI0; have HK := n0_; have HB := n1_; have HI0 := n2_; clear n0_ n1_ n2_))
  go_meet
  case rel => exact ⟨_, (false), (t620), (t621), (t622), (by first | rfl | simp [*]), H', ⟨by first | omega | exact Nat.le_refl _⟩, ⟨by repeat (first | (with_reducible first | exact HI0.out | apply i108a_ | apply i108n_ | apply i108d_ | apply IsS108.set_1 | apply IsS108.set_2 | apply IsS108.set_3) | exact HI0.out)⟩, ⟨by repeat (first | (with_reducible first | exact HK.out | apply KeepBut.set_ | apply keep_drewN | apply keep_drew | apply keep_alloc) | exact HK.out)⟩, ⟨by repeat (first | (with_reducible first | exact HB.out | apply pa | apply pd | apply pe | refine zs ?_ (IsS108.ge HI0.out)) | exact HB.out)⟩⟩
 case rest =>
  clear HC2
  try clear c2
  try clear p2
  try clear c4
  try clear c5
  obtain ⟨kq, x9_1, x1001_1, x1002_1, x1003_1, rfl, HA, HJ1, HI0, HK, HB⟩ := hcut
  cases kq with
  | zero => exact absurd HA.out (by simp [fR_End.j0])
  | succ kj1 =>
   have H := HA.out
   clear HA
   simp only [fR_End.j0] at H
   have HF9 := ak_ H
   clear H
   go_upto_if 9 with (fail)
   have H := HF9.out
   clear HF9
   by_cases c10 : x9_1 = true
   · subst c10
     have H1 : ((fR_fail.f s0_0 x1001_1 x1002_1 x1003_1 x1001_1 3).bind fun bt627 => ((fR_ok.f s0_0 bt627.1 bt627.2.1 bt627.2.2).bind fun bt630 => (some (bt630.1, bt630.2.1, bt630.2.2.1, bt630.2.2.2)))) = some (r1, r2, r3, r4) := by rw [if_pos rfl] at H; exact H
     clear H
     have H := H1
     clear H1
     replace H := ob_ H
     obtain ⟨⟨t627, t628, t629⟩, A110, H⟩ := H
     replace H : ((fR_ok.f s0_0 t627 t628 t629).bind fun bt630 => (some (bt630.1, bt630.2.1, bt630.2.2.1, bt630.2.2.2))) = some (r1, r2, r3, r4) := H
     have A11 := ak_ A110
     clear A110
     replace H := ob_ H
     obtain ⟨⟨t630, t631, t632, t633⟩, A120, H⟩ := H
     replace H : (some (t630, t631, t632, t633)) = some (r1, r2, r3, r4) := H
     have A12 := ak_ A120
     clear A120
     simp only [Option.some.injEq, Prod.mk.injEq] at H
     obtain ⟨rfl, rfl, rfl, rfl⟩ := H
     obtain ⟨ASz13_0, cSz13_0, HGz13, hgz13, ⟨HSz13_0, _⟩⟩ := HI0.out
     have hcz13_0 := cellS108_0 HGz13
     have hcz13_1 := cellS108_1 HGz13
     have hcz13_2 := cellS108_2 HGz13
     have hcz13_3 := cellS108_3 HGz13
     have hfz13_1 := zf HGz13 1
     have hfz13_2 := zf HGz13 2
     have hfz13_3 := zf HGz13 3
     clear HGz13 hgz13
     go_wp2_with (first | ((with_reducible refine gate_callee (f := 58) rfl ?_); refine goesL_ (some 15) rfl rfl Tryd.func58 (by kernel_rfl) rfl #[.pointer (some ⟨g, 0, none⟩), .int .i64 x1001_1, .int .i64 3] rfl (by simp only [mt_, mc_, mn_] <;> rfl) ?_; (with_reducible refine (fR_fail.calls g s0_0 x1001_1 x1002_1 x1003_1 x1001_1 3 t627 t628 t629 w0 _ ?side1 ?side2 A11.out).mono ?_); (case side1 => repeat (first | (with_reducible first | exact HI0.out | apply i108a_ | apply i108n_ | apply i108d_ | apply IsS108.set_1 | apply IsS108.set_2 | apply IsS108.set_3) | exact HI0.out)); (case side2 => repeat (first | (with_reducible first | exact HB.out | apply pa | apply pd | apply pe | refine zs ?_ (IsS108.ge HI0.out)) | exact HB.out)); rintro e w14 ⟨rfl, hi, hb, hk⟩; refine ⟨_, rfl, ?_⟩; have n0_ := ak_ (KeepBut.trans (by with_reducible repeat first | exact HK.out | apply KeepBut.set_ | apply keep_drewN | apply keep_drew | apply keep_alloc) hk (.inl rfl)); have n1_ := ak_ (hb); have n2_ := ak_ (hi); clear HK HB HI0; have HK := n0_; have HB := n1_; have HI0 := n2_; clear n0_ n1_ n2_) | ((with_reducible refine gate_callee (f := 56) rfl ?_); refine goesL_ (some 17) rfl rfl Tryd.func56 (by kernel_rfl) rfl #[.pointer (some ⟨g, 0, none⟩)] rfl (by simp only [mt_, mc_, mn_] <;> rfl) ?_; (with_reducible refine (fR_ok.calls g s0_0 t627 t628 t629 t630 t631 t632 t633 w0 _ ?side1 ?side2 A12.out).mono ?_); (case side1 => repeat (first | (with_reducible first | exact HI0.out | apply i108a_ | apply i108n_ | apply i108d_ | apply IsS108.set_1 | apply IsS108.set_2 | apply IsS108.set_3) | exact HI0.out)); (case side2 => repeat (first | (with_reducible first | exact HB.out | apply pa | apply pd | apply pe | refine zs ?_ (IsS108.ge HI0.out)) | exact HB.out)); rintro e w15 ⟨rfl, hi, hb, hk⟩; refine ⟨_, rfl, ?_⟩; have n0_ := ak_ (KeepBut.trans (by with_reducible repeat first | exact HK.out | apply KeepBut.set_ | apply keep_drewN | apply keep_drew | apply keep_alloc) hk (.inl rfl)); have n1_ := ak_ (hb); have n2_ := ak_ (hi); clear HK HB HI0; have HK := n0_; have HB := n1_; have HI0 := n2_; clear n0_ n1_ n2_))
     go_ret
     exact ⟨by first | rfl | simp [*], by repeat (first | (with_reducible first | exact HI0.out | apply i108a_ | apply i108n_ | apply i108d_ | apply IsS108.set_1 | apply IsS108.set_2 | apply IsS108.set_3) | exact HI0.out), by repeat (first | (with_reducible first | exact HB.out | apply pa | apply pd | apply pe | refine zs ?_ (IsS108.ge HI0.out)) | exact HB.out), by repeat (first | (with_reducible first | exact HK.out | apply KeepBut.set_ | apply keep_drewN | apply keep_drew | apply keep_alloc) | exact HK.out)⟩
   replace c10 := Bool.eq_false_iff.mpr c10
   subst c10
   have H1 : ((fR_ok.f s0_0 x1001_1 x1002_1 x1003_1).bind fun bt634 => (some (bt634.1, bt634.2.1, bt634.2.2.1, bt634.2.2.2))) = some (r1, r2, r3, r4) := by rw [if_neg (show ¬ (false = true) by decide)] at H; exact H
   clear H
   have H := H1
   clear H1
   replace H := ob_ H
   obtain ⟨⟨t634, t635, t636, t637⟩, A160, H⟩ := H
   replace H : (some (t634, t635, t636, t637)) = some (r1, r2, r3, r4) := H
   have A16 := ak_ A160
   clear A160
   simp only [Option.some.injEq, Prod.mk.injEq] at H
   obtain ⟨rfl, rfl, rfl, rfl⟩ := H
   go_wp2_with (first | ((with_reducible refine gate_callee (f := 56) rfl ?_); refine goesL_ (some 17) rfl rfl Tryd.func56 (by kernel_rfl) rfl #[.pointer (some ⟨g, 0, none⟩)] rfl (by simp only [mt_, mc_, mn_] <;> rfl) ?_; (with_reducible refine (fR_ok.calls g s0_0 x1001_1 x1002_1 x1003_1 t634 t635 t636 t637 w0 _ ?side1 ?side2 A16.out).mono ?_); (case side1 => repeat (first | (with_reducible first | exact HI0.out | apply i108a_ | apply i108n_ | apply i108d_ | apply IsS108.set_1 | apply IsS108.set_2 | apply IsS108.set_3) | exact HI0.out)); (case side2 => repeat (first | (with_reducible first | exact HB.out | apply pa | apply pd | apply pe | refine zs ?_ (IsS108.ge HI0.out)) | exact HB.out)); rintro e w17 ⟨rfl, hi, hb, hk⟩; refine ⟨_, rfl, ?_⟩; have n0_ := ak_ (KeepBut.trans (by with_reducible repeat first | exact HK.out | apply KeepBut.set_ | apply keep_drewN | apply keep_drew | apply keep_alloc) hk (.inl rfl)); have n1_ := ak_ (hb); have n2_ := ak_ (hi); clear HK HB HI0; have HK := n0_; have HB := n1_; have HI0 := n2_; clear n0_ n1_ n2_))
   go_ret
   exact ⟨by first | rfl | simp [*], by repeat (first | (with_reducible first | exact HI0.out | apply i108a_ | apply i108n_ | apply i108d_ | apply IsS108.set_1 | apply IsS108.set_2 | apply IsS108.set_3) | exact HI0.out), by repeat (first | (with_reducible first | exact HB.out | apply pa | apply pd | apply pe | refine zs ?_ (IsS108.ge HI0.out)) | exact HB.out), by repeat (first | (with_reducible first | exact HK.out | apply KeepBut.set_ | apply keep_drewN | apply keep_drew | apply keep_alloc) | exact HK.out)⟩
def fR_Err.f (s0_0 : List Int) (s0_1 : Int) (s0_2 : Int) (s0_3 : Int) : Option (Int × Int × Int × Int × Int) := some (s0_2, s0_3, s0_1, s0_2, s0_3)
theorem fR_Err.calls (g : Nat) (s0_0 : List Int) (s0_1 : Int) (s0_2 : Int) (s0_3 : Int) (r1 : Int) (r2 : Int) (r3 : Int) (r4 : Int) (r5 : Int) (w0 w : World) (hI : IsS108 w0 w g s0_0 s0_1 s0_2 s0_3) (hB : Below w0.heap.size w0 w) (h : fR_Err.f s0_0 s0_1 s0_2 s0_3 = some (r1, r2, r3, r4, r5)) :
 Calls Tryd.prog 30 #[.pointer (some ⟨g, 0, none⟩)] w fun e w' => e = .returned (.tuple #[.int .i64 r1, .int .i64 r2]) ∧ IsS108 w0 w' g s0_0 r3 r4 r5 ∧ Below w0.heap.size w0 w' ∧ KeepBut w w' g none := by
 have HI0 := ak_ hI
 have HK := ak_ (KeepBut.refl w g none)
 have HL := ak_ hB.size
 clear hI
 have HW0 := ak_ hB.size
 have HB := ak_ hB
 clear hB
 have H : (some (s0_2, s0_3, s0_1, s0_2, s0_3)) = some (r1, r2, r3, r4, r5) := h
 clear h
 simp only [Option.some.injEq, Prod.mk.injEq] at H
 obtain ⟨rfl, rfl, rfl, rfl, rfl⟩ := H
 obtain ⟨ASz2_0, cSz2_0, HGz2, hgz2, ⟨HSz2_0, _⟩⟩ := HI0.out
 have hcz2_0 := cellS108_0 HGz2
 have hcz2_1 := cellS108_1 HGz2
 have hcz2_2 := cellS108_2 HGz2
 have hcz2_3 := cellS108_3 HGz2
 have hfz2_1 := zf HGz2 1
 have hfz2_2 := zf HGz2 2
 have hfz2_3 := zf HGz2 3
 clear HGz2 hgz2
 go_enter Tryd.func30, Tryd.ntmps30
 go_wp2
 repeat (go_quiet (fail); try go_wp2)
 go_ret2
 exact ⟨by first | rfl | simp [*], by repeat (first | (with_reducible first | exact HI0.out | apply IsS108.alloc | apply IsS108.drewN | apply IsS108.drew | apply IsS108.set_1 | apply IsS108.set_2 | apply IsS108.set_3) | exact HI0.out), by repeat (first | (with_reducible first | exact HB.out | apply below_alloc | apply pw_below_drewN | apply below_drew1 | refine below_set ?_ (IsS108.ge HI0.out)) | exact HB.out), by repeat (first | (with_reducible first | exact HK.out | apply KeepBut.set_ | apply keep_drewN | apply keep_drew | apply keep_alloc) | exact HK.out)⟩
structure Rd (b : List Int) (a fa fe : Int) : Prop where
  len : b.length ≤ 100000
  a0 : 0 ≤ a
  a1 : a ≤ (b.length : Int)
  e0 : fe = 0 → fa = 0
theorem Rd.ok {b : List Int} {a fa fe : Int} (h : Rd b a fa fe) : okR fa fe = decide (fe = 0) := by
  unfold okR
  by_cases he : fe = 0
  · rw [he, h.e0 he]; rfl
  · rw [df_ he]
    have : (fe == 0) = false := beq_eq_false_iff_ne.mpr he
    rw [this, Bool.and_false]
theorem u64_lo (v c : Int) : 0 ≤ Go.bits .or .u64 v c := by
  have h : ∀ x : Int, IntKind.u64.wrap x = x % 18446744073709551616 := fun x => by simp [IntKind.wrap, IntKind.bits, IntKind.signed]
  unfold Go.bits
  simp only [h]
  exact Int.emod_nonneg _ (by decide)
theorem vfold_lo (l : List Int) : 0 ≤ vfold l := by
  unfold vfold
  suffices h : ∀ (l : List Int) (v : Int), 0 ≤ v → 0 ≤ l.foldl vstep v from h l 0 (Int.le_refl _)
  intro l
  induction l with
  | nil => exact fun v h => h
  | cons c l ih => exact fun v h => ih _ (u64_lo _ _)
theorem num_step {b : List Int} {a fa fe : Int} (h : Rd b a fa fe) : ∃ r a' f' e', fR_Num.f b a fa fe = some (r, a', f', e') ∧ Rd b a' f' e' ∧ (fe ≠ 0 → r = 0 ∧ f' = fa ∧ e' = fe) ∧ 0 ≤ r ∧ r ≤ 4611686018427387904 := by
  have hl := h.len; have h0 := h.a0; have h1 := h.a1
  unfold fR_Num.f
  rw [h.ok]
  by_cases he : fe = 0
  · rw [if_pos (dt_ he)]
    have e1 : wrap64 ((b.length : Int) - a) = (b.length : Int) - a := by unfold wrap64; omega
    rw [e1]
    by_cases hs : (b.length : Int) - a < 8
    · rw [if_pos hs]
      exact ⟨_, _, _, _, rfl, ⟨hl, h0, h1, fun h => by omega⟩, fun hn => absurd he hn, by omega, by omega⟩
    · rw [if_neg hs, if_pos ⟨h0, by omega⟩]
      have hv := vfold_lo ((b.take (a + 8).toNat).drop a.toNat)
      generalize vfold ((b.take (a + 8).toNat).drop a.toNat) = v at *
      by_cases hv2 : v > 4611686018427387904
      · rw [if_pos hv2]
        exact ⟨_, _, _, _, rfl, ⟨hl, h0, h1, fun h => by omega⟩, fun hn => absurd he hn, by omega, by omega⟩
      · rw [if_neg hv2]
        have e2 : wrap64 v = v := by unfold wrap64; omega
        rw [e2]
        exact ⟨_, _, _, _, rfl, ⟨hl, by omega, by omega, h.e0⟩, fun hn => absurd he hn, hv, by omega⟩
  · rw [if_neg (by rw [df_ he]; decide)]
    exact ⟨_, _, _, _, rfl, h, fun _ => ⟨rfl, rfl, rfl⟩, by omega, by omega⟩
theorem text_step {b : List Int} {a fa fe : Int} (h : Rd b a fa fe) (m : Int) : ∃ r a' f' e', fR_Text.f b a fa fe m = some (r, a', f', e') ∧ Rd b a' f' e' ∧ (fe ≠ 0 → r = ⟨#[]⟩ ∧ f' = fa ∧ e' = fe) := by
  obtain ⟨n, a1, f1, e1, hn, hr, hz, n0, n1⟩ := num_step h
  unfold fR_Text.f
  rw [hn, bs_]
  dsimp only
  rw [hr.ok]
  have hl := hr.len; have h0 := hr.a0; have h1 := hr.a1
  by_cases he : e1 = 0
  · rw [if_pos (dt_ he)]
    have hfe : fe = 0 := by
      by_cases hf : fe = 0
      · exact hf
      · have := (hz hf).2.2; omega
    by_cases hm : n > m
    · rw [if_pos hm]
      exact ⟨_, _, _, _, rfl, ⟨h.len, h.a0, h.a1, fun h => by omega⟩, fun hn => absurd hfe hn⟩
    · rw [if_neg hm]
      have e2 : wrap64 ((b.length : Int) - a1) = (b.length : Int) - a1 := by unfold wrap64; omega
      rw [e2]
      by_cases hs : n > (b.length : Int) - a1
      · rw [if_pos hs]
        exact ⟨_, _, _, _, rfl, ⟨h.len, h.a0, h.a1, fun h => by omega⟩, fun hn => absurd hfe hn⟩
      · rw [if_neg hs, if_pos ⟨h0, n0, by omega⟩]
        exact ⟨_, _, _, _, rfl, ⟨hl, by omega, by omega, hr.e0⟩, fun hn => absurd hfe hn⟩
  · rw [if_neg (by rw [df_ he]; decide)]
    exact ⟨_, _, _, _, rfl, hr, fun hn => ⟨rfl, (hz hn).2⟩⟩
theorem fail_ok {b : List Int} {a fa fe : Int} (h : okR fa fe = true) (x e : Int) : fR_fail.f b a fa fe x e = some (x, x, e) := failR_f b a fa fe x e h
theorem flag_step {b : List Int} {a fa fe : Int} (h : Rd b a fa fe) : ∃ r a' f' e', fR_Flag.f b a fa fe = some (r, a', f', e') ∧ Rd b a' f' e' ∧ (fe ≠ 0 → r = false ∧ f' = fa ∧ e' = fe) := by
  unfold fR_Flag.f
  rw [okR_f, bs_]
  dsimp only
  have hl := h.len; have h0 := h.a0; have h1 := h.a1
  have hk := h.ok
  by_cases he : fe = 0
  · rw [dt_ he] at hk
    rw [if_pos hk, leftR_f, bs_]
    dsimp only
    have e1 : wrap64 ((b.length : Int) - a) = (b.length : Int) - a := by unfold wrap64; omega
    have e2 : wrap64 (a + 1) = a + 1 := by unfold wrap64; omega
    have e3 : wrap64 (a + 1 - 1) = a := by unfold wrap64; omega
    rw [e1, e2, e3]
    by_cases hs : (b.length : Int) - a = 0
    · rw [if_pos hs, fail_ok hk, bs_]
      exact ⟨_, _, _, _, rfl, ⟨hl, h0, h1, fun h => by simp at h⟩, fun hn => absurd he hn⟩
    · rw [if_neg hs, if_pos h0, if_pos (by omega)]
      by_cases hv : rd b a > 1
      · rw [if_pos hv, fail_ok hk, bs_]
        exact ⟨_, _, _, _, rfl, ⟨hl, h0, h1, fun h => by simp at h⟩, fun hn => absurd he hn⟩
      · rw [if_neg hv, if_pos h0, if_pos (by omega)]
        exact ⟨_, _, _, _, rfl, ⟨hl, by omega, by omega, h.e0⟩, fun hn => absurd he hn⟩
  · rw [df_ he] at hk
    rw [if_neg (by rw [hk]; decide)]
    exact ⟨_, _, _, _, rfl, h, fun _ => ⟨rfl, rfl, rfl⟩⟩
def uR04_fail.f (a0_0 : ByteArray) (a0_1 : Int) (a0_2 : Int) (a0_3 : Int) (a0_4 : Int) (a0_5 : ByteArray) (a0_6 : Bool) (a1 : Int) (a2 : Int) : Option (ByteArray × Int × Int × Int × Int × ByteArray × Bool) := some (a0_0, a1, a2, a1, a0_4, a0_5, a0_6)
mutual
def uR04_Take.j0 : Nat → Bool → ByteArray → Int → Int → Int → Int → ByteArray → Bool → Option (ByteArray × Int × Int × Int × Int × ByteArray × Bool × Int)
 | 0, _, _, _, _, _, _, _, _ => none
 | k + 1, x46, x170000, x170001, x170002, x170003, x170004, x170005, x170006 => if x46 = true then ((uR04_fail.f x170000 x170001 x170002 x170003 x170004 x170005 x170006 x170001 4).bind fun bt178 => (some (bt178.1, bt178.2.1, bt178.2.2.1, bt178.2.2.2.1, bt178.2.2.2.2.1, bt178.2.2.2.2.2.1, bt178.2.2.2.2.2.2, 0))) else (uR04_Take.l0 k 0 0 x170000 x170001 x170002 x170003 x170004 x170005 x170006)
def uR04_Take.l0 : Nat → Int → Int → ByteArray → Int → Int → Int → Int → ByteArray → Bool → Option (ByteArray × Int × Int × Int × Int × ByteArray × Bool × Int)
 | 0, _, _, _, _, _, _, _, _, _ => none
 | k + 1, x4, x5, x170000, x170001, x170002, x170003, x170004, x170005, x170006 => if x5 < 8 then (if 0 ≤ (wrap64 (x170001 + x5)) then (if (wrap64 (x170001 + x5)) < (x170000.size : Int) then (uR04_Take.l0 k (wrap64 ((wrap64 (256 * x4)) + (wrap64 (bt x170000 (wrap64 (x170001 + x5)))))) (wrap64 (x5 + 1)) x170000 x170001 x170002 x170003 x170004 x170005 x170006) else (none)) else (none)) else (some (x170000, wrap64 (x170001 + 8), x170002, x170003, x170004, x170005, x170006, x4))
end
def uR04_Take.f (k : Nat) (a0_0 : ByteArray) (a0_1 : Int) (a0_2 : Int) (a0_3 : Int) (a0_4 : Int) (a0_5 : ByteArray) (a0_6 : Bool) : Option (ByteArray × Int × Int × Int × Int × ByteArray × Bool × Int) := if a0_2 = 0 then (if (wrap64 ((a0_0.size : Int) - a0_1)) < 8 then ((uR04_fail.f a0_0 a0_1 a0_2 a0_3 a0_4 a0_5 a0_6 a0_1 2).bind fun bt171 => (some (bt171.1, bt171.2.1, bt171.2.2.1, bt171.2.2.2.1, bt171.2.2.2.2.1, bt171.2.2.2.2.2.1, bt171.2.2.2.2.2.2, 0))) else (if 0 ≤ a0_1 then (if a0_1 < (a0_0.size : Int) then (if (bt a0_0 a0_1) > 64 then (uR04_Take.j0 k true a0_0 a0_1 a0_2 a0_3 a0_4 a0_5 a0_6) else (if (bt a0_0 a0_1) = 64 then (if 0 ≤ (wrap64 (a0_1 + 1)) then (if (wrap64 (a0_1 + 1)) ≤ (wrap64 (a0_1 + 8)) then (if (wrap64 (a0_1 + 8)) ≤ (a0_0.size : Int) then (uR04_Take.j0 k ((a0_0.extract ((wrap64 (a0_1 + 1)) : Int).toNat ((wrap64 (a0_1 + 8)) : Int).toNat).toList != ([0, 0, 0, 0, 0, 0, 0] : List UInt8)) a0_0 a0_1 a0_2 a0_3 a0_4 a0_5 a0_6) else (none)) else (none)) else (none)) else (uR04_Take.j0 k false a0_0 a0_1 a0_2 a0_3 a0_4 a0_5 a0_6))) else (none)) else (none))) else (some (a0_0, a0_1, a0_2, a0_3, a0_4, a0_5, a0_6, 0))
def uR04_Text.f (k : Nat) (a0_0 : ByteArray) (a0_1 : Int) (a0_2 : Int) (a0_3 : Int) (a0_4 : Int) (a0_5 : ByteArray) (a0_6 : Bool) (a1 : Int) : Option (ByteArray × Int × Int × Int × Int × ByteArray × Bool × ByteArray) := (uR04_Take.f k a0_0 a0_1 a0_2 a0_3 a0_4 a0_5 a0_6).bind fun bt198 => (if bt198.2.2.1 = 0 then (if bt198.2.2.2.2.2.2.2 > a1 then ((uR04_fail.f a0_0 a0_1 a0_2 a0_3 a0_4 a0_5 a0_6 a0_1 4).bind fun bt207 => (some (bt207.1, bt207.2.1, bt207.2.2.1, bt207.2.2.2.1, bt207.2.2.2.2.1, bt207.2.2.2.2.2.1, bt207.2.2.2.2.2.2, (⟨#[]⟩ : ByteArray)))) else (if bt198.2.2.2.2.2.2.2 > (wrap64 ((bt198.1.size : Int) - bt198.2.1)) then ((uR04_fail.f a0_0 a0_1 a0_2 a0_3 a0_4 a0_5 a0_6 a0_1 2).bind fun bt214 => (some (bt214.1, bt214.2.1, bt214.2.2.1, bt214.2.2.2.1, bt214.2.2.2.2.1, bt214.2.2.2.2.2.1, bt214.2.2.2.2.2.2, (⟨#[]⟩ : ByteArray)))) else (if 0 ≤ bt198.2.1 then (if bt198.2.1 ≤ (wrap64 (bt198.2.1 + bt198.2.2.2.2.2.2.2)) then (if (wrap64 (bt198.2.1 + bt198.2.2.2.2.2.2.2)) ≤ (bt198.1.size : Int) then (some (bt198.1, wrap64 (bt198.2.1 + bt198.2.2.2.2.2.2.2), bt198.2.2.1, bt198.2.2.2.1, bt198.2.2.2.2.1, bt198.2.2.2.2.2.1, bt198.2.2.2.2.2.2.1, bt198.1.extract (bt198.2.1 : Int).toNat ((wrap64 (bt198.2.1 + bt198.2.2.2.2.2.2.2)) : Int).toNat)) else (none)) else (none)) else (none)))) else (some (bt198.1, bt198.2.1, bt198.2.2.1, bt198.2.2.2.1, bt198.2.2.2.2.1, bt198.2.2.2.2.2.1, bt198.2.2.2.2.2.2.1, (⟨#[]⟩ : ByteArray))))
def uR04_Flag.f (a0_0 : ByteArray) (a0_1 : Int) (a0_2 : Int) (a0_3 : Int) (a0_4 : Int) (a0_5 : ByteArray) (a0_6 : Bool) : Option (ByteArray × Int × Int × Int × Int × ByteArray × Bool × Bool) := if a0_2 = 0 then (if a0_1 = (a0_0.size : Int) then ((uR04_fail.f a0_0 a0_1 a0_2 a0_3 a0_4 a0_5 a0_6 a0_1 2).bind fun bt349 => (some (bt349.1, bt349.2.1, bt349.2.2.1, bt349.2.2.2.1, bt349.2.2.2.2.1, bt349.2.2.2.2.2.1, bt349.2.2.2.2.2.2, false))) else (if 0 ≤ a0_1 then (if a0_1 < (a0_0.size : Int) then (if (bt a0_0 a0_1) > 1 then ((uR04_fail.f a0_0 a0_1 a0_2 a0_3 a0_4 a0_5 a0_6 a0_1 3).bind fun bt356 => (some (bt356.1, bt356.2.1, bt356.2.2.1, bt356.2.2.2.1, bt356.2.2.2.2.1, bt356.2.2.2.2.2.1, bt356.2.2.2.2.2.2, false))) else (if 0 ≤ (wrap64 ((wrap64 (a0_1 + 1)) - 1)) then (if (wrap64 ((wrap64 (a0_1 + 1)) - 1)) < (a0_0.size : Int) then (some (a0_0, wrap64 (a0_1 + 1), a0_2, a0_3, a0_4, a0_5, a0_6, ((bt a0_0 (wrap64 ((wrap64 (a0_1 + 1)) - 1))) == 1))) else (none)) else (none))) else (none)) else (none))) else (some (a0_0, a0_1, a0_2, a0_3, a0_4, a0_5, a0_6, false))
def uR04_Flag.T8 : Bool × List (List Nat × List Nat) := (true, [([], []), ([], []), ([1], [1]), ([], []), ([3], [3]), ([4], [4]), ([2, 5], [2, 5]), ([6], [6]), ([0, 0], [0]), ([7, 8, 0, 1, 2, 3, 4, 5, 6, 7, 8], [7])])
def uR04_Flag.B8 : List Nat := [0, 0, 2, 0, 8, 24, 62, 126, 1, 511]
def uR04_End.f (a0_0 : ByteArray) (a0_1 : Int) (a0_2 : Int) (a0_3 : Int) (a0_4 : Int) (a0_5 : ByteArray) (a0_6 : Bool) : Option (ByteArray × Int × Int × Int × Int × ByteArray × Bool) := if a0_2 = 0 then (if a0_1 < (a0_0.size : Int) then ((uR04_fail.f a0_0 a0_1 a0_2 a0_3 a0_4 a0_5 a0_6 a0_1 3).bind fun bt259 => (some (bt259.1, bt259.2.1, bt259.2.2.1, bt259.2.2.2.1, bt259.2.2.2.2.1, bt259.2.2.2.2.2.1, bt259.2.2.2.2.2.2))) else (some (a0_0, a0_1, a0_2, a0_3, a0_4, a0_5, a0_6))) else (some (a0_0, a0_1, a0_2, a0_3, a0_4, a0_5, a0_6))
def BB (b : List Int) : Prop := ∀ x ∈ b, 0 ≤ x ∧ x ≤ 255
theorem vstep_eq (v c : Int) (h0 : 0 ≤ v) (h1 : v < 72057594037927936) (c0 : 0 ≤ c) (c1 : c ≤ 255) : vstep v c = 256 * v + c := by
  unfold vstep
  rw [show (v * 256) % 18446744073709551616 = v * 256 by omega, show c % 18446744073709551616 = c by omega]
  rw [bits_join .u64 64 (by decide) (fun n a b => by have e : ∀ x : Int, IntKind.u64.wrap x = x % 18446744073709551616 := fun x => by simp [IntKind.wrap, IntKind.bits, IntKind.signed]
                                                     rw [e]; omega) 8 (v * 256) c (by omega) (by omega) (by omega) c0 (by omega) (by omega)]
  omega
theorem vfold8 (c0 c1 c2 c3 c4 c5 c6 c7 : Int) (h0 : 0 ≤ c0 ∧ c0 ≤ 255) (h1 : 0 ≤ c1 ∧ c1 ≤ 255) (h2 : 0 ≤ c2 ∧ c2 ≤ 255) (h3 : 0 ≤ c3 ∧ c3 ≤ 255) (h4 : 0 ≤ c4 ∧ c4 ≤ 255) (h5 : 0 ≤ c5 ∧ c5 ≤ 255) (h6 : 0 ≤ c6 ∧ c6 ≤ 255) (h7 : 0 ≤ c7 ∧ c7 ≤ 255) :
    vfold [c0, c1, c2, c3, c4, c5, c6, c7] = 256 * (256 * (256 * (256 * (256 * (256 * (256 * (256 * 0 + c0) + c1) + c2) + c3) + c4) + c5) + c6) + c7 := by
  unfold vfold
  simp only [List.foldl]
  rw [vstep_eq 0 c0 (by omega) (by omega) h0.1 h0.2, vstep_eq _ c1 (by omega) (by omega) h1.1 h1.2, vstep_eq _ c2 (by omega) (by omega) h2.1 h2.2, vstep_eq _ c3 (by omega) (by omega) h3.1 h3.2, vstep_eq _ c4 (by omega) (by omega) h4.1 h4.2, vstep_eq _ c5 (by omega) (by omega) h5.1 h5.2, vstep_eq _ c6 (by omega) (by omega) h6.1 h6.2, vstep_eq _ c7 (by omega) (by omega) h7.1 h7.2]
mutual
def uR04_Num.j0 : Nat → Int → Option (ByteArray)
 | 0, _ => none
 | k + 1, x0 => if x0 > 4611686018427387904 then (uR04_Num.j1 k 4611686018427387904) else (uR04_Num.j1 k x0)
def uR04_Num.j1 : Nat → Int → Option (ByteArray)
 | 0, _ => none
 | k + 1, x0 => uR04_Num.l0 k x0 (⟨#[]⟩ : ByteArray) 0
def uR04_Num.l0 : Nat → Int → ByteArray → Int → Option (ByteArray)
 | 0, _, _, _ => none
 | k + 1, x0, x3, x4 => if x4 < 8 then ((some (([(Int.tmod x0 256) % 256] : List Int) : List Int)).bind fun y115 => (if (strOfNums y115).size + x3.size ≤ 9223372036854775807 then (uR04_Num.l0 k (wrap64 (Int.tdiv x0 256)) ((strOfNums y115) ++ x3) (wrap64 (x4 + 1))) else (none))) else (some x3)
end
def uR04_Num.f (k : Nat) (a0 : Int) : Option (ByteArray) := if a0 < 0 then (uR04_Num.j0 k 0) else (uR04_Num.j0 k a0)
theorem strOfNums_bytesOf (s : ByteArray) : strOfNums (bytesOf s) = s := by
  apply ByteArray.ext
  unfold strOfNums bytesOf
  apply Array.ext'
  simp only [List.map_map]
  conv => rhs; rw [← List.map_id s.data.toList]
  apply List.map_congr_left
  intro c _
  simp [Function.comp]
theorem clampN_range (n : Int) : 0 ≤ clampN n ∧ clampN n ≤ 4611686018427387904 := by
  unfold clampN mn mx
  split <;> split <;> omega
theorem nbs8 (m : Int) : nbs m 8 = [m / 256 / 256 / 256 / 256 / 256 / 256 / 256 % 256, m / 256 / 256 / 256 / 256 / 256 / 256 % 256, m / 256 / 256 / 256 / 256 / 256 % 256, m / 256 / 256 / 256 / 256 % 256, m / 256 / 256 / 256 % 256, m / 256 / 256 % 256, m / 256 % 256, m % 256] := by
  have e : ∀ x : Int, IntKind.u8.wrap x = x % 256 := IntKind.wrap_u8
  have h : nbs m 8 = [nb m 7, nb m 6, nb m 5, nb m 4, nb m 3, nb m 2, nb m 1, nb m 0] := rfl
  rw [h]
  have n7 : nb m 7 = m / 72057594037927936 % 256 := by unfold nb; rw [e]; rfl
  have n6 : nb m 6 = m / 281474976710656 % 256 := by unfold nb; rw [e]; rfl
  have n5 : nb m 5 = m / 1099511627776 % 256 := by unfold nb; rw [e]; rfl
  have n4 : nb m 4 = m / 4294967296 % 256 := by unfold nb; rw [e]; rfl
  have n3 : nb m 3 = m / 16777216 % 256 := by unfold nb; rw [e]; rfl
  have n2 : nb m 2 = m / 65536 % 256 := by unfold nb; rw [e]; rfl
  have n1 : nb m 1 = m / 256 % 256 := by unfold nb; rw [e]; rfl
  have n0 : nb m 0 = m / 1 % 256 := by unfold nb; rw [e]; rfl
  rw [n7, n6, n5, n4, n3, n2, n1, n0]
  have a7 : m / 256 / 256 / 256 / 256 / 256 / 256 / 256 = m / 72057594037927936 := by omega
  have a6 : m / 256 / 256 / 256 / 256 / 256 / 256 = m / 281474976710656 := by omega
  have a5 : m / 256 / 256 / 256 / 256 / 256 = m / 1099511627776 := by omega
  have a4 : m / 256 / 256 / 256 / 256 = m / 4294967296 := by omega
  have a3 : m / 256 / 256 / 256 = m / 16777216 := by omega
  have a2 : m / 256 / 256 = m / 65536 := by omega
  rw [a7, a6, a5, a4, a3, a2, Int.ediv_one]
theorem nbs_len (m : Int) (j : Nat) : (nbs m j).length = j := by simp [nbs]
theorem vfold_nbs (m : Int) (h0 : 0 ≤ m) (h1 : m ≤ 4611686018427387904) : vfold (nbs m 8) = m := by
  rw [nbs8, vfold8 _ _ _ _ _ _ _ _ (by omega) (by omega) (by omega) (by omega) (by omega) (by omega) (by omega) (by omega)]
  omega
theorem seg_at (p q r : List Int) : ((p ++ q ++ r).take (p.length + q.length)).drop p.length = q := by
  rw [show p.length + q.length = (p ++ q).length by simp, List.take_left' rfl, List.drop_left' rfl]
theorem rd_at (p r : List Int) (x : Int) : rd (p ++ x :: r) (p.length : Int) = x := by
  unfold rd
  rw [Int.toNat_natCast, List.getD_eq_getElem?_getD]
  simp
theorem num_back (p q : List Int) (m : Int) (h0 : 0 ≤ m) (h1 : m ≤ 4611686018427387904) (hl : (p ++ nbs m 8 ++ q).length ≤ 100000) :
    fR_Num.f (p ++ nbs m 8 ++ q) (p.length : Int) 0 0 = some (m, ((p.length + 8 : Nat) : Int), 0, 0) := by
  have hlen : (p ++ nbs m 8 ++ q).length = p.length + 8 + q.length := by simp [nbs_len]; omega
  unfold fR_Num.f
  rw [show okR 0 0 = true from rfl, if_pos rfl, hlen]
  have e1 : wrap64 (((p.length + 8 + q.length : Nat) : Int) - (p.length : Int)) = 8 + (q.length : Int) := by unfold wrap64; omega
  rw [e1, if_neg (by omega), if_pos (by omega)]
  have e2 : ((p.length : Int) + 8).toNat = p.length + (nbs m 8).length := by rw [nbs_len]; omega
  rw [e2, Int.toNat_natCast, seg_at, vfold_nbs m h0 h1, if_neg (by omega)]
  have e3 : wrap64 m = m := by unfold wrap64; omega
  rw [e3]
  rfl
theorem text_back (p q : List Int) (s : ByteArray) (most : Int) (hs : (s.size : Int) ≤ most) (hl : (p ++ (nbs (clampN s.size) 8 ++ bytesOf s) ++ q).length ≤ 100000) :
    fR_Text.f (p ++ (nbs (clampN s.size) 8 ++ bytesOf s) ++ q) (p.length : Int) 0 0 most = some (s, ((p.length + 8 + s.size : Nat) : Int), 0, 0) := by
  have hbl : (bytesOf s).length = s.size := bytesOf_length s
  have hlen : (p ++ (nbs (clampN s.size) 8 ++ bytesOf s) ++ q).length = p.length + 8 + s.size + q.length := by simp [nbs_len, hbl]; omega
  rw [hlen] at hl
  have hc : clampN s.size = s.size := by
    unfold clampN mn mx
    rw [if_neg (by omega), if_neg (by omega)]
  have e0 : p ++ (nbs (clampN s.size) 8 ++ bytesOf s) ++ q = p ++ nbs (clampN s.size) 8 ++ (bytesOf s ++ q) := by simp
  have hn := num_back p (bytesOf s ++ q) (clampN s.size) (by omega) (by omega) (by rw [← e0, hlen]; omega)
  unfold fR_Text.f
  rw [e0, hn, bs_]
  dsimp only
  rw [← e0, hlen, show okR 0 0 = true from rfl, if_pos rfl, hc, if_neg (by omega)]
  have e1 : wrap64 (((p.length + 8 + s.size + q.length : Nat) : Int) - ((p.length + 8 : Nat) : Int)) = (s.size : Int) + q.length := by unfold wrap64; omega
  rw [e1, if_neg (by omega), if_pos (by omega)]
  have e2 : (((p.length + 8 : Nat) : Int) + (s.size : Int)).toNat = (p ++ nbs (s.size : Int) 8).length + (bytesOf s).length := by simp [nbs_len, hbl]; omega
  have e3 : (((p.length + 8 : Nat) : Int)).toNat = (p ++ nbs (s.size : Int) 8).length := by rw [Int.toNat_natCast]; simp [nbs_len]
  have e4 : p ++ (nbs (s.size : Int) 8 ++ bytesOf s) ++ q = (p ++ nbs (s.size : Int) 8) ++ bytesOf s ++ q := by simp
  rw [e2, e3, e4, seg_at, strOfNums_bytesOf]
  congr 2
theorem flag_back (p q : List Int) (y : Bool) (hl : (p ++ [flagB y] ++ q).length ≤ 100000) :
    fR_Flag.f (p ++ [flagB y] ++ q) (p.length : Int) 0 0 = some (y, ((p.length + 1 : Nat) : Int), 0, 0) := by
  have hlen : (p ++ [flagB y] ++ q).length = p.length + 1 + q.length := by simp; omega
  rw [hlen] at hl
  unfold fR_Flag.f
  rw [okR_f, bs_]
  dsimp only
  rw [show okR 0 0 = true from rfl, if_pos rfl, leftR_f, bs_]
  dsimp only
  have e1 : wrap64 (((p.length + 1 + q.length : Nat) : Int) - (p.length : Int)) = 1 + (q.length : Int) := by unfold wrap64; omega
  have e2 : wrap64 ((p.length : Int) + 1) = ((p.length + 1 : Nat) : Int) := by unfold wrap64; omega
  have e3 : wrap64 (((p.length + 1 : Nat) : Int) - 1) = (p.length : Int) := by unfold wrap64; omega
  have e4 : rd (p ++ [flagB y] ++ q) (p.length : Int) = flagB y := by
    rw [List.append_assoc]
    exact rd_at p q (flagB y)
  rw [hlen, e1, e2, e3, e4, if_neg (by omega), if_pos (by omega), if_pos (by omega), if_neg (by unfold flagB; split <;> omega), if_pos (by omega), if_pos (by omega)]
  cases y <;> rfl
end Go.Proofs.YtcgpbakimkhdpaaDoor.Q
