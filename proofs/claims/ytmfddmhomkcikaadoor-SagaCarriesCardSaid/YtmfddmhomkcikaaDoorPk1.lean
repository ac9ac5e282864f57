/- Part 1 of a claim's texts. -/
import Derived.Test.YtmfddmhomkcikaaDoorPk0
import Derived.WideShapes
import Derived.ProofKit
import Derived.Deep.Slices
import Derived.SizedLaws
import Derived.Test.YtmfddmhomkcikaaDoorProg
import Derived.Below
import Derived.Deep.Draws
import Derived.Deep.AppendLies
import Derived.Maps.AppendAt
import Derived.OwnWalk
import Derived.Laws.BytesArg
import Derived.Laws.MakeOwn
import Derived.Laws.OwnMore
import Derived.Deep.OwnRows
import Derived.Tactics
import Derived.Lib.ConvBytes
import Derived.Laws.Slices
import Derived.WalkKit
import Derived.KernelRfl
import Derived.RowKit3
import Derived.Deep.LoopGhost
import Derived.Deep.QuietTactic
import Derived.BigQuiet
import Derived.WideLaws
import Derived.Deep.DeepCutAuto
import Derived.Deep.CutBlock
import Derived.Deep.RegionHeld3
import Derived.Laws.Rows
import Derived.Lib.AppendStr
import Derived.ArgAppend
import Derived.Laws.IdiomCopy
import Derived.OrdersHeld
import Derived.Laws.BitsLemmas
import Derived.RowKit
import Derived.WalkMore
import Derived.Shelf.Strconv.Itoa0
import Derived.Shelf.Strconv.Itoa1
import Derived.Shelf.LaysM
import Derived.Shelf.Strconv.Itoa2
import Derived.Shelf.Strconv.Itoa3
import Derived.Shelf.Unicode.ValidAny
import Derived.Lib.MapLaws
import Derived.Lib.ValidLaws
import Derived.Lib.RuneCount
import Derived.Lib.RuneBytes
import Derived.Lib.TrimUEq
import Derived.Lib.TrimAscii
import Derived.BigCall
import Derived.Lib.OthersKept
import Derived.Lib.AppendIntMem
import Derived.Laws.RangeString
import Derived.Laws.RangeAny
namespace Go.Proofs.YtmfddmhomkcikaaDoor.Q.H_
open Go.RowKit Go.Proofs.YtmfddmhomkcikaaDoorW.PrintWords Go.Proofs.YtmfddmhomkcikaaDoorW.PrintLast Go.Proofs.YtmfddmhomkcikaaDoorW.PrintMore
abbrev ak_ := @Aside0.mk
def b_ (n k : Nat) : Array Bool := ((List.range n).map fun i => k.testBit i).toArray
abbrev bl_ := @World.block_lt_of_cell?
theorem mc_ {α β : Type} {f : α → β} {a : α} {l : List α} : (a :: l).map f = f a :: l.map f := rfl
theorem mn_ {α β : Type} {f : α → β} : ([] : List α).map f = [] := rfl
theorem mt_ {α β : Type} {f : α → β} {l : List α} : l.toArray.map f = (l.map f).toArray := List.map_toArray
abbrev pe := @below_drew1
abbrev pa := @below_alloc
abbrev pd := @pw_below_drewN
abbrev ps := @below_step
theorem sa_ {α : Type} {l : List α} {i : Nat} {a : α} : l.toArray.setIfInBounds i a = (l.set i a).toArray := List.setIfInBounds_toArray l i a
theorem ss_ {α : Type} {a b : α} {l : List α} {n : Nat} : (a :: l).set (n + 1) b = a :: l.set n b := rfl
theorem sz_ {α : Type} {a b : α} {l : List α} : (a :: l).set 0 b = b :: l := rfl
abbrev za := @blk_alloc
abbrev zc := @blk_cell
abbrev zd := @blk_drew
abbrev zf := @blk_frozen
abbrev zn := @blk_drewN
abbrev zp := @blk_put
abbrev zr := @blk_far
abbrev zs := @below_set
theorem dt_ {p : Prop} [Decidable p] (h : p) : decide p = true := decide_eq_true h
theorem df_ {p : Prop} [Decidable p] (h : ¬ p) : decide p = false := decide_eq_false h
theorem bs_ {α β : Type} (x : α) (f : α → Option β) : (some x).bind f = f x := rfl
theorem ob_ {α β : Type} {o : Option α} {f : α → Option β} {b : β} (h : o.bind f = some b) : ∃ a, o = some a ∧ f a = some b := Option.bind_eq_some_iff.mp h
end Go.Proofs.YtmfddmhomkcikaaDoor.Q.H_
section
namespace Go.Proofs.YtmfddmhomkcikaaDoor.Opn
set_option linter.unusedVariables false
open Go.RowKit Go.WideShapes Go.Deep Go.Proofs.YtmfddmhomkcikaaDoorW.PrintWords
def Light {H : Type} (P : Program) (t : TypeId) (d : DataW H) : Prop := ∀ n ∈ d.weights P t, n ≤ 140737488351232
theorem light_at {H : Type} {P : Program} {ts : List TypeId} {ds : List (DataW H)} (h : (DataW.weightsEach P ts ds).all (· ≤ reachBytes) = true) {j : Nat} {t : TypeId} {d : DataW H} (ht : ts[j]? = some t) (hd : ds[j]? = some d) : Light P t d := fun n hn => by
  have := List.all_eq_true.1 h n (DataW.weights_mem_each ht hd n hn)
  exact of_decide_eq_true this
theorem weightsAll_mem {H : Type} {P : Program} {e : TypeId} {n : Nat} : ∀ {l : List (DataW H)} {d : DataW H}, d ∈ l → n ∈ d.weights P e → n ∈ DataW.weightsAll P e l
  | a :: l, d, hd, hn => by
    simp only [DataW.weightsAll, List.mem_append]
    rcases List.mem_cons.1 hd with rfl | hd
    · exact .inl hn
    · exact .inr (weightsAll_mem hd hn)
theorem light_elem {H : Type} {P : Program} {t e : TypeId} {elems spare : List (DataW H)} (ht : P.underlying t = some (.slice e)) (h : Light P t (.slice elems spare)) {d : DataW H} (hd : d ∈ elems) : Light P e d := fun n hn => h n (by
  simp only [DataW.weights, ht, List.mem_cons, List.mem_append]
  exact .inr (.inl (weightsAll_mem hd hn)))
theorem light_field {H : Type} {P : Program} {t : TypeId} {fs : Array Field} {parts : List (DataW H)} (ht : P.underlying t = some (.struct fs)) (h : Light P t (.agg parts)) {i : Nat} {f : Field} {d : DataW H} (hf : fs[i]? = some f) (hd : parts[i]? = some d) : Light P f.type d := fun n hn => h n (by
  simp only [DataW.weights, ht]
  exact DataW.weights_mem_each (by rw [List.getElem?_map, Array.getElem?_toList, hf]; rfl) hd n hn)
structure Opens (P : Program) (t : TypeId) {α : Type} (d : Kd α) (ok : α → Prop) : Prop where
  sz : P.cellsOf t = d.sz
  go : ∀ {H : Type} {enc : TypeId × Value → H} {W : World} {spare : Nat → Bool} {held : Bool} {fuel : Nat} {cs : List Value} {y : DataW H × List MemPlace},
    DataW.trod enc P W 0 spare held fuel t cs = some y → Light P t y.1 → ∃ x : α, d.K W x cs ∧ ok x
section
variable {P : Program} {t e : TypeId}
theorem opens_int {k : IntKind} (hc : P.cellsOf t = 1) (ht : P.underlying t = some (.int k)) : Opens P t (Kd.int k) (fun x => (Lit.int k x).wf = true) :=
  ⟨hc, fun h _ => by
    obtain ⟨n, rfl, _, hw⟩ := DataW.trod_int ht h
    exact ⟨n, rfl, hw⟩⟩
theorem opens_string (hc : P.cellsOf t = 1) (ht : P.underlying t = some .string) : Opens P t Kd.string (fun x => x.size ≤ 140737488351232) :=
  ⟨hc, fun h hz => by
    obtain ⟨n, rfl, e, hw⟩ := DataW.trod_string ht h
    rw [e] at hz
    have := hz n.data.toList.length (by simp [DataW.weights])
    exact ⟨n, rfl, by simpa using this⟩⟩
theorem cells_get {w : World} {b : Nat} {a : Addr} {n : Nat} {cs : List Value} (h : w.cells? b a n = some cs) : cs.length = n ∧ ∀ i u, cs[i]? = some u → w.cell? (a.add i) = some u := by
  unfold World.cells? at h
  split at h
  · have hl := mapM_some_length h
    rw [List.length_range] at hl
    refine ⟨hl, fun i u hu => ?_⟩
    have hi : i < cs.length := (List.getElem?_eq_some_iff.1 hu).1
    have := mapM_some_get h i i (by rw [List.getElem?_range (by omega)])
    rw [this, hu]
  · cases h
theorem list_of {α : Type} {Q : Nat → α → Prop} : ∀ n : Nat, (∀ i, i < n → ∃ x, Q i x) → ∃ xs : List α, xs.length = n ∧ ∀ i x, xs[i]? = some x → Q i x
  | 0, _ => ⟨[], rfl, fun i x h => by simp at h⟩
  | n + 1, h => by
    obtain ⟨xs, hl, hq⟩ := list_of n (fun i hi => h i (by omega))
    obtain ⟨x, hx⟩ := h n (by omega)
    refine ⟨xs ++ [x], by simp [hl], fun i y hy => ?_⟩
    by_cases hi : i < n
    · rw [List.getElem?_append_left (by omega)] at hy
      exact hq i y hy
    · have hlt := (List.getElem?_eq_some_iff.1 hy).1
      rw [List.length_append, List.length_singleton] at hlt
      have : i = n := by omega
      subst this
      rw [List.getElem?_append_right (by omega), hl, Nat.sub_self] at hy
      simp at hy
      subst hy
      exact hx
theorem opens_row {α : Type} {d : Kd α} {ok : α → Prop} (he : Opens P e d ok) {H : Type} {enc : TypeId × Value → H} {W : World} {spare : Nat → Bool} {held : Bool} {fuel : Nat} {cs : List Value} {y : DataW H × List MemPlace}
    (ht : P.underlying t = some (.slice e)) (h : DataW.trod enc P W 0 spare held fuel t cs = some y) (hz : Light P t y.1) :
    ∃ (A : Option Addr) (c : Nat) (xs : List α), cs = [.slice A xs.length c] ∧ xs.length ≤ c ∧ c ≤ maxLen ∧ d.C W A xs.length xs ∧ ∀ x ∈ xs, ok x := by
  rcases open_slice ht h with ⟨rfl, _⟩ | ⟨a, len, cap, m, n, D, Pl, rfl, _, hl, hm, hmm, ey, hel⟩
  · exact ⟨none, 0, [], rfl, Nat.le_refl _, by unfold maxLen; omega, Kd.C_nil d W, by simp⟩
  · have hlm : len ≤ m := by rw [hmm]; split <;> omega
    obtain ⟨xs, hxl, hx⟩ := list_of (Q := fun i x => ∃ cs', W.cells? 0 (a.add (i * P.cellsOf e)) (P.cellsOf e) = some cs' ∧ d.K W x cs' ∧ ok x) len (fun i hi => by
      obtain ⟨cs', h1, h2⟩ := hel i (by omega)
      obtain ⟨x, h3, h4⟩ := he.go h2 (by rw [ey] at hz; exact light_elem ht hz (List.mem_map.2 ⟨i, List.mem_range.2 hi, rfl⟩))
      exact ⟨x, cs', h1, h3, h4⟩)
    subst hxl
    refine ⟨some a, cap, xs, rfl, hl, hm, ⟨rfl, by unfold maxLen at hm; omega, fun _ => ⟨a, rfl, fun j p hj => ?_⟩⟩, fun x hxm => ?_⟩
    · obtain ⟨cs', h1, h3, _⟩ := hx j p hj
      obtain ⟨g1, g2⟩ := cells_get h1
      refine ⟨cs', by rw [g1, he.sz], h3, fun i u hu => ?_⟩
      have := g2 i u hu
      rw [he.sz] at this
      rwa [Addr.add_add] at this
    · obtain ⟨j, hj⟩ := List.getElem?_of_mem hxm
      obtain ⟨_, _, _, h4⟩ := hx j x hj
      exact h4
theorem opens_slice {α : Type} {d : Kd α} {ok : α → Prop} (hc : P.cellsOf t = 1) (he : Opens P e d ok) (ht : P.underlying t = some (.slice e)) : Opens P t (Kd.slice e d) (fun xs => xs.length ≤ maxLen ∧ ∀ x ∈ xs, ok x) :=
  ⟨hc, fun h hz => by
    obtain ⟨A, c, xs, rfl, h1, h2, h3, h4⟩ := opens_row he ht h hz
    exact ⟨xs, ⟨A, c, rfl, h1, h3⟩, by omega, h4⟩⟩
structure OpensF (P : Program) (fs : List Field) (k : Nat) {α : Type} (d : Kd α) (ok : α → Prop) : Prop where
  go : ∀ {H : Type} {enc : TypeId × Value → H} {W : World} {spare : Nat → Bool} {held : Bool} {fuel : Nat} {cs : List Value},
    cs.length = k + d.sz → (∀ f ∈ fs, ∃ y : DataW H × List MemPlace, DataW.trod enc P W 0 spare held fuel f.type ((cs.drop f.offset).take (P.cellsOf f.type)) = some y ∧ Light P f.type y.1) → ∃ x : α, d.K W x (cs.drop k) ∧ ok x
theorem opensF_one {α : Type} {d : Kd α} {ok : α → Prop} {f : Field} {k : Nat} (hf : f.offset = k) (h : Opens P f.type d ok) : OpensF P [f] k d ok :=
  ⟨fun {H enc W spare held fuel cs} hl hall => by
    obtain ⟨y, hy, hz⟩ := hall f (by simp)
    rw [hf, h.sz, List.take_of_length_le (by rw [List.length_drop]; omega)] at hy
    exact h.go hy hz⟩
theorem opensF_cons {α β : Type} {a : Kd α} {b : Kd β} {oka : α → Prop} {okb : β → Prop} {f : Field} {fs : List Field} {k : Nat} (hf : f.offset = k) (h : Opens P f.type a oka) (hs : OpensF P fs (k + a.sz) b okb) :
    OpensF P (f :: fs) k (Kd.pair a b) (fun x => oka x.1 ∧ okb x.2) :=
  ⟨fun {H enc W spare held fuel cs} hl hall => by
    have hl' : cs.length = k + (a.sz + b.sz) := hl
    obtain ⟨y, hy, hz⟩ := hall f (by simp)
    rw [hf, h.sz] at hy
    obtain ⟨x, hx, ox⟩ := h.go hy hz
    obtain ⟨x2, hx2, ox2⟩ := hs.go (cs := cs) (by omega) (fun g hg => hall g (by simp [hg]))
    refine ⟨(x, x2), ⟨_, _, ?_, hx, hx2⟩, ox, ox2⟩
    have e : cs.drop (k + a.sz) = (cs.drop k).drop a.sz := by rw [List.drop_drop]
    rw [e, List.take_append_drop]⟩
theorem opens_struct {α β : Type} {d : Kd α} {ok : α → Prop} {fs : Array Field} (f : β → α) (g : α → β) (hfg : ∀ x, f (g x) = x) (hc : P.cellsOf t = d.sz) (ht : P.underlying t = some (.struct fs)) (h : OpensF P fs.toList 0 d ok) :
    Opens P t (Kd.iso d f) (fun x => ok (f x)) :=
  ⟨hc, fun {H enc W spare held fuel cs y} hy hz => by
    obtain ⟨xs, n, _, ey, hlen, hxl, hx⟩ := DataW.trod_struct ht hy
    obtain ⟨x, h1, h2⟩ := h.go (enc := enc) (W := W) (spare := spare) (held := held) (fuel := n) (cs := cs) (by omega) (fun fd hfd => by
      obtain ⟨i, hi⟩ := List.getElem?_of_mem hfd
      have hi' : fs[i]? = some fd := by simpa using hi
      have hlt : i < xs.length := by rw [hxl]; exact (Array.getElem?_eq_some_iff.1 hi').1
      exact ⟨xs[i], by rw [hx i fd hi', List.getElem?_eq_getElem hlt], by rw [ey] at hz; exact light_field ht hz hi' (by rw [List.getElem?_map, List.getElem?_eq_getElem hlt]; rfl)⟩)
    exact ⟨g x, by show d.K W (f (g x)) cs; rw [hfg]; exact h1, by show ok (f (g x)); rw [hfg]; exact h2⟩⟩
end
end Go.Proofs.YtmfddmhomkcikaaDoor.Opn
end
namespace Go.Proofs.YtmfddmhomkcikaaDoor.Q
open Go.RowKit Go.Proofs.YtmfddmhomkcikaaDoorW.PrintWords Go.Proofs.YtmfddmhomkcikaaDoorW.PrintLast Go.Proofs.YtmfddmhomkcikaaDoorW.PrintMore
attribute [local go_sem] max2_int min2_int max_two min_two max_three min_three max_four min_four
set_option linter.unusedVariables false
set_option linter.unusedSimpArgs false
set_option maxHeartbeats 8000000
set_option maxRecDepth 100000
open Go.Proofs.YtmfddmhomkcikaaDoor.Q.H_
def errW : Option Int → Value
 | none => .nilIface
 | some c => .iface 0 (.int .i64 c)
theorem errW_none : errW none = .nilIface := rfl
theorem errW_some (c : Int) : errW (some c) = .iface 0 (.int .i64 c) := rfl
structure S54 where
 f0 : Int
 f1 : Int
 f2 : Int
 f3 : Int
def z54 : S54 := ⟨(0 : Int), (0 : Int), (0 : Int), (0 : Int)⟩
def k54 : Kd S54 := Kd.iso (Kd.pair (Kd.int .i64) (Kd.pair (Kd.int .i64) (Kd.pair (Kd.int .i64) (Kd.int .i64)))) (fun x : S54 => (x.f0, x.f1, x.f2, x.f3))
theorem k54_open {w : World} {x : S54} {cs : List Value} (h : k54.K w x cs) : cs = [.int .i64 x.f0, .int .i64 x.f1, .int .i64 x.f2, .int .i64 x.f3] := by
 obtain ⟨_, _, rfl, rfl, ⟨_, _, rfl, rfl, ⟨_, _, rfl, rfl, rfl⟩⟩⟩ := h
 exact rfl
theorem k54_mkM (w : World) (base : Nat) (ok : Nat → Prop) (x : S54)  : k54.M w base ok x [.int .i64 x.f0, .int .i64 x.f1, .int .i64 x.f2, .int .i64 x.f3] := ⟨[.int .i64 x.f0], [.int .i64 x.f1, .int .i64 x.f2, .int .i64 x.f3], rfl, rfl, ⟨[.int .i64 x.f1], [.int .i64 x.f2, .int .i64 x.f3], rfl, rfl, ⟨[.int .i64 x.f2], [.int .i64 x.f3], rfl, rfl, rfl⟩⟩⟩
def rd_T54 (xs : List S54) (i : Int) : S54 := xs.getD i.toNat z54
structure S70 where
 f0 : ByteArray
 f1 : ByteArray
 f2 : Int
 f3 : S54
 f4 : S54
 f5 : Int
def z70 : S70 := ⟨(⟨#[]⟩ : ByteArray), (⟨#[]⟩ : ByteArray), (0 : Int), z54, z54, (0 : Int)⟩
def k70 : Kd S70 := Kd.iso (Kd.pair Kd.string (Kd.pair Kd.string (Kd.pair (Kd.int .i64) (Kd.pair k54 (Kd.pair k54 (Kd.int .i64)))))) (fun x : S70 => (x.f0, x.f1, x.f2, x.f3, x.f4, x.f5))
theorem k70_open {w : World} {x : S70} {cs : List Value} (h : k70.K w x cs) : cs = [.string x.f0, .string x.f1, .int .i64 x.f2, .int .i64 x.f3.f0, .int .i64 x.f3.f1, .int .i64 x.f3.f2, .int .i64 x.f3.f3, .int .i64 x.f4.f0, .int .i64 x.f4.f1, .int .i64 x.f4.f2, .int .i64 x.f4.f3, .int .i64 x.f5] := by
 obtain ⟨_, _, rfl, rfl, ⟨_, _, rfl, rfl, ⟨_, _, rfl, rfl, ⟨_, _, rfl, s3, ⟨_, _, rfl, s7, rfl⟩⟩⟩⟩⟩ := h
 obtain rfl := k54_open s3
 obtain rfl := k54_open s7
 exact rfl
theorem k70_mkM (w : World) (base : Nat) (ok : Nat → Prop) (x : S70)  : k70.M w base ok x [.string x.f0, .string x.f1, .int .i64 x.f2, .int .i64 x.f3.f0, .int .i64 x.f3.f1, .int .i64 x.f3.f2, .int .i64 x.f3.f3, .int .i64 x.f4.f0, .int .i64 x.f4.f1, .int .i64 x.f4.f2, .int .i64 x.f4.f3, .int .i64 x.f5] := ⟨[.string x.f0], [.string x.f1, .int .i64 x.f2, .int .i64 x.f3.f0, .int .i64 x.f3.f1, .int .i64 x.f3.f2, .int .i64 x.f3.f3, .int .i64 x.f4.f0, .int .i64 x.f4.f1, .int .i64 x.f4.f2, .int .i64 x.f4.f3, .int .i64 x.f5], rfl, rfl, ⟨[.string x.f1], [.int .i64 x.f2, .int .i64 x.f3.f0, .int .i64 x.f3.f1, .int .i64 x.f3.f2, .int .i64 x.f3.f3, .int .i64 x.f4.f0, .int .i64 x.f4.f1, .int .i64 x.f4.f2, .int .i64 x.f4.f3, .int .i64 x.f5], rfl, rfl, ⟨[.int .i64 x.f2], [.int .i64 x.f3.f0, .int .i64 x.f3.f1, .int .i64 x.f3.f2, .int .i64 x.f3.f3, .int .i64 x.f4.f0, .int .i64 x.f4.f1, .int .i64 x.f4.f2, .int .i64 x.f4.f3, .int .i64 x.f5], rfl, rfl, ⟨[.int .i64 x.f3.f0, .int .i64 x.f3.f1, .int .i64 x.f3.f2, .int .i64 x.f3.f3], [.int .i64 x.f4.f0, .int .i64 x.f4.f1, .int .i64 x.f4.f2, .int .i64 x.f4.f3, .int .i64 x.f5], rfl, (k54_mkM w base ok x.f3 ), ⟨[.int .i64 x.f4.f0, .int .i64 x.f4.f1, .int .i64 x.f4.f2, .int .i64 x.f4.f3], [.int .i64 x.f5], rfl, (k54_mkM w base ok x.f4 ), rfl⟩⟩⟩⟩⟩
def rd_T70 (xs : List S70) (i : Int) : S70 := xs.getD i.toNat z70
theorem at_T70 {w : World} {A : Option Addr} {n : Nat} {xs : List S70} (h : Kd.C k70 w A n xs) (i : Int) (h0 : 0 ≤ i) (h1 : i < n) : ∃ ad , A = some ad ∧ w.cell? (ad.add (i.toNat * 12)) = some (.string (rd_T70 xs i).f0) ∧ w.cell? ⟨(ad.add (i.toNat * 12)).block, (ad.add (i.toNat * 12)).off + 1, none⟩ = some (.string (rd_T70 xs i).f1) ∧ w.cell? ⟨(ad.add (i.toNat * 12)).block, (ad.add (i.toNat * 12)).off + 2, none⟩ = some (.int .i64 (rd_T70 xs i).f2) ∧ w.cell? ⟨(ad.add (i.toNat * 12)).block, (ad.add (i.toNat * 12)).off + 3, none⟩ = some (.int .i64 (rd_T70 xs i).f3.f0) ∧ w.cell? ⟨(ad.add (i.toNat * 12)).block, (ad.add (i.toNat * 12)).off + 4, none⟩ = some (.int .i64 (rd_T70 xs i).f3.f1) ∧ w.cell? ⟨(ad.add (i.toNat * 12)).block, (ad.add (i.toNat * 12)).off + 5, none⟩ = some (.int .i64 (rd_T70 xs i).f3.f2) ∧ w.cell? ⟨(ad.add (i.toNat * 12)).block, (ad.add (i.toNat * 12)).off + 6, none⟩ = some (.int .i64 (rd_T70 xs i).f3.f3) ∧ w.cell? ⟨(ad.add (i.toNat * 12)).block, (ad.add (i.toNat * 12)).off + 7, none⟩ = some (.int .i64 (rd_T70 xs i).f4.f0) ∧ w.cell? ⟨(ad.add (i.toNat * 12)).block, (ad.add (i.toNat * 12)).off + 8, none⟩ = some (.int .i64 (rd_T70 xs i).f4.f1) ∧ w.cell? ⟨(ad.add (i.toNat * 12)).block, (ad.add (i.toNat * 12)).off + 9, none⟩ = some (.int .i64 (rd_T70 xs i).f4.f2) ∧ w.cell? ⟨(ad.add (i.toNat * 12)).block, (ad.add (i.toNat * 12)).off + 10, none⟩ = some (.int .i64 (rd_T70 xs i).f4.f3) ∧ w.cell? ⟨(ad.add (i.toNat * 12)).block, (ad.add (i.toNat * 12)).off + 11, none⟩ = some (.int .i64 (rd_T70 xs i).f5) := by
 obtain ⟨ad, c, e, _, hK, hc0⟩ := Kd.C_get h z70 i h0 h1
 have hc : ∀ j u, c[j]? = some u → w.cell? (ad.add (i.toNat * 12 + j)) = some u := hc0
 obtain rfl := k70_open hK
 exact ⟨ad, e, hc 0 _ rfl, by rw [← add_field _ _ 1 (by omega)]; exact hc 1 _ rfl, by rw [← add_field _ _ 2 (by omega)]; exact hc 2 _ rfl, by rw [← add_field _ _ 3 (by omega)]; exact hc 3 _ rfl, by rw [← add_field _ _ 4 (by omega)]; exact hc 4 _ rfl, by rw [← add_field _ _ 5 (by omega)]; exact hc 5 _ rfl, by rw [← add_field _ _ 6 (by omega)]; exact hc 6 _ rfl, by rw [← add_field _ _ 7 (by omega)]; exact hc 7 _ rfl, by rw [← add_field _ _ 8 (by omega)]; exact hc 8 _ rfl, by rw [← add_field _ _ 9 (by omega)]; exact hc 9 _ rfl, by rw [← add_field _ _ 10 (by omega)]; exact hc 10 _ rfl, by rw [← add_field _ _ 11 (by omega)]; exact hc 11 _ rfl⟩
structure S41 where
 f0 : Int
 f1 : Int
 f2 : Bool
 f3 : Int
 f4 : Bool
def z41 : S41 := ⟨(0 : Int), (0 : Int), false, (0 : Int), false⟩
def k41 : Kd S41 := Kd.iso (Kd.pair (Kd.int .i64) (Kd.pair (Kd.int .i64) (Kd.pair Kd.bool (Kd.pair (Kd.int .i64) Kd.bool)))) (fun x : S41 => (x.f0, x.f1, x.f2, x.f3, x.f4))
def rd_T41 (xs : List S41) (i : Int) : S41 := xs.getD i.toNat z41
structure S48 where
 f0 : Int
 f1 : Int
 f2 : S41
def z48 : S48 := ⟨(0 : Int), (0 : Int), z41⟩
def k48 : Kd S48 := Kd.iso (Kd.pair (Kd.int .i64) (Kd.pair (Kd.int .i64) k41)) (fun x : S48 => (x.f0, x.f1, x.f2))
def rd_T48 (xs : List S48) (i : Int) : S48 := xs.getD i.toNat z48
end Go.Proofs.YtmfddmhomkcikaaDoor.Q
section
namespace Go.Proofs
open Go.Shelf
def Tryd.laysM171_ren : Go.Shelf.Ren := ⟨fun | 171 => 69 | 243 => 80 | 246 => 90 | 283 => 93 | 284 => 94 | 285 => 95 | 286 => 96 | 129 => 98 | 317 => 97 | 318 => 99 | 319 => 100 | 320 => 101 | 337 => 102 | 338 => 103 | n => n, fun | 3 => 3 | 9 => 9 | 2 => 2 | 4 => 4 | 171 => 105 | 0 => 0 | 53 => 106 | 37 => 94 | 5 => 5 | 173 => 109 | 212 => 112 | 51 => 25 | 20 => 20 | 213 => 113 | 46 => 103 | 232 => 116 | 233 => 117 | n => n, fun | 17 => 2 | 18 => 3 | 19 => 4 | n => n⟩
theorem Tryd.laysM171 : Go.Proofs.LaysM.n171 Tryd.prog Tryd.laysM171_ren := {
 mixed := by kernel_rfl
 f129 := Tryd.func98.trans (congrArg some (by kernel_rfl))
 f171 := Tryd.func69.trans (congrArg some (by kernel_rfl))
 f243 := Tryd.func80.trans (congrArg some (by kernel_rfl))
 f246 := Tryd.func90.trans (congrArg some (by kernel_rfl))
 f283 := Tryd.func93.trans (congrArg some (by kernel_rfl))
 f284 := Tryd.func94.trans (congrArg some (by kernel_rfl))
 f285 := Tryd.func95.trans (congrArg some (by kernel_rfl))
 f286 := Tryd.func96.trans (congrArg some (by kernel_rfl))
 f317 := Tryd.func97.trans (congrArg some (by kernel_rfl))
 f318 := Tryd.func99.trans (congrArg some (by kernel_rfl))
 f319 := Tryd.func100.trans (congrArg some (by kernel_rfl))
 f320 := Tryd.func101.trans (congrArg some (by kernel_rfl))
 f337 := Tryd.func102.trans (congrArg some (by kernel_rfl))
 f338 := Tryd.func103.trans (congrArg some (by kernel_rfl))
 t0 := Tryd.underlying0
 a0 := Tryd.isAgg0
 z0 := Tryd.sizeOf0
 v0 := Tryd.zeroValue0
 t2 := Tryd.underlying2
 a2 := Tryd.isAgg2
 z2 := Tryd.sizeOf2
 v2 := Tryd.zeroValue2
 t3 := Tryd.underlying3
 a3 := Tryd.isAgg3
 z3 := Tryd.sizeOf3
 v3 := Tryd.zeroValue3
 t4 := Tryd.underlying4
 a4 := Tryd.isAgg4
 z4 := Tryd.sizeOf4
 v4 := Tryd.zeroValue4
 t5 := Tryd.underlying5
 a5 := Tryd.isAgg5
 z5 := Tryd.sizeOf5
 v5 := Tryd.zeroValue5
 t9 := Tryd.underlying9
 a9 := Tryd.isAgg9
 z9 := Tryd.sizeOf9
 v9 := Tryd.zeroValue9
 t20 := Tryd.underlying20
 a20 := Tryd.isAgg20
 z20 := Tryd.sizeOf20
 v20 := Tryd.zeroValue20
 t37 := Tryd.underlying94
 a37 := Tryd.isAgg94
 z37 := Tryd.sizeOf94
 v37 := Tryd.zeroValue94
 t46 := Tryd.underlying103
 a46 := Tryd.isAgg103
 z46 := Tryd.sizeOf103
 v46 := Tryd.zeroValue103
 t51 := Tryd.underlying25
 a51 := Tryd.isAgg25
 z51 := Tryd.sizeOf25
 v51 := Tryd.zeroValue25
 t53 := Tryd.underlying106
 a53 := Tryd.isAgg106
 z53 := Tryd.sizeOf106
 v53 := Tryd.zeroValue106
 t171 := Tryd.underlying105
 a171 := Tryd.isAgg105
 z171 := Tryd.sizeOf105
 v171 := Tryd.zeroValue105
 t173 := Tryd.underlying109
 a173 := Tryd.isAgg109
 z173 := Tryd.sizeOf109
 v173 := Tryd.zeroValue109
 t212 := Tryd.underlying112
 a212 := Tryd.isAgg112
 z212 := Tryd.sizeOf112
 v212 := Tryd.zeroValue112
 t213 := Tryd.underlying113
 a213 := Tryd.isAgg113
 z213 := Tryd.sizeOf113
 t232 := Tryd.underlying116
 a232 := Tryd.isAgg116
 z232 := Tryd.sizeOf116
 v232 := Tryd.zeroValue116
 t233 := Tryd.underlying117
 a233 := Tryd.isAgg117
 z233 := Tryd.sizeOf117
 v233 := Tryd.zeroValue117
 g17 := by kernel_rfl
 g18 := by kernel_rfl
 g19 := by kernel_rfl
 i0 := by kernel_rfl
 i2 := by kernel_rfl
 i3 := by kernel_rfl
 i4 := by kernel_rfl
 i5 := by kernel_rfl
 i9 := by kernel_rfl
 i20 := by kernel_rfl
 i37 := by kernel_rfl
 i46 := by kernel_rfl
 i51 := by kernel_rfl
 i53 := by kernel_rfl
 i171 := by kernel_rfl
 i173 := by kernel_rfl
 i212 := by kernel_rfl
 i232 := by kernel_rfl
 i233 := by kernel_rfl
 m17 := by kernel_rfl
 m18 := by kernel_rfl
 m19 := by kernel_rfl }
open Go.RowKit Go.Sort Go.Lib in
theorem Tryd.strconv_Itoa (n : Int) (h0 : -9223372036854775808 ≤ n) (h1 : n ≤ 9223372036854775807) (w : World) (htab : Lib.TabIs Tryd.prog w "internal/strconv.uint64pow10" .u64 Lib.pow10Tab) :
 Calls Tryd.prog 69 #[.int .i64 n] w fun e w' => e = .returned (.string ⟨(Lib.itoa n).toArray⟩) ∧ ∃ k os, w' = grow (w.drewN k) os := Any.strconv_Itoa Tryd.laysM171 n h0 h1 w htab
def Tryd.lays196_ren : Go.Shelf.Ren := ⟨fun | 196 => 83 | 259 => 91 | n => n, fun | 9 => 9 | 4 => 4 | 3 => 3 | 5 => 5 | 12 => 12 | 119 => 99 | 0 => 0 | 46 => 103 | 139 => 102 | 138 => 101 | 53 => 106 | 20 => 20 | n => n, fun | 3 => 0 | 4 => 1 | n => n⟩
theorem Tryd.lays196 : Go.Proofs.Lays.n196 Tryd.prog Tryd.lays196_ren := {
 mixed := by kernel_rfl
 f196 := Tryd.func83.trans (congrArg some (by kernel_rfl))
 f259 := Tryd.func91.trans (congrArg some (by kernel_rfl))
 t0 := Tryd.underlying0
 a0 := Tryd.isAgg0
 z0 := Tryd.sizeOf0
 v0 := Tryd.zeroValue0
 t3 := Tryd.underlying3
 a3 := Tryd.isAgg3
 z3 := Tryd.sizeOf3
 v3 := Tryd.zeroValue3
 t4 := Tryd.underlying4
 a4 := Tryd.isAgg4
 z4 := Tryd.sizeOf4
 v4 := Tryd.zeroValue4
 t5 := Tryd.underlying5
 a5 := Tryd.isAgg5
 z5 := Tryd.sizeOf5
 v5 := Tryd.zeroValue5
 t9 := Tryd.underlying9
 a9 := Tryd.isAgg9
 z9 := Tryd.sizeOf9
 v9 := Tryd.zeroValue9
 t12 := Tryd.underlying12
 a12 := Tryd.isAgg12
 z12 := Tryd.sizeOf12
 v12 := Tryd.zeroValue12
 t46 := Tryd.underlying103
 a46 := Tryd.isAgg103
 z46 := Tryd.sizeOf103
 v46 := Tryd.zeroValue103
 t53 := Tryd.underlying106
 a53 := Tryd.isAgg106
 z53 := Tryd.sizeOf106
 v53 := Tryd.zeroValue106
 t119 := Tryd.underlying99
 a119 := Tryd.isAgg99
 z119 := Tryd.sizeOf99
 t138 := Tryd.underlying101
 a138 := Tryd.isAgg101
 z138 := Tryd.sizeOf101
 v138 := Tryd.zeroValue101
 t139 := Tryd.underlying102
 a139 := Tryd.isAgg102
 z139 := Tryd.sizeOf102
 v139 := Tryd.zeroValue102
 g3 := by kernel_rfl
 g4 := by kernel_rfl }
end Go.Proofs
end
section
namespace Go.Proofs.YtmfddmhomkcikaaDoor.Utf
open Go.Lib
set_option linter.unusedVariables false
set_option linter.unusedSimpArgs false
def letterP (c : Int) : Bool := decide ((97 ≤ c ∧ c ≤ 122) ∨ (65 ≤ c ∧ c ≤ 90) ∨ 128 ≤ c)
def mayP (c : Int) : Bool := decide ((97 ≤ c ∧ c ≤ 122) ∨ (65 ≤ c ∧ c ≤ 90) ∨ 128 ≤ c ∨ (48 ≤ c ∧ c ≤ 57) ∨ c = 45 ∨ c = 95)
def Bad (l : List UInt8) : Prop := (decodeL l).1 = 65533 ∧ (decodeL l).2 = 1
instance (l : List UInt8) : Decidable (Bad l) := inferInstanceAs (Decidable (_ ∧ _))
def first (l : List UInt8) : Option Nat := if Bad l then none else some (decodeL l).1
def runesGo : Nat → List UInt8 → List (Option Nat)
  | 0, _ => []
  | n + 1, l => if l = [] then [] else first l :: runesGo n (l.drop (decodeL l).2)
def runes (l : List UInt8) : List (Option Nat) := runesGo l.length l
theorem runesGo_nil : ∀ n, runesGo n [] = []
  | 0 => rfl
  | n + 1 => by simp [runesGo]
theorem runesGo_fuel : ∀ (n m : Nat) (l : List UInt8), l.length ≤ n → l.length ≤ m → runesGo n l = runesGo m l
  | 0, m, l, h, _ => by
    have : l = [] := List.eq_nil_of_length_eq_zero (by omega)
    subst this
    rw [runesGo_nil, runesGo_nil]
  | n + 1, 0, l, _, h => by
    have : l = [] := List.eq_nil_of_length_eq_zero (by omega)
    subst this
    rw [runesGo_nil, runesGo_nil]
  | n + 1, m + 1, l, h, h' => by
    unfold runesGo
    by_cases hne : l = []
    · simp [hne]
    · have hw := decodeL_width l
      have hl : 0 < l.length := List.length_pos_iff.2 hne
      rw [if_neg hne, if_neg hne, runesGo_fuel n m (l.drop (decodeL l).2) (by rw [List.length_drop]; omega) (by rw [List.length_drop]; omega)]
theorem runes_step (l : List UInt8) (hne : l ≠ []) : runes l = first l :: runes (l.drop (decodeL l).2) := by
  have hw := decodeL_width l
  have hl : 0 < l.length := List.length_pos_iff.2 hne
  obtain ⟨n, hn⟩ : ∃ n, l.length = n + 1 := ⟨l.length - 1, by omega⟩
  unfold runes
  rw [hn]
  show (if l = [] then [] else _) = _
  rw [if_neg hne, runesGo_fuel n (l.drop (decodeL l).2).length _ (by rw [List.length_drop]; omega) (Nat.le_refl _)]
theorem runes_ind {p : List UInt8 → Prop} (h0 : p []) (h1 : ∀ l, l ≠ [] → p (l.drop (decodeL l).2) → p l) : ∀ l, p l := by
  have : ∀ n l, l.length ≤ n → p l := by
    intro n
    induction n with
    | zero => intro l hl; rw [List.eq_nil_of_length_eq_zero (by omega : l.length = 0)]; exact h0
    | succ n ih =>
      intro l hl
      by_cases hne : l = []
      · rw [hne]; exact h0
      · have hw := decodeL_width l
        have hp : 0 < l.length := List.length_pos_iff.2 hne
        exact h1 l hne (ih _ (by rw [List.length_drop]; omega))
  exact fun l => this l.length l (Nat.le_refl _)
theorem validD_runes (l : List UInt8) : validD l = (runes l).all Option.isSome := by
  refine runes_ind (p := fun l => validD l = (runes l).all Option.isSome) rfl ?_ l
  intro l hne ih
  rw [validD_step l hne, runes_step l hne]
  by_cases hb : Bad l
  · rw [if_pos (show (decodeL l).1 = 65533 ∧ (decodeL l).2 = 1 from hb)]
    simp [first, hb]
  · rw [if_neg (show ¬ ((decodeL l).1 = 65533 ∧ (decodeL l).2 = 1) from hb), ih]
    simp [first, hb]
def mo (o : Option Nat) : Nat := match o with
  | some c => if mayP c = true then c else 95
  | none => 95
def maskD (l : List UInt8) : List UInt8 := (runes l).flatMap fun o => encodeRune (mo o : Int)
def okRune (o : Option Nat) : Bool := match o with
  | some c => mayP c
  | none => false
def goodD (l : List UInt8) : Bool := (runes l).all okRune && (match (runes l).head? with
  | some (some c) => letterP c
  | _ => false) && decide ((runes l).length ≤ 64)
theorem all_ok_some (l : List UInt8) (h : (runes l).all okRune = true) : (runes l).all Option.isSome = true := by
  rw [List.all_eq_true] at h ⊢
  intro o ho
  have := h o ho
  cases o with
  | none => cases this
  | some c => rfl
theorem good_ok (l : List UInt8) (h : goodD l = true) : (runes l).all okRune = true := by
  unfold goodD at h
  rw [Bool.and_eq_true, Bool.and_eq_true] at h
  exact h.1.1
end Go.Proofs.YtmfddmhomkcikaaDoor.Utf
end
namespace Go.Proofs.YtmfddmhomkcikaaDoor.Q
open Go.RowKit Go.Proofs.YtmfddmhomkcikaaDoorW.PrintWords Go.Proofs.YtmfddmhomkcikaaDoorW.PrintLast Go.Proofs.YtmfddmhomkcikaaDoorW.PrintMore
attribute [local go_sem] max2_int min2_int max_two min_two max_three min_three max_four min_four
set_option linter.unusedVariables false
set_option linter.unusedSimpArgs false
set_option maxHeartbeats 8000000
set_option maxRecDepth 100000
open Go.Proofs.YtmfddmhomkcikaaDoor.Q.H_
def Tabs_ (w : World) : Prop := Lib.Utf8Tabs (Tryd.lays196_ren.g 3) (Tryd.lays196_ren.g 4) w ∧ Lib.TabIs Tryd.prog w "internal/strconv.uint64pow10" .u64 Lib.pow10Tab
theorem Tabs_.utf {w : World} (h : Tabs_ w) : Lib.Utf8Tabs (Tryd.lays196_ren.g 3) (Tryd.lays196_ren.g 4) w := h.1
theorem Tabs_.below {w W : World} (h : Tabs_ w) (hb : Below w.heap.size w W) : Tabs_ W := by
 obtain ⟨h, hm⟩ := h
 refine ⟨⟨fun c hc => ?_, fun i hi => ⟨?_, ?_⟩⟩, ?_⟩
 · have e := h.1 c hc
   rw [hb.cell (World.block_lt_of_cell? _ _ e)]
   exact e
 · have e := (h.2 i hi).1
   rw [hb.cell (World.block_lt_of_cell? _ _ e)]
   exact e
 · have e := (h.2 i hi).2
   rw [hb.cell (World.block_lt_of_cell? _ _ e)]
   exact e
 · exact Lib.tabBelow_of_tabIs hm W hb
theorem Tabs_.drew {w : World} (h : Tabs_ w) : Tabs_ w.drew := h
theorem Tabs_.drewN {w : World} (h : Tabs_ w) (n : Nat) : Tabs_ (w.drewN n) := h.below (pw_below_drewN (Below.refl _ _) n)
theorem Tabs_.alloc {w : World} (h : Tabs_ w) (o : Obj) : Tabs_ (w.alloc o) := h.below ((Below.refl _ _).alloc (Nat.le_refl _) o)
theorem drop_size (s : ByteArray) : s.data.toList.length = s.size := (Lib.size_eq s).symm
theorem runes_at (s : ByteArray) (pos : Nat) (h : pos < s.size) : Utf.runes (s.data.toList.drop pos) = Utf.first (s.data.toList.drop pos) :: Utf.runes (s.data.toList.drop (pos + (Utf8.decode s pos).2)) := by
 have hne : s.data.toList.drop pos ≠ [] := by
  intro e
  have := congrArg List.length e
  rw [List.length_drop, drop_size] at this
  simp at this
  omega
 rw [Utf.runes_step _ hne, Lib.decodeL_drop, List.drop_drop]
theorem runes_end (s : ByteArray) (pos : Nat) (h : ¬ pos < s.size) : Utf.runes (s.data.toList.drop pos) = [] := by
 rw [List.drop_eq_nil_of_le (by rw [drop_size]; omega)]
 rfl
theorem first_at (s : ByteArray) (pos : Nat) : Utf.first (s.data.toList.drop pos) = if (Utf8.decode s pos).1 = 65533 ∧ (Utf8.decode s pos).2 = 1 then none else some (Utf8.decode s pos).1 := by
 have e := Lib.decodeL_drop s pos
 unfold Utf.first
 by_cases hb : Utf.Bad (s.data.toList.drop pos)
 · rw [if_pos hb]
   unfold Utf.Bad at hb
   rw [e] at hb
   rw [if_pos hb]
 · rw [if_neg hb, e]
   unfold Utf.Bad at hb
   rw [e] at hb
   rw [if_neg hb]
def label_Runes.f (a0 : ByteArray) : Option (Int) := if a0.size < 9223372036854775807 then some ((Utf.runes a0.data.toList).length : Int) else none
theorem label_Runes.calls (a0 : ByteArray) (r : Int) (w : World) (h : label_Runes.f a0 = some r) :
 Calls Tryd.prog 84 #[.string a0] w fun e w' => e = .returned (.int .i64 r) ∧ Below w.heap.size w w' := by
 unfold label_Runes.f at h
 by_cases hs : a0.size < 9223372036854775807
 · rw [if_pos hs] at h
   obtain rfl := Option.some.inj h
   clear h
   go_enter Tryd.func84, Tryd.ntmps84
   go_wp2
   go_loopw [3] (fun n w' => ∃ (pos acc : Nat), w' = w.iter a0 pos ∧ n = .int .i64 acc ∧ acc + (Utf.runes (a0.data.toList.drop pos)).length = (Utf.runes a0.data.toList).length ∧ acc ≤ pos) (fun _ w' => a0.size - w'.iterPos w.heap.size)
   case atStart => exact ⟨0, 0, rfl, rfl, by simp, Nat.le_refl _⟩
   case round =>
    obtain ⟨pos, acc, rfl, rfl, hc, ha⟩ := hrel
    by_cases hp : pos < a0.size
    · have hnx : ∀ ty, (Instr.next (.pointer (some ⟨w.heap.size, 0, none⟩)) true ty).run Tryd.prog (w.iter a0 pos) = _ := fun ty => run_next_any w a0 pos ty hp
      have hwd := Lib.decode_width_pos a0 pos hp
      go_wp2
      go_roundw
      case rel =>
       refine ⟨pos + (Utf8.decode a0 pos).2, acc + 1, rfl, by go_num, ?_, by omega⟩
       rw [← hc, runes_at a0 pos hp]
       simp
       omega
      case measure =>
       simp
       omega
    · have hnx : ∀ ty, (Instr.next (.pointer (some ⟨w.heap.size, 0, none⟩)) true ty).run Tryd.prog (w.iter a0 pos) = _ := fun ty => run_next_end w a0 pos ty hp
      go_wp2
      go_ret
      rw [runes_end a0 pos hp, List.length_nil, Nat.add_zero] at hc
      subst hc
      exact ⟨rfl, below_alloc (Below.refl _ _) _⟩
 · rw [if_neg hs] at h
   cases h
def label_letter.f (a0 : Int) : Option (Bool) := if a0 ≥ 97 then (if a0 ≤ 122 then (some true) else (if a0 ≥ 65 then (if a0 ≤ 90 then (some true) else (some (decide (a0 ≥ 128)))) else (some (decide (a0 ≥ 128))))) else (if a0 ≥ 65 then (if a0 ≤ 90 then (some true) else (some (decide (a0 ≥ 128)))) else (some (decide (a0 ≥ 128))))
theorem label_letter.calls (a0 : Int) (r : Bool) (w : World) (h : label_letter.f a0 = some r) :
 Calls Tryd.prog 86 #[.int .i32 a0] w fun e w' => e = .returned (.bool r) ∧ Drawn0 w w' := by
 have H : (if a0 ≥ 97 then (if a0 ≤ 122 then (some true) else (if a0 ≥ 65 then (if a0 ≤ 90 then (some true) else (some (decide (a0 ≥ 128)))) else (some (decide (a0 ≥ 128))))) else (if a0 ≥ 65 then (if a0 ≤ 90 then (some true) else (some (decide (a0 ≥ 128)))) else (some (decide (a0 ≥ 128))))) = some r := h
 clear h
 by_cases c2 : a0 ≥ 97
 · rw [if_pos c2] at H
   have c2b0 : decide (97 ≤ a0) = true := dt_ c2
   clear c2
   by_cases c3 : a0 ≤ 122
   · rw [if_pos c3] at H
     have c3b0 : decide (a0 ≤ 122) = true := dt_ c3
     clear c3
     obtain rfl := Option.some.inj H
     go_enter Tryd.func86, Tryd.ntmps86
     go_wp2
     go_ret
     exact ⟨by first | rfl | simp [*], by repeat (first | exact Drawn0.refl _ | apply Drawn0.step)⟩
   · rw [if_neg c3] at H
     have c3b0 : decide (a0 ≤ 122) = false := df_ c3
     clear c3
     by_cases c4 : a0 ≥ 65
     · rw [if_pos c4] at H
       have c4b0 : decide (65 ≤ a0) = true := dt_ c4
       clear c4
       by_cases c5 : a0 ≤ 90
       · rw [if_pos c5] at H
         have c5b0 : decide (a0 ≤ 90) = true := dt_ c5
         clear c5
         obtain rfl := Option.some.inj H
         go_enter Tryd.func86, Tryd.ntmps86
         go_wp2
         go_ret
         exact ⟨by first | rfl | simp [*], by repeat (first | exact Drawn0.refl _ | apply Drawn0.step)⟩
       · rw [if_neg c5] at H
         have c5b0 : decide (a0 ≤ 90) = false := df_ c5
         clear c5
         obtain rfl := Option.some.inj H
         go_enter Tryd.func86, Tryd.ntmps86
         go_wp2
         go_ret
         exact ⟨by first | rfl | simp [*], by repeat (first | exact Drawn0.refl _ | apply Drawn0.step)⟩
     · rw [if_neg c4] at H
       have c4b0 : decide (65 ≤ a0) = false := df_ c4
       clear c4
       obtain rfl := Option.some.inj H
       go_enter Tryd.func86, Tryd.ntmps86
       go_wp2
       go_ret
       exact ⟨by first | rfl | simp [*], by repeat (first | exact Drawn0.refl _ | apply Drawn0.step)⟩
 · rw [if_neg c2] at H
   have c2b0 : decide (97 ≤ a0) = false := df_ c2
   clear c2
   by_cases c6 : a0 ≥ 65
   · rw [if_pos c6] at H
     have c6b0 : decide (65 ≤ a0) = true := dt_ c6
     clear c6
     by_cases c7 : a0 ≤ 90
     · rw [if_pos c7] at H
       have c7b0 : decide (a0 ≤ 90) = true := dt_ c7
       clear c7
       obtain rfl := Option.some.inj H
       go_enter Tryd.func86, Tryd.ntmps86
       go_wp2
       go_ret
       exact ⟨by first | rfl | simp [*], by repeat (first | exact Drawn0.refl _ | apply Drawn0.step)⟩
     · rw [if_neg c7] at H
       have c7b0 : decide (a0 ≤ 90) = false := df_ c7
       clear c7
       obtain rfl := Option.some.inj H
       go_enter Tryd.func86, Tryd.ntmps86
       go_wp2
       go_ret
       exact ⟨by first | rfl | simp [*], by repeat (first | exact Drawn0.refl _ | apply Drawn0.step)⟩
   · rw [if_neg c6] at H
     have c6b0 : decide (65 ≤ a0) = false := df_ c6
     clear c6
     obtain rfl := Option.some.inj H
     go_enter Tryd.func86, Tryd.ntmps86
     go_wp2
     go_ret
     exact ⟨by first | rfl | simp [*], by repeat (first | exact Drawn0.refl _ | apply Drawn0.step)⟩
def label_may.f (a0 : Int) : Option (Bool) := (label_letter.f a0).bind fun t112 => (if t112 = true then (some true) else (if a0 ≥ 48 then (if a0 ≤ 57 then (some true) else (if a0 = 45 then (some true) else (some (a0 == 95)))) else (if a0 = 45 then (some true) else (some (a0 == 95)))))
theorem label_may.calls (a0 : Int) (r : Bool) (w : World) (h : label_may.f a0 = some r) :
 Calls Tryd.prog 85 #[.int .i32 a0] w fun e w' => e = .returned (.bool r) ∧ Drawn0 w w' := by
 have H : ((label_letter.f a0).bind fun t112 => (if t112 = true then (some true) else (if a0 ≥ 48 then (if a0 ≤ 57 then (some true) else (if a0 = 45 then (some true) else (some (a0 == 95)))) else (if a0 = 45 then (some true) else (some (a0 == 95)))))) = some r := h
 clear h
 replace H := ob_ H
 obtain ⟨t112, A20, H⟩ := H
 replace H : (if t112 = true then (some true) else (if a0 ≥ 48 then (if a0 ≤ 57 then (some true) else (if a0 = 45 then (some true) else (some (a0 == 95)))) else (if a0 = 45 then (some true) else (some (a0 == 95))))) = some r := H
 have A2 := ak_ A20
 clear A20
 by_cases c3 : t112 = true
 · subst c3
   have H1 : (some true) = some r := by rw [if_pos rfl] at H; exact H
   clear H
   have H := H1
   clear H1
   obtain rfl := Option.some.inj H
   go_enter Tryd.func85, Tryd.ntmps85
   go_wp2_with (first | ((with_reducible refine gate_callee (f := 86) rfl ?_); refine goesL_ (some 4) rfl rfl Tryd.func86 (by kernel_rfl) rfl #[.int .i32 a0] rfl (by (try simp only [mt_, mc_, mn_]); first | done | rfl) ?_; (with_reducible refine (label_letter.calls a0 true _ A2.out).mono ?_); rintro e w' ⟨rfl, ⟨nd, rfl⟩⟩; refine ⟨_, rfl, ?_⟩))
   go_ret
   exact ⟨by first | rfl | simp [*], by repeat (first | exact Drawn0.refl _ | apply Drawn0.step)⟩
 · replace c3 := Bool.eq_false_iff.mpr c3
   subst c3
   have H1 : (if a0 ≥ 48 then (if a0 ≤ 57 then (some true) else (if a0 = 45 then (some true) else (some (a0 == 95)))) else (if a0 = 45 then (some true) else (some (a0 == 95)))) = some r := by rw [if_neg (show ¬ (false = true) by decide)] at H; exact H
   clear H
   have H := H1
   clear H1
   by_cases c4 : a0 ≥ 48
   · rw [if_pos c4] at H
     have c4b0 : decide (48 ≤ a0) = true := dt_ c4
     clear c4
     by_cases c5 : a0 ≤ 57
     · rw [if_pos c5] at H
       have c5b0 : decide (a0 ≤ 57) = true := dt_ c5
       clear c5
       obtain rfl := Option.some.inj H
       go_enter Tryd.func85, Tryd.ntmps85
       go_wp2_with (first | ((with_reducible refine gate_callee (f := 86) rfl ?_); refine goesL_ (some 4) rfl rfl Tryd.func86 (by kernel_rfl) rfl #[.int .i32 a0] rfl (by (try simp only [mt_, mc_, mn_]); first | done | rfl) ?_; (with_reducible refine (label_letter.calls a0 false _ A2.out).mono ?_); rintro e w' ⟨rfl, ⟨nd, rfl⟩⟩; refine ⟨_, rfl, ?_⟩))
       go_ret
       exact ⟨by first | rfl | simp [*], by repeat (first | exact Drawn0.refl _ | apply Drawn0.step)⟩
     · rw [if_neg c5] at H
       have c5b0 : decide (a0 ≤ 57) = false := df_ c5
       clear c5
       by_cases c6 : a0 = 45
       · rw [if_pos c6] at H
         have c6b0 : (a0 == 45) = true := beq_iff_eq.mpr c6
         have c6b1 : (a0 != 45) = false := bne_eq_false_iff_eq.mpr c6
         clear c6
         obtain rfl := Option.some.inj H
         go_enter Tryd.func85, Tryd.ntmps85
         go_wp2_with (first | ((with_reducible refine gate_callee (f := 86) rfl ?_); refine goesL_ (some 4) rfl rfl Tryd.func86 (by kernel_rfl) rfl #[.int .i32 a0] rfl (by (try simp only [mt_, mc_, mn_]); first | done | rfl) ?_; (with_reducible refine (label_letter.calls a0 false _ A2.out).mono ?_); rintro e w' ⟨rfl, ⟨nd, rfl⟩⟩; refine ⟨_, rfl, ?_⟩))
         go_ret
         exact ⟨by first | rfl | simp [*], by repeat (first | exact Drawn0.refl _ | apply Drawn0.step)⟩
       · rw [if_neg c6] at H
         have c6b0 : (a0 == 45) = false := beq_eq_false_iff_ne.mpr c6
         have c6b1 : (a0 != 45) = true := bne_iff_ne.mpr c6
         obtain rfl := Option.some.inj H
         go_enter Tryd.func85, Tryd.ntmps85
         go_wp2_with (first | ((with_reducible refine gate_callee (f := 86) rfl ?_); refine goesL_ (some 4) rfl rfl Tryd.func86 (by kernel_rfl) rfl #[.int .i32 a0] rfl (by (try simp only [mt_, mc_, mn_]); first | done | rfl) ?_; (with_reducible refine (label_letter.calls a0 false _ A2.out).mono ?_); rintro e w' ⟨rfl, ⟨nd, rfl⟩⟩; refine ⟨_, rfl, ?_⟩))
         go_ret
         exact ⟨by first | rfl | simp [*], by repeat (first | exact Drawn0.refl _ | apply Drawn0.step)⟩
   · rw [if_neg c4] at H
     have c4b0 : decide (48 ≤ a0) = false := df_ c4
     clear c4
     by_cases c7 : a0 = 45
     · rw [if_pos c7] at H
       have c7b0 : (a0 == 45) = true := beq_iff_eq.mpr c7
       have c7b1 : (a0 != 45) = false := bne_eq_false_iff_eq.mpr c7
       clear c7
       obtain rfl := Option.some.inj H
       go_enter Tryd.func85, Tryd.ntmps85
       go_wp2_with (first | ((with_reducible refine gate_callee (f := 86) rfl ?_); refine goesL_ (some 4) rfl rfl Tryd.func86 (by kernel_rfl) rfl #[.int .i32 a0] rfl (by (try simp only [mt_, mc_, mn_]); first | done | rfl) ?_; (with_reducible refine (label_letter.calls a0 false _ A2.out).mono ?_); rintro e w' ⟨rfl, ⟨nd, rfl⟩⟩; refine ⟨_, rfl, ?_⟩))
       go_ret
       exact ⟨by first | rfl | simp [*], by repeat (first | exact Drawn0.refl _ | apply Drawn0.step)⟩
     · rw [if_neg c7] at H
       have c7b0 : (a0 == 45) = false := beq_eq_false_iff_ne.mpr c7
       have c7b1 : (a0 != 45) = true := bne_iff_ne.mpr c7
       obtain rfl := Option.some.inj H
       go_enter Tryd.func85, Tryd.ntmps85
       go_wp2_with (first | ((with_reducible refine gate_callee (f := 86) rfl ?_); refine goesL_ (some 4) rfl rfl Tryd.func86 (by kernel_rfl) rfl #[.int .i32 a0] rfl (by (try simp only [mt_, mc_, mn_]); first | done | rfl) ?_; (with_reducible refine (label_letter.calls a0 false _ A2.out).mono ?_); rintro e w' ⟨rfl, ⟨nd, rfl⟩⟩; refine ⟨_, rfl, ?_⟩))
       go_ret
       exact ⟨by first | rfl | simp [*], by repeat (first | exact Drawn0.refl _ | apply Drawn0.step)⟩
theorem label_letter_f (c : Int) : label_letter.f c = some (Utf.letterP c) := by
 unfold label_letter.f Utf.letterP
 repeat' split
 all_goals (refine congrArg some ?_; rw [Bool.eq_iff_iff]; simp only [decide_eq_true_eq, true_iff, false_iff]; omega)
theorem label_may_f (c : Int) : label_may.f c = some (Utf.mayP c) := by
 unfold label_may.f
 rw [label_letter_f, bs_]
 unfold Utf.letterP Utf.mayP
 repeat' split
 all_goals (refine congrArg some ?_; rw [Bool.eq_iff_iff]; simp only [decide_eq_true_eq, beq_iff_eq, true_iff, false_iff] at *; omega)
def label_Good.f (a0 : ByteArray) : Option (Bool) := if a0.size < 9223372036854775807 then some (Utf.goodD a0.data.toList) else none
def GoodAt (s : ByteArray) (pos : Nat) : Prop :=
 (Utf.runes (s.data.toList.drop pos)).all Option.isSome = true ∧ (0 < pos → Utf.goodD s.data.toList = (Utf.runes (s.data.toList.drop pos)).all Utf.okRune)
theorem goodAt_zero {s : ByteArray} (hv : Lib.validD s.data.toList = true) : GoodAt s 0 := ⟨by rw [List.drop_zero, ← Utf.validD_runes]; exact hv, fun h => absurd h (Nat.lt_irrefl 0)⟩
theorem goodAt_rune {s : ByteArray} {pos : Nat} (h : GoodAt s pos) (hp : pos < s.size) : Utf.first (s.data.toList.drop pos) = some (Utf8.decode s pos).1 ∧ (Utf.runes (s.data.toList.drop (pos + (Utf8.decode s pos).2))).all Option.isSome = true := by
 have h1 := h.1
 rw [runes_at s pos hp, List.all_cons, Bool.and_eq_true] at h1
 refine ⟨?_, h1.2⟩
 have h2 := h1.1
 rw [first_at] at h2 ⊢
 split at h2
 · cases h2
 · rename_i hn
   rw [if_neg hn]
theorem goodAt_next {s : ByteArray} {pos : Nat} (h : GoodAt s pos) (hp : pos < s.size) (hl : (Utf.runes s.data.toList).length ≤ 64) (hm : Utf.mayP ((Utf8.decode s pos).1 : Int) = true) (h0 : pos = 0 → Utf.letterP ((Utf8.decode s pos).1 : Int) = true) : GoodAt s (pos + (Utf8.decode s pos).2) := by
 obtain ⟨hf, ha⟩ := goodAt_rune h hp
 refine ⟨ha, fun _ => ?_⟩
 by_cases hz : pos = 0
 · subst hz
   have e := runes_at s 0 hp
   rw [hf, List.drop_zero] at e
   unfold Utf.goodD
   rw [e, List.all_cons, show Utf.okRune (some (Utf8.decode s 0).1) = true from hm, ← e]
   rw [e] at hl
   rw [e]
   simp only [List.head?_cons, Bool.true_and]
   rw [h0 rfl, dt_ hl, Bool.and_true, Bool.and_true]
 · rw [h.2 (by omega), runes_at s pos hp, hf, List.all_cons, show Utf.okRune (some (Utf8.decode s pos).1) = true from hm, Bool.true_and]
theorem goodAt_end {s : ByteArray} {pos : Nat} (h : GoodAt s pos) (hp : ¬ pos < s.size) (h0 : 0 < s.size) : Utf.goodD s.data.toList = true := by
 rw [h.2 (by omega), runes_end s pos hp]
 rfl
theorem goodAt_bad {s : ByteArray} {pos : Nat} (h : GoodAt s pos) (hp : pos < s.size) (hb : Utf.mayP ((Utf8.decode s pos).1 : Int) = false ∨ (pos = 0 ∧ Utf.letterP ((Utf8.decode s pos).1 : Int) = false)) : Utf.goodD s.data.toList = false := by
 obtain ⟨hf, ha⟩ := goodAt_rune h hp
 by_cases hz : pos = 0
 · subst hz
   have e := runes_at s 0 hp
   rw [hf, List.drop_zero] at e
   unfold Utf.goodD
   rw [e, List.all_cons, List.head?_cons]
   rcases hb with hb | ⟨_, hb⟩
   · rw [show Utf.okRune (some (Utf8.decode s 0).1) = false from hb]
     simp
   · simp only [hb]
     simp
 · rcases hb with hb | ⟨hb, _⟩
   · rw [h.2 (by omega), runes_at s pos hp, hf, List.all_cons, show Utf.okRune (some (Utf8.decode s pos).1) = false from hb, Bool.false_and]
   · exact absurd hb hz
theorem iterPos_drewN (w : World) (n k : Nat) : (w.drewN n).iterPos k = w.iterPos k := rfl
theorem good_invalid {s : ByteArray} (h : Lib.validD s.data.toList = false) : Utf.goodD s.data.toList = false := by
 cases hg : Utf.goodD s.data.toList with
 | false => rfl
 | true =>
  have := Utf.all_ok_some _ (Utf.good_ok _ hg)
  rw [← Utf.validD_runes, h] at this
  cases this
theorem good_long {s : ByteArray} (h : 64 < (Utf.runes s.data.toList).length) : Utf.goodD s.data.toList = false := by
 unfold Utf.goodD
 rw [df_ (by omega), Bool.and_false]
theorem label_Good.calls (a0 : ByteArray) (r : Bool) (w : World) (hTab_ : Tabs_ w) (h : label_Good.f a0 = some r) :
 Calls Tryd.prog 75 #[.string a0] w fun e w' => e = .returned (.bool r) ∧ Below w.heap.size w w' := by
 unfold label_Good.f at h
 by_cases hs : a0.size < 9223372036854775807
 · rw [if_pos hs] at h
   obtain rfl := Option.some.inj h
   clear h
   have cV : Calls Tryd.prog 83 #[.string a0] w _ := Any.utf8_ValidString Tryd.lays196 a0 w (by omega) hTab_.utf
   have cR := fun W => label_Runes.calls a0 _ W (show label_Runes.f a0 = some ((Utf.runes a0.data.toList).length : Int) from if_pos hs)
   cases hv : Lib.validD a0.data.toList with
   | false =>
    rw [hv] at cV
    rw [good_invalid hv]
    clear cR
    go_enter Tryd.func75, Tryd.ntmps75
    go_wp2_with (go_at_call 83; refine cV.mono ?_; rintro e w' ⟨rfl, hb⟩)
    go_ret
    exact ⟨rfl, hb⟩
   | true =>
    rw [hv] at cV
    by_cases he : a0 = ⟨#[]⟩
    · subst he
      clear cR
      rw [show Utf.goodD (⟨#[]⟩ : ByteArray).data.toList = false from by decide]
      go_enter Tryd.func75, Tryd.ntmps75
      go_wp2_with (go_at_call 83; refine cV.mono ?_; rintro e w' ⟨rfl, hb⟩)
      go_ret
      exact ⟨rfl, hb⟩
    · have he1 : (a0.toList == ([] : List UInt8)) = false := by
       rw [Lib.toList_data]
       exact beq_eq_false_iff_ne.mpr (fun e => he (ByteArray.ext (Array.ext' e)))
      have hsz : 0 < a0.size := by
       rcases Nat.eq_zero_or_pos a0.size with h0 | h0
       · exact absurd (ByteArray.ext (Array.eq_empty_of_size_eq_zero h0)) he
       · exact h0
      by_cases hl : 64 < (Utf.runes a0.data.toList).length
      · rw [good_long hl]
        have hd : decide ((64 : Int) < ((Utf.runes a0.data.toList).length : Int)) = true := dt_ (by omega)
        generalize (Utf.runes a0.data.toList).length = n at cR hd
        go_enter Tryd.func75, Tryd.ntmps75
        go_wp2_with (first | (go_at_call 83; refine cV.mono ?_; rintro e w' ⟨rfl, hb⟩) | (go_at_call 84; refine (cR _).mono ?_; rintro e w2 ⟨rfl, hb2⟩))
        go_ret
        exact ⟨rfl, hb.trans (hb2.mono hb.size)⟩
      · have hd : decide ((64 : Int) < ((Utf.runes a0.data.toList).length : Int)) = false := df_ (by omega)
        have hl : (Utf.runes a0.data.toList).length ≤ 64 := by omega
        have HL := ak_ hl
        clear hl
        generalize hn : (Utf.runes a0.data.toList).length = n at cR hd
        have HN := ak_ hn
        clear hn
        go_enter Tryd.func75, Tryd.ntmps75
        go_wp2_with (first | (go_at_call 83; refine cV.mono ?_; rintro e w' ⟨rfl, hb⟩) | (go_at_call 84; refine (cR _).mono ?_; rintro e w2 ⟨rfl, hb2⟩))
        have HB := ak_ (hb.trans (hb2.mono hb.size))
        clear hb hb2
        go_loopw [] (fun wr => ∃ pos : Nat, wr.heap[w2.heap.size]? = some (.stringIter a0 pos) ∧ Below w2.heap.size w2 wr ∧ GoodAt a0 pos) (fun wr => a0.size - wr.iterPos w2.heap.size)
        case atStart =>
         refine ⟨0, ?_, (Below.refl _ w2).alloc (Nat.le_refl _) _, goodAt_zero hv⟩
         exact World.iter_heap w2 a0 0
        case round =>
         obtain ⟨pos, hit, hbw, hg⟩ := hrel
         have hsw : w2.heap.size < wr.heap.size := (Array.getElem?_eq_some_iff.1 hit).1
         by_cases hp : pos < a0.size
         · have hnx : ∀ ty, (Instr.next (.pointer (some ⟨w2.heap.size, 0, none⟩)) true ty).run Tryd.prog wr = _ := fun ty => Lib.run_next_any_at wr w2.heap.size a0 pos ty hit hp
           have hwd := Lib.decode_width_pos a0 pos hp
           have hd1 := decode_le a0 pos
           have hit2 := Lib.iterAt_heap wr w2.heap.size a0 pos (pos + (Utf8.decode a0 pos).2) hit
           have hbw2 := Lib.below_iterAt hbw (k := w2.heap.size) (Nat.le_refl _) a0 (pos + (Utf8.decode a0 pos).2)
           have HG := ak_ hg
           clear hg
           have HH := ak_ hit2
           have HB2 := ak_ hbw2
           clear hit2 hbw2
           cases hm : Utf.mayP ((Utf8.decode a0 pos).1 : Int) with
           | false =>
            have cM := fun W => label_may.calls ((Utf8.decode a0 pos).1 : Int) false W (by rw [label_may_f, hm])
            have HE := ak_ (goodAt_bad HG.out hp (.inl hm))
            go_wp2_with (go_at_call 85; refine (cM _).mono ?_; rintro e W1 ⟨rfl, nd, rfl⟩)
            go_ret
            exact ⟨by rw [HE.out]; rfl, HB.out.trans ((pw_below_drewN HB2.out nd).mono HB.out.size)⟩
           | true =>
            have cM := fun W => label_may.calls ((Utf8.decode a0 pos).1 : Int) true W (by rw [label_may_f, hm])
            by_cases hz : pos = 0
            · have hzi : ((pos : Int) == 0) = true := beq_iff_eq.mpr (by omega)
              cases hlt : Utf.letterP ((Utf8.decode a0 pos).1 : Int) with
              | false =>
               have cL := fun W => label_letter.calls ((Utf8.decode a0 pos).1 : Int) false W (by rw [label_letter_f, hlt])
               have HE := ak_ (goodAt_bad HG.out hp (.inr ⟨hz, hlt⟩))
               have HZ := ak_ hz
               clear hz
               go_wp2_with (first | (go_at_call 85; refine (cM _).mono ?_; rintro e W1 ⟨rfl, nd, rfl⟩) | (go_at_call 86; refine (cL _).mono ?_; rintro e W1 ⟨rfl, nd2, rfl⟩))
               go_ret
               exact ⟨by rw [HE.out]; rfl, HB.out.trans ((pw_below_drewN HB2.out _).mono HB.out.size)⟩
              | true =>
               have cL := fun W => label_letter.calls ((Utf8.decode a0 pos).1 : Int) true W (by rw [label_letter_f, hlt])
               have HN2 := ak_ (goodAt_next HG.out hp HL.out hm (fun _ => hlt))
               have HZ := ak_ hz
               clear hz
               go_wp2_with (first | (go_at_call 85; refine (cM _).mono ?_; rintro e W1 ⟨rfl, nd, rfl⟩) | (go_at_call 86; refine (cL _).mono ?_; rintro e W1 ⟨rfl, nd2, rfl⟩))
               go_roundw
               case rel => exact ⟨_, HH.out, pw_below_drewN HB2.out _, HN2.out⟩
               case measure =>
                have e := HH.out
                rw [iterPos_drewN]
                simp only [World.iterPos, e, hit]
                omega
            · have hzi : ((pos : Int) == 0) = false := beq_eq_false_iff_ne.mpr (by omega)
              have HN2 := ak_ (goodAt_next HG.out hp HL.out hm (fun h => absurd h hz))
              have HZ := ak_ hz
              clear hz
              go_wp2_with (go_at_call 85; refine (cM _).mono ?_; rintro e W1 ⟨rfl, nd, rfl⟩)
              go_roundw
              case rel => exact ⟨_, HH.out, pw_below_drewN HB2.out nd, HN2.out⟩
              case measure =>
               have e := HH.out
               rw [iterPos_drewN]
               simp only [World.iterPos, e, hit]
               omega
         · have hnx : ∀ ty, (Instr.next (.pointer (some ⟨w2.heap.size, 0, none⟩)) true ty).run Tryd.prog wr = _ := fun ty => Lib.run_next_end_at wr w2.heap.size a0 pos ty hit hp
           have HE := ak_ (goodAt_end hg hp hsz)
           go_wp2
           go_ret
           exact ⟨by rw [HE.out]; rfl, HB.out.trans (hbw.mono HB.out.size)⟩
 · rw [if_neg hs] at h
   cases h
def tick_Good.f (a0 : Int) : Option (Bool) := if a0 ≥ 0 then (some (decide (a0 ≤ 1099511627776))) else (some false)
theorem tick_Good.calls (a0 : Int) (r : Bool) (w : World) (h : tick_Good.f a0 = some r) :
 Calls Tryd.prog 51 #[.int .i64 a0] w fun e w' => e = .returned (.bool r) ∧ Drawn0 w w' := by
 have H : (if a0 ≥ 0 then (some (decide (a0 ≤ 1099511627776))) else (some false)) = some r := h
 clear h
 by_cases c2 : a0 ≥ 0
 · rw [if_pos c2] at H
   have c2b0 : decide (0 ≤ a0) = true := dt_ c2
   clear c2
   obtain rfl := Option.some.inj H
   go_enter Tryd.func51, Tryd.ntmps51
   go_wp2
   go_ret
   exact ⟨by first | rfl | simp [*], by repeat (first | exact Drawn0.refl _ | apply Drawn0.step)⟩
 · rw [if_neg c2] at H
   have c2b0 : decide (0 ≤ a0) = false := df_ c2
   clear c2
   obtain rfl := Option.some.inj H
   go_enter Tryd.func51, Tryd.ntmps51
   go_wp2
   go_ret
   exact ⟨by first | rfl | simp [*], by repeat (first | exact Drawn0.refl _ | apply Drawn0.step)⟩
def backoff_Good.f (a0_0 : Int) (a0_1 : Int) (a0_2 : Int) (a0_3 : Int) : Option (Bool) := if a0_0 ≥ 0 then (if a0_0 ≤ 1000 then (if a0_1 ≥ 1 then (if a0_2 ≥ 1 then (if a0_2 ≤ 16 then (if a0_3 ≥ a0_1 then (some (decide (a0_3 ≤ 1099511627776))) else (some false)) else (some false)) else (some false)) else (some false)) else (some false)) else (some false)
theorem backoff_Good.calls (a0_0 : Int) (a0_1 : Int) (a0_2 : Int) (a0_3 : Int) (r : Bool) (w : World) (h : backoff_Good.f a0_0 a0_1 a0_2 a0_3 = some r) :
 Calls Tryd.prog 77 #[.agg #[.int .i64 a0_0, .int .i64 a0_1, .int .i64 a0_2, .int .i64 a0_3]] w fun e w' => e = .returned (.bool r) ∧ Below w.heap.size w w' := by
 have hu54 := Tryd.underlying54
 have HB := ak_ (Below.refl w.heap.size w)
 have H : (if a0_0 ≥ 0 then (if a0_0 ≤ 1000 then (if a0_1 ≥ 1 then (if a0_2 ≥ 1 then (if a0_2 ≤ 16 then (if a0_3 ≥ a0_1 then (some (decide (a0_3 ≤ 1099511627776))) else (some false)) else (some false)) else (some false)) else (some false)) else (some false)) else (some false)) = some r := h
 clear h
 by_cases c2 : a0_0 ≥ 0
 · rw [if_pos c2] at H
   have c2b0 : decide (0 ≤ a0_0) = true := dt_ c2
   clear c2
   by_cases c3 : a0_0 ≤ 1000
   · rw [if_pos c3] at H
     have c3b0 : decide (a0_0 ≤ 1000) = true := dt_ c3
     clear c3
     by_cases c4 : a0_1 ≥ 1
     · rw [if_pos c4] at H
       have c4b0 : decide (1 ≤ a0_1) = true := dt_ c4
       clear c4
       by_cases c5 : a0_2 ≥ 1
       · rw [if_pos c5] at H
         have c5b0 : decide (1 ≤ a0_2) = true := dt_ c5
         clear c5
         by_cases c6 : a0_2 ≤ 16
         · rw [if_pos c6] at H
           have c6b0 : decide (a0_2 ≤ 16) = true := dt_ c6
           clear c6
           by_cases c7 : a0_3 ≥ a0_1
           · rw [if_pos c7] at H
             have c7b0 : decide (a0_1 ≤ a0_3) = true := dt_ c7
             clear c7
             obtain rfl := Option.some.inj H
             go_enter Tryd.func77, Tryd.ntmps77
             go_wp2_with (first | ((with_reducible refine gate_dst (N := 1) rfl ?_); refine box_event ?hg (N := 1) ?hd (cs := #[.int .i64 a0_0, .int .i64 a0_1, .int .i64 a0_2, .int .i64 a0_3]) (t := 54) ?hr ?_; (case hd | hg => rfl); (case hr => first | (go_simp; done) | (go_simp; rfl)); intro gb113 hg w8 hbox hb; have n0_ := ak_ (ps (by with_reducible repeat first | exact HB.out | apply pa | apply pd | apply pe) hb); have n1_ := ak_ (hbox); have n2_ := ak_ ((by rw [hg]; exact (below_size (by with_reducible repeat first | exact HB.out | apply pa | apply pd | apply pe)) : w.heap.size ≤ gb113)); have n3_ := ak_ ((by rw [hg]; exact (below_size (by with_reducible repeat first | exact HB.out | apply pa | apply pd | apply pe)) : w.heap.size ≤ gb113)); clear HB; have HB := n0_; have BK113 := n1_; have GW113 := n2_; have GE113 := n3_; clear n0_ n1_ n2_ n3_ hb hbox hg; have hcz9_0 : w8.cell? ⟨gb113, 0, none⟩ = some (.int .i64 a0_0) := (zc BK113.out 0).trans rfl; have hcz9_1 : w8.cell? ⟨gb113, 1, none⟩ = some (.int .i64 a0_1) := (zc BK113.out 1).trans rfl; have hcz9_2 : w8.cell? ⟨gb113, 2, none⟩ = some (.int .i64 a0_2) := (zc BK113.out 2).trans rfl; have hcz9_3 : w8.cell? ⟨gb113, 3, none⟩ = some (.int .i64 a0_3) := (zc BK113.out 3).trans rfl; have hfz9_0 := zf BK113.out 0; have hfz9_1 := zf BK113.out 1; have hfz9_2 := zf BK113.out 2; have hfz9_3 := zf BK113.out 3))
             go_ret
             exact ⟨by first | rfl | simp [*], by repeat (first | (with_reducible first | exact HB.out | apply pa | apply pd | apply pe | refine zs ?_ GE113.out) | exact HB.out)⟩
           rw [if_neg c7] at H
           have c7b0 : decide (a0_1 ≤ a0_3) = false := df_ c7
           clear c7
           obtain rfl := Option.some.inj H
           go_enter Tryd.func77, Tryd.ntmps77
           go_wp2_with (first | ((with_reducible refine gate_dst (N := 1) rfl ?_); refine box_event ?hg (N := 1) ?hd (cs := #[.int .i64 a0_0, .int .i64 a0_1, .int .i64 a0_2, .int .i64 a0_3]) (t := 54) ?hr ?_; (case hd | hg => rfl); (case hr => first | (go_simp; done) | (go_simp; rfl)); intro gb113 hg w10 hbox hb; have n0_ := ak_ (ps (by with_reducible repeat first | exact HB.out | apply pa | apply pd | apply pe) hb); have n1_ := ak_ (hbox); have n2_ := ak_ ((by rw [hg]; exact (below_size (by with_reducible repeat first | exact HB.out | apply pa | apply pd | apply pe)) : w.heap.size ≤ gb113)); have n3_ := ak_ ((by rw [hg]; exact (below_size (by with_reducible repeat first | exact HB.out | apply pa | apply pd | apply pe)) : w.heap.size ≤ gb113)); clear HB; have HB := n0_; have BK113 := n1_; have GW113 := n2_; have GE113 := n3_; clear n0_ n1_ n2_ n3_ hb hbox hg; have hcz11_0 : w10.cell? ⟨gb113, 0, none⟩ = some (.int .i64 a0_0) := (zc BK113.out 0).trans rfl; have hcz11_1 : w10.cell? ⟨gb113, 1, none⟩ = some (.int .i64 a0_1) := (zc BK113.out 1).trans rfl; have hcz11_2 : w10.cell? ⟨gb113, 2, none⟩ = some (.int .i64 a0_2) := (zc BK113.out 2).trans rfl; have hcz11_3 : w10.cell? ⟨gb113, 3, none⟩ = some (.int .i64 a0_3) := (zc BK113.out 3).trans rfl; have hfz11_0 := zf BK113.out 0; have hfz11_1 := zf BK113.out 1; have hfz11_2 := zf BK113.out 2; have hfz11_3 := zf BK113.out 3))
           go_ret
           exact ⟨by first | rfl | simp [*], by repeat (first | (with_reducible first | exact HB.out | apply pa | apply pd | apply pe | refine zs ?_ GE113.out) | exact HB.out)⟩
         rw [if_neg c6] at H
         have c6b0 : decide (a0_2 ≤ 16) = false := df_ c6
         clear c6
         obtain rfl := Option.some.inj H
         go_enter Tryd.func77, Tryd.ntmps77
         go_wp2_with (first | ((with_reducible refine gate_dst (N := 1) rfl ?_); refine box_event ?hg (N := 1) ?hd (cs := #[.int .i64 a0_0, .int .i64 a0_1, .int .i64 a0_2, .int .i64 a0_3]) (t := 54) ?hr ?_; (case hd | hg => rfl); (case hr => first | (go_simp; done) | (go_simp; rfl)); intro gb113 hg w12 hbox hb; have n0_ := ak_ (ps (by with_reducible repeat first | exact HB.out | apply pa | apply pd | apply pe) hb); have n1_ := ak_ (hbox); have n2_ := ak_ ((by rw [hg]; exact (below_size (by with_reducible repeat first | exact HB.out | apply pa | apply pd | apply pe)) : w.heap.size ≤ gb113)); have n3_ := ak_ ((by rw [hg]; exact (below_size (by with_reducible repeat first | exact HB.out | apply pa | apply pd | apply pe)) : w.heap.size ≤ gb113)); clear HB; have HB := n0_; have BK113 := n1_; have GW113 := n2_; have GE113 := n3_; clear n0_ n1_ n2_ n3_ hb hbox hg; have hcz13_0 : w12.cell? ⟨gb113, 0, none⟩ = some (.int .i64 a0_0) := (zc BK113.out 0).trans rfl; have hcz13_1 : w12.cell? ⟨gb113, 1, none⟩ = some (.int .i64 a0_1) := (zc BK113.out 1).trans rfl; have hcz13_2 : w12.cell? ⟨gb113, 2, none⟩ = some (.int .i64 a0_2) := (zc BK113.out 2).trans rfl; have hcz13_3 : w12.cell? ⟨gb113, 3, none⟩ = some (.int .i64 a0_3) := (zc BK113.out 3).trans rfl; have hfz13_0 := zf BK113.out 0; have hfz13_1 := zf BK113.out 1; have hfz13_2 := zf BK113.out 2; have hfz13_3 := zf BK113.out 3))
         go_ret
         exact ⟨by first | rfl | simp [*], by repeat (first | (with_reducible first | exact HB.out | apply pa | apply pd | apply pe | refine zs ?_ GE113.out) | exact HB.out)⟩
       rw [if_neg c5] at H
       have c5b0 : decide (1 ≤ a0_2) = false := df_ c5
       clear c5
       obtain rfl := Option.some.inj H
       go_enter Tryd.func77, Tryd.ntmps77
       go_wp2_with (first | ((with_reducible refine gate_dst (N := 1) rfl ?_); refine box_event ?hg (N := 1) ?hd (cs := #[.int .i64 a0_0, .int .i64 a0_1, .int .i64 a0_2, .int .i64 a0_3]) (t := 54) ?hr ?_; (case hd | hg => rfl); (case hr => first | (go_simp; done) | (go_simp; rfl)); intro gb113 hg w14 hbox hb; have n0_ := ak_ (ps (by with_reducible repeat first | exact HB.out | apply pa | apply pd | apply pe) hb); have n1_ := ak_ (hbox); have n2_ := ak_ ((by rw [hg]; exact (below_size (by with_reducible repeat first | exact HB.out | apply pa | apply pd | apply pe)) : w.heap.size ≤ gb113)); have n3_ := ak_ ((by rw [hg]; exact (below_size (by with_reducible repeat first | exact HB.out | apply pa | apply pd | apply pe)) : w.heap.size ≤ gb113)); clear HB; have HB := n0_; have BK113 := n1_; have GW113 := n2_; have GE113 := n3_; clear n0_ n1_ n2_ n3_ hb hbox hg; have hcz15_0 : w14.cell? ⟨gb113, 0, none⟩ = some (.int .i64 a0_0) := (zc BK113.out 0).trans rfl; have hcz15_1 : w14.cell? ⟨gb113, 1, none⟩ = some (.int .i64 a0_1) := (zc BK113.out 1).trans rfl; have hcz15_2 : w14.cell? ⟨gb113, 2, none⟩ = some (.int .i64 a0_2) := (zc BK113.out 2).trans rfl; have hcz15_3 : w14.cell? ⟨gb113, 3, none⟩ = some (.int .i64 a0_3) := (zc BK113.out 3).trans rfl; have hfz15_0 := zf BK113.out 0; have hfz15_1 := zf BK113.out 1; have hfz15_2 := zf BK113.out 2; have hfz15_3 := zf BK113.out 3))
       go_ret
       exact ⟨by first | rfl | simp [*], by repeat (first | (with_reducible first | exact HB.out | apply pa | apply pd | apply pe | refine zs ?_ GE113.out) | exact HB.out)⟩
     rw [if_neg c4] at H
     have c4b0 : decide (1 ≤ a0_1) = false := df_ c4
     clear c4
     obtain rfl := Option.some.inj H
     go_enter Tryd.func77, Tryd.ntmps77
     go_wp2_with (first | ((with_reducible refine gate_dst (N := 1) rfl ?_); refine box_event ?hg (N := 1) ?hd (cs := #[.int .i64 a0_0, .int .i64 a0_1, .int .i64 a0_2, .int .i64 a0_3]) (t := 54) ?hr ?_; (case hd | hg => rfl); (case hr => first | (go_simp; done) | (go_simp; rfl)); intro gb113 hg w16 hbox hb; have n0_ := ak_ (ps (by with_reducible repeat first | exact HB.out | apply pa | apply pd | apply pe) hb); have n1_ := ak_ (hbox); have n2_ := ak_ ((by rw [hg]; exact (below_size (by with_reducible repeat first | exact HB.out | apply pa | apply pd | apply pe)) : w.heap.size ≤ gb113)); have n3_ := ak_ ((by rw [hg]; exact (below_size (by with_reducible repeat first | exact HB.out | apply pa | apply pd | apply pe)) : w.heap.size ≤ gb113)); clear HB; have HB := n0_; have BK113 := n1_; have GW113 := n2_; have GE113 := n3_; clear n0_ n1_ n2_ n3_ hb hbox hg; have hcz17_0 : w16.cell? ⟨gb113, 0, none⟩ = some (.int .i64 a0_0) := (zc BK113.out 0).trans rfl; have hcz17_1 : w16.cell? ⟨gb113, 1, none⟩ = some (.int .i64 a0_1) := (zc BK113.out 1).trans rfl; have hcz17_2 : w16.cell? ⟨gb113, 2, none⟩ = some (.int .i64 a0_2) := (zc BK113.out 2).trans rfl; have hcz17_3 : w16.cell? ⟨gb113, 3, none⟩ = some (.int .i64 a0_3) := (zc BK113.out 3).trans rfl; have hfz17_0 := zf BK113.out 0; have hfz17_1 := zf BK113.out 1; have hfz17_2 := zf BK113.out 2; have hfz17_3 := zf BK113.out 3))
     go_ret
     exact ⟨by first | rfl | simp [*], by repeat (first | (with_reducible first | exact HB.out | apply pa | apply pd | apply pe | refine zs ?_ GE113.out) | exact HB.out)⟩
   rw [if_neg c3] at H
   have c3b0 : decide (a0_0 ≤ 1000) = false := df_ c3
   clear c3
   obtain rfl := Option.some.inj H
   go_enter Tryd.func77, Tryd.ntmps77
   go_wp2_with (first | ((with_reducible refine gate_dst (N := 1) rfl ?_); refine box_event ?hg (N := 1) ?hd (cs := #[.int .i64 a0_0, .int .i64 a0_1, .int .i64 a0_2, .int .i64 a0_3]) (t := 54) ?hr ?_; (case hd | hg => rfl); (case hr => first | (go_simp; done) | (go_simp; rfl)); intro gb113 hg w18 hbox hb; have n0_ := ak_ (ps (by with_reducible repeat first | exact HB.out | apply pa | apply pd | apply pe) hb); have n1_ := ak_ (hbox); have n2_ := ak_ ((by rw [hg]; exact (below_size (by with_reducible repeat first | exact HB.out | apply pa | apply pd | apply pe)) : w.heap.size ≤ gb113)); have n3_ := ak_ ((by rw [hg]; exact (below_size (by with_reducible repeat first | exact HB.out | apply pa | apply pd | apply pe)) : w.heap.size ≤ gb113)); clear HB; have HB := n0_; have BK113 := n1_; have GW113 := n2_; have GE113 := n3_; clear n0_ n1_ n2_ n3_ hb hbox hg; have hcz19_0 : w18.cell? ⟨gb113, 0, none⟩ = some (.int .i64 a0_0) := (zc BK113.out 0).trans rfl; have hcz19_1 : w18.cell? ⟨gb113, 1, none⟩ = some (.int .i64 a0_1) := (zc BK113.out 1).trans rfl; have hcz19_2 : w18.cell? ⟨gb113, 2, none⟩ = some (.int .i64 a0_2) := (zc BK113.out 2).trans rfl; have hcz19_3 : w18.cell? ⟨gb113, 3, none⟩ = some (.int .i64 a0_3) := (zc BK113.out 3).trans rfl; have hfz19_0 := zf BK113.out 0; have hfz19_1 := zf BK113.out 1; have hfz19_2 := zf BK113.out 2; have hfz19_3 := zf BK113.out 3))
   go_ret
   exact ⟨by first | rfl | simp [*], by repeat (first | (with_reducible first | exact HB.out | apply pa | apply pd | apply pe | refine zs ?_ GE113.out) | exact HB.out)⟩
 rw [if_neg c2] at H
 have c2b0 : decide (0 ≤ a0_0) = false := df_ c2
 clear c2
 obtain rfl := Option.some.inj H
 go_enter Tryd.func77, Tryd.ntmps77
 go_wp2_with (first | ((with_reducible refine gate_dst (N := 1) rfl ?_); refine box_event ?hg (N := 1) ?hd (cs := #[.int .i64 a0_0, .int .i64 a0_1, .int .i64 a0_2, .int .i64 a0_3]) (t := 54) ?hr ?_; (case hd | hg => rfl); (case hr => first | (go_simp; done) | (go_simp; rfl)); intro gb113 hg w20 hbox hb; have n0_ := ak_ (ps (by with_reducible repeat first | exact HB.out | apply pa | apply pd | apply pe) hb); have n1_ := ak_ (hbox); have n2_ := ak_ ((by rw [hg]; exact (below_size (by with_reducible repeat first | exact HB.out | apply pa | apply pd | apply pe)) : w.heap.size ≤ gb113)); have n3_ := ak_ ((by rw [hg]; exact (below_size (by with_reducible repeat first | exact HB.out | apply pa | apply pd | apply pe)) : w.heap.size ≤ gb113)); clear HB; have HB := n0_; have BK113 := n1_; have GW113 := n2_; have GE113 := n3_; clear n0_ n1_ n2_ n3_ hb hbox hg; have hcz21_0 : w20.cell? ⟨gb113, 0, none⟩ = some (.int .i64 a0_0) := (zc BK113.out 0).trans rfl; have hcz21_1 : w20.cell? ⟨gb113, 1, none⟩ = some (.int .i64 a0_1) := (zc BK113.out 1).trans rfl; have hcz21_2 : w20.cell? ⟨gb113, 2, none⟩ = some (.int .i64 a0_2) := (zc BK113.out 2).trans rfl; have hcz21_3 : w20.cell? ⟨gb113, 3, none⟩ = some (.int .i64 a0_3) := (zc BK113.out 3).trans rfl; have hfz21_0 := zf BK113.out 0; have hfz21_1 := zf BK113.out 1; have hfz21_2 := zf BK113.out 2; have hfz21_3 := zf BK113.out 3))
 go_ret
 exact ⟨by first | rfl | simp [*], by repeat (first | (with_reducible first | exact HB.out | apply pa | apply pd | apply pe | refine zs ?_ GE113.out) | exact HB.out)⟩
def firstI {α : Type} (p : α → Bool) : List α → Int → Int
 | [], _ => -1
 | a :: l, j => if p a = true then j else firstI p l (j + 1)
theorem firstI_at {α : Type} (p : α → Bool) (l : List α) (j : Nat) (h : j < l.length) : firstI p (l.drop j) (j : Int) = if p l[j] = true then (j : Int) else firstI p (l.drop (j + 1)) ((j + 1 : Nat) : Int) := by
 rw [List.drop_eq_getElem_cons h, firstI]
 rfl
theorem firstI_any {α : Type} (p : α → Bool) : ∀ (l : List α) (j : Int), 0 ≤ j → decide (0 ≤ firstI p l j) = l.any p
 | [], _, _ => rfl
 | a :: l, j, h => by
  rw [firstI, List.any_cons]
  cases ha : p a with
  | true => rw [if_pos rfl, Bool.true_or, dt_ h]
  | false => rw [if_neg (by decide), Bool.false_or]; exact firstI_any p l (j + 1) (by omega)
def stepNamed (s : ByteArray) (x : S70) : Bool := x.f0.toList == s.toList
theorem step_closure.calls (bs : Nat) (s : ByteArray) (x : S70) (W : World) (hs : W.cell? ⟨bs, 0, none⟩ = some (.string s)) :
 Calls Tryd.prog 88 #[.agg #[.string x.f0, .string x.f1, .int .i64 x.f2, .int .i64 x.f3.f0, .int .i64 x.f3.f1, .int .i64 x.f3.f2, .int .i64 x.f3.f3, .int .i64 x.f4.f0, .int .i64 x.f4.f1, .int .i64 x.f4.f2, .int .i64 x.f4.f3, .int .i64 x.f5], .pointer (some ⟨bs, 0, none⟩)] W fun e W' => e = .returned (.bool (stepNamed s x)) ∧ Below W.heap.size W W' := by
 have hlt := World.block_lt_of_cell? W _ hs
 have hs1 : ∀ o, (W.alloc o).cell? ⟨bs, 0, none⟩ = some (.string s) := fun o => (((Below.refl _ W).alloc (Nat.le_refl _) o).cell hlt).trans hs
 clear hlt
 go_enter Tryd.func88, Tryd.ntmps88
 go_wp2
 go_ret
 exact ⟨rfl, below_alloc (Below.refl _ _) _⟩
theorem rdS_at {l : List S70} {j : Nat} (h : j < l.length) : rd_T70 l (j : Int) = l[j] := by
 unfold rd_T70
 rw [Int.toNat_natCast, List.getD_eq_getElem?_getD, List.getElem?_eq_getElem h]
 rfl
theorem step_index.calls (bs : Nat) (s : ByteArray) (A0 : Option Addr) (c0 : Nat) (l0 : List S70) (w : World) (hr0 : Kd.C k70 w A0 l0.length l0) (hl : l0.length < 1000000) (hs : w.cell? ⟨bs, 0, none⟩ = some (.string s)) :
 Calls Tryd.prog 92 #[.slice A0 l0.length c0, .func (.func 88) #[] #[.pointer (some ⟨bs, 0, none⟩)]] w fun e w' => e = .returned (.int .i64 (firstI (stepNamed s) l0 0)) ∧ Below w.heap.size w w' := by
 have HR := ak_ hr0
 have HSc := ak_ hs
 have HB0 := ak_ (Below.refl w.heap.size w)
 clear hr0 hs
 go_enter Tryd.func92, Tryd.ntmps92
 go_wp2
 go_loopw [8] (fun v8 W => ∃ j : Nat, j ≤ l0.length ∧ v8 = .int .i64 (j : Int) ∧ Aside0 (firstI (stepNamed s) l0 0 = firstI (stepNamed s) (l0.drop j) (j : Int)) ∧ Aside0 (Below w.heap.size w W)) (fun v8 _ => l0.length - (intOf v8).toNat)
 case atStart => exact ⟨0, Nat.zero_le _, rfl, ⟨rfl⟩, HB0⟩
 case round =>
  clear HB0
  obtain ⟨j, hj, rfl, HF, HB⟩ := hrel
  by_cases hlt : j < l0.length
  · have HFA := ak_ (HF.out.trans (firstI_at (stepNamed s) l0 j hlt))
    obtain ⟨ad, e, x0, x1, x2, x3, x4, x5, x6, x7, x8, x9, x10, x11⟩ := at_T70 HR.out (j : Int) (by omega) (by omega)
    rw [← rdS_at hlt] at HFA
    cases e
    replace x0 := (HB.out.cell (World.block_lt_of_cell? w _ x0)).trans x0
    replace x1 := (HB.out.cell (World.block_lt_of_cell? w _ x1)).trans x1
    replace x2 := (HB.out.cell (World.block_lt_of_cell? w _ x2)).trans x2
    replace x3 := (HB.out.cell (World.block_lt_of_cell? w _ x3)).trans x3
    replace x4 := (HB.out.cell (World.block_lt_of_cell? w _ x4)).trans x4
    replace x5 := (HB.out.cell (World.block_lt_of_cell? w _ x5)).trans x5
    replace x6 := (HB.out.cell (World.block_lt_of_cell? w _ x6)).trans x6
    replace x7 := (HB.out.cell (World.block_lt_of_cell? w _ x7)).trans x7
    replace x8 := (HB.out.cell (World.block_lt_of_cell? w _ x8)).trans x8
    replace x9 := (HB.out.cell (World.block_lt_of_cell? w _ x9)).trans x9
    replace x10 := (HB.out.cell (World.block_lt_of_cell? w _ x10)).trans x10
    replace x11 := (HB.out.cell (World.block_lt_of_cell? w _ x11)).trans x11
    have HSw := ak_ ((HB.out.cell (World.block_lt_of_cell? w _ HSc.out)).trans HSc.out)
    generalize rd_T70 l0 (j : Int) = d at *
    obtain ⟨i, hi⟩ : ∃ i : Int, (j : Int) = i := ⟨_, rfl⟩
    have HI := ak_ hi
    have hp1 : (0 ≤ i) = True := eq_true (by omega)
    have hq1 : (i < (l0.length : Int)) = True := eq_true (by omega)
    have hd1 : decide (i < (l0.length : Int)) = true := dt_ (by omega)
    have HK := ak_ (show wrap64 (i + 1) = ((j + 1 : Nat) : Int) by unfold wrap64; omega)
    rw [hi] at x0 x1 x2 x3 x4 x5 x6 x7 x8 x9 x10 x11 HFA ⊢
    clear hi
    cases hnm : stepNamed s d with
    | true =>
     rw [if_pos hnm] at HFA
     go_wp2_with (first | (go_at_call 88; refine (step_closure.calls bs s d _ HSw.out).mono ?_; rw [hnm]; rintro e w5 ⟨rfl, hb⟩; have HB5 := ak_ (below_step HB.out hb); clear hb))
     go_ret
     exact ⟨by rw [HFA.out]; rfl, HB5.out⟩
    | false =>
     rw [if_neg (by rw [hnm]; decide)] at HFA
     go_wp2_with (first | (go_at_call 88; refine (step_closure.calls bs s d _ HSw.out).mono ?_; rw [hnm]; rintro e w5 ⟨rfl, hb⟩; have HB5 := ak_ (below_step HB.out hb); clear hb))
     go_roundw
     case rel => exact ⟨j + 1, by omega, by rw [HK.out], HFA, HB5⟩
     case measure => have := HI.out; simp [intOf, HK.out]; omega
  · have hjl : j = l0.length := by omega
    subst hjl
    have hd1 : decide ((l0.length : Int) < (l0.length : Int)) = false := df_ (by omega)
    go_wp2
    go_ret
    exact ⟨by rw [HF.out, List.drop_length]; rfl, HB.out⟩
theorem step_contains.calls (bs : Nat) (s : ByteArray) (A0 : Option Addr) (c0 : Nat) (l0 : List S70) (w : World) (hr0 : Kd.C k70 w A0 l0.length l0) (hl : l0.length < 1000000) (hs : w.cell? ⟨bs, 0, none⟩ = some (.string s)) :
 Calls Tryd.prog 87 #[.slice A0 l0.length c0, .func (.func 88) #[] #[.pointer (some ⟨bs, 0, none⟩)]] w fun e w' => e = .returned (.bool (l0.any (stepNamed s))) ∧ Below w.heap.size w w' := by
 have cI := step_index.calls bs s A0 c0 l0 w hr0 hl hs
 have HE := ak_ (firstI_any (stepNamed s) l0 0 (by omega))
 generalize firstI (stepNamed s) l0 0 = r at cI HE
 clear hr0 hs
 go_enter Tryd.func87, Tryd.ntmps87
 go_wp2_with (first | (go_at_call 92; refine cI.mono ?_; rintro e w5 ⟨rfl, hb⟩; have HB5 := ak_ hb; clear hb))
 go_ret
 exact ⟨by rw [← HE.out]; rfl, HB5.out⟩
theorem infoStep : (Tryd.prog.info? 70).map (fun i => (i.zero, i.size, i.bytes)) = some (some (.agg #[.string ⟨#[]⟩, .string ⟨#[]⟩, .int .i64 0, .int .i64 0, .int .i64 0, .int .i64 0, .int .i64 0, .int .i64 0, .int .i64 0, .int .i64 0, .int .i64 0, .int .i64 0]), 12, 112) := by kernel_rfl
def planP (p : S54) : Bool := decide (0 ≤ p.f0 ∧ p.f0 ≤ 1000 ∧ 1 ≤ p.f1 ∧ 1 ≤ p.f2 ∧ p.f2 ≤ 16 ∧ p.f1 ≤ p.f3 ∧ p.f3 ≤ 1099511627776)
theorem backoff_Good_f (p : S54) : backoff_Good.f p.f0 p.f1 p.f2 p.f3 = some (planP p) := by
 unfold backoff_Good.f planP
 repeat' split
 all_goals (refine congrArg some ?_; rw [Bool.eq_iff_iff]; simp only [decide_eq_true_eq, true_iff, false_iff, Bool.false_eq_true]; omega)
theorem tick_Good_f (a : Int) : tick_Good.f a = some (decide (0 ≤ a ∧ a ≤ 1099511627776)) := by
 unfold tick_Good.f
 split <;> (refine congrArg some ?_; rw [Bool.eq_iff_iff]; simp only [decide_eq_true_eq, false_iff, Bool.false_eq_true]; omega)
def numB (x : S70) : Bool := decide (x.f2 < 1 ∨ x.f2 > 1099511627776 ∨ x.f5 < 0 ∨ x.f5 > 255)
def stepB (g1 g2 an nb p3 p4 : Bool) : Int := if (g1 && g2) = false then 10 else if an = true then 6 else if nb = true then 1 else if (p3 && p4) = false then 3 else 0
def stepR (l : List S70) (i : Nat) (x : S70) : Int := stepB (Utf.goodD x.f0.data.toList) (Utf.goodD x.f1.data.toList) ((l.take i).any (stepNamed x.f0)) (numB x) (planP x.f3) (planP x.f4)
def def_step.f (l : List S70) (i : Int) : Option Int :=
 if 0 ≤ i ∧ i < (l.length : Int) ∧ l.length < 1000000 ∧ (rd_T70 l i).f0.size < 9223372036854775807 ∧ (rd_T70 l i).f1.size < 9223372036854775807 then some (stepR l i.toNat (rd_T70 l i)) else none
theorem def_step.calls (A0 : Option Addr) (c0 : Nat) (l0 : List S70) (i : Int) (r : Int) (w : World) (hr0 : Kd.C k70 w A0 l0.length l0) (hc0 : l0.length ≤ c0) (hTab_ : Tabs_ w) (h : def_step.f l0 i = some r) :
 Calls Tryd.prog 76 #[.slice A0 l0.length c0, .int .i64 i] w fun e w' => e = .returned (.int .i64 r) ∧ Below w.heap.size w w' := by
 unfold def_step.f at h
 by_cases hh : 0 ≤ i ∧ i < (l0.length : Int) ∧ l0.length < 1000000 ∧ (rd_T70 l0 i).f0.size < 9223372036854775807 ∧ (rd_T70 l0 i).f1.size < 9223372036854775807
 · rw [if_pos hh] at h
   obtain rfl := Option.some.inj h
   clear h
   obtain ⟨h0, h1, hl, hs0, hs1⟩ := hh
   have HT := ak_ hTab_
   have hRT := ak_ (Kd.C_take (m := i.toNat) hr0 (by omega))
   have hlt : (l0.take i.toNat).length = i.toNat := by rw [List.length_take]; omega
   have hG1 := ak_ (show label_Good.f (rd_T70 l0 i).f0 = some (Utf.goodD (rd_T70 l0 i).f0.data.toList) from if_pos hs0)
   have hG2 := ak_ (show label_Good.f (rd_T70 l0 i).f1 = some (Utf.goodD (rd_T70 l0 i).f1.data.toList) from if_pos hs1)
   obtain ⟨ad, e, x0, x1, x2, x3, x4, x5, x6, x7, x8, x9, x10, x11⟩ := at_T70 hr0 i h0 (by omega)
   obtain ⟨inf, hinf, _⟩ := info_parts infoStep
   have kcut := cut_to (P := Tryd.prog) 22 70 .i64 Tryd.underlying22 hinf A0 l0.length c0 i h0 (by omega) hc0
   clear hTab_ hr0 hs0 hs1 hinf
   cases e
   have HE0 := ak_ (show stepR l0 i.toNat (rd_T70 l0 i) = stepR l0 i.toNat (rd_T70 l0 i) from rfl)
   generalize rd_T70 l0 i = x at *
   have hp1 : (0 ≤ i) = True := eq_true h0
   have hq1 : (i < (l0.length : Int)) = True := eq_true h1
   have hd1 : decide (0 ≤ i) = true := dt_ h0
   obtain ⟨R, hR⟩ : ∃ R, stepR l0 i.toNat x = R := ⟨_, rfl⟩
   rw [hR]
   clear HE0
   unfold stepR at hR
   generalize Utf.goodD x.f0.data.toList = g1 at hR hG1
   generalize Utf.goodD x.f1.data.toList = g2 at hR hG2
   obtain ⟨an, han⟩ : ∃ an, (l0.take i.toNat).any (stepNamed x.f0) = an := ⟨_, rfl⟩
   obtain ⟨p3, hp3⟩ : ∃ p3, planP x.f3 = p3 := ⟨_, rfl⟩
   obtain ⟨p4, hp4⟩ : ∃ p4, planP x.f4 = p4 := ⟨_, rfl⟩
   rw [han, hp3, hp4] at hR
   have hAN := ak_ han
   have hP3 := ak_ ((backoff_Good_f x.f3).trans (congrArg some hp3))
   have hP4 := ak_ ((backoff_Good_f x.f4).trans (congrArg some hp4))
   clear han hp3 hp4
   go_enter Tryd.func76, Tryd.ntmps76
   go_upto_region 2 with (fail)
   have z1 := blk_new w (.cells #[.string x.f0, .string x.f1, .int .i64 x.f2, .int .i64 x.f3.f0, .int .i64 x.f3.f1, .int .i64 x.f3.f2, .int .i64 x.f3.f3, .int .i64 x.f4.f0, .int .i64 x.f4.f1, .int .i64 x.f4.f2, .int .i64 x.f4.f3, .int .i64 x.f5] 70)
   have HB1 := ak_ ((Below.refl w.heap.size w).alloc (Nat.le_refl _) (.cells #[.string x.f0, .string x.f1, .int .i64 x.f2, .int .i64 x.f3.f0, .int .i64 x.f3.f1, .int .i64 x.f3.f2, .int .i64 x.f3.f3, .int .i64 x.f4.f0, .int .i64 x.f4.f1, .int .i64 x.f4.f2, .int .i64 x.f4.f3, .int .i64 x.f5] 70))
   generalize w.alloc (.cells #[.string x.f0, .string x.f1, .int .i64 x.f2, .int .i64 x.f3.f0, .int .i64 x.f3.f1, .int .i64 x.f3.f2, .int .i64 x.f3.f3, .int .i64 x.f4.f0, .int .i64 x.f4.f1, .int .i64 x.f4.f2, .int .i64 x.f4.f3, .int .i64 x.f5] 70) = W1 at *
   clear x0 x1 x2 x3 x4 x5 x6 x7 x8 x9 x10 x11
   obtain ⟨q, hq⟩ : ∃ q, w.heap.size = q := ⟨_, rfl⟩
   have HQ := ak_ hq
   rw [hq] at z1 ⊢
   clear hq
   have Z1 := ak_ z1
   have cW_0 : W1.cell? ⟨q, 0, none⟩ = some (.string x.f0) := (zc z1 0).trans rfl
   have cW_1 : W1.cell? ⟨q, 1, none⟩ = some (.string x.f1) := (zc z1 1).trans rfl
   have cW_2 : W1.cell? ⟨q, 2, none⟩ = some (.int .i64 x.f2) := (zc z1 2).trans rfl
   have cW_3 : W1.cell? ⟨q, 3, none⟩ = some (.int .i64 x.f3.f0) := (zc z1 3).trans rfl
   have cW_4 : W1.cell? ⟨q, 4, none⟩ = some (.int .i64 x.f3.f1) := (zc z1 4).trans rfl
   have cW_5 : W1.cell? ⟨q, 5, none⟩ = some (.int .i64 x.f3.f2) := (zc z1 5).trans rfl
   have cW_6 : W1.cell? ⟨q, 6, none⟩ = some (.int .i64 x.f3.f3) := (zc z1 6).trans rfl
   have cW_7 : W1.cell? ⟨q, 7, none⟩ = some (.int .i64 x.f4.f0) := (zc z1 7).trans rfl
   have cW_8 : W1.cell? ⟨q, 8, none⟩ = some (.int .i64 x.f4.f1) := (zc z1 8).trans rfl
   have cW_9 : W1.cell? ⟨q, 9, none⟩ = some (.int .i64 x.f4.f2) := (zc z1 9).trans rfl
   have cW_10 : W1.cell? ⟨q, 10, none⟩ = some (.int .i64 x.f4.f3) := (zc z1 10).trans rfl
   have cW_11 : W1.cell? ⟨q, 11, none⟩ = some (.int .i64 x.f5) := (zc z1 11).trans rfl
   clear z1
   have cC : ∀ W, Kd.C k70 W (some ad) (l0.take i.toNat).length (l0.take i.toNat) → W.cell? ⟨q, 0, none⟩ = some (.string x.f0) → Calls Tryd.prog 87 #[.slice (some ad) i.toNat c0, .func (.func 88) #[] #[.pointer (some ⟨q, 0, none⟩)]] W fun e w' => e = .returned (.bool ((l0.take i.toNat).any (stepNamed x.f0))) ∧ Below W.heap.size W w' := fun W h1 h2 => by
    have := step_contains.calls q x.f0 (some ad) c0 (l0.take i.toNat) W h1 (by omega) h2
    rw [hlt] at this
    exact this
   cases g1 with
   | false =>
    have HE := ak_ (show R = 10 from hR.symm)
    go_wp2_with (first | (go_at_call 75; (with_reducible refine (label_Good.calls x.f0 false _ (HT.out.below HB1.out) (hG1.out)).mono ?_); rintro e w2 ⟨rfl, hb⟩; have HBw2 := ak_ (below_step HB1.out hb); have Zw2 := ak_ (blk_below Z1.out hb); have cw2_0 : w2.cell? ⟨q, 0, none⟩ = some (.string x.f0) := (zc Zw2.out 0).trans rfl; have cw2_1 : w2.cell? ⟨q, 1, none⟩ = some (.string x.f1) := (zc Zw2.out 1).trans rfl; have cw2_2 : w2.cell? ⟨q, 2, none⟩ = some (.int .i64 x.f2) := (zc Zw2.out 2).trans rfl; have cw2_3 : w2.cell? ⟨q, 3, none⟩ = some (.int .i64 x.f3.f0) := (zc Zw2.out 3).trans rfl; have cw2_4 : w2.cell? ⟨q, 4, none⟩ = some (.int .i64 x.f3.f1) := (zc Zw2.out 4).trans rfl; have cw2_5 : w2.cell? ⟨q, 5, none⟩ = some (.int .i64 x.f3.f2) := (zc Zw2.out 5).trans rfl; have cw2_6 : w2.cell? ⟨q, 6, none⟩ = some (.int .i64 x.f3.f3) := (zc Zw2.out 6).trans rfl; have cw2_7 : w2.cell? ⟨q, 7, none⟩ = some (.int .i64 x.f4.f0) := (zc Zw2.out 7).trans rfl; have cw2_8 : w2.cell? ⟨q, 8, none⟩ = some (.int .i64 x.f4.f1) := (zc Zw2.out 8).trans rfl; have cw2_9 : w2.cell? ⟨q, 9, none⟩ = some (.int .i64 x.f4.f2) := (zc Zw2.out 9).trans rfl; have cw2_10 : w2.cell? ⟨q, 10, none⟩ = some (.int .i64 x.f4.f3) := (zc Zw2.out 10).trans rfl; have cw2_11 : w2.cell? ⟨q, 11, none⟩ = some (.int .i64 x.f5) := (zc Zw2.out 11).trans rfl; clear hb))
    go_ret
    exact ⟨by rw [HE.out]; rfl, HBw2.out⟩
   | true =>
    cases g2 with
    | false =>
     have HE := ak_ (show R = 10 from hR.symm)
     go_wp2_with (first | (go_at_call 75; (with_reducible refine (label_Good.calls x.f0 true _ (HT.out.below HB1.out) (hG1.out)).mono ?_); rintro e w2 ⟨rfl, hb⟩; have HBw2 := ak_ (below_step HB1.out hb); have Zw2 := ak_ (blk_below Z1.out hb); have cw2_0 : w2.cell? ⟨q, 0, none⟩ = some (.string x.f0) := (zc Zw2.out 0).trans rfl; have cw2_1 : w2.cell? ⟨q, 1, none⟩ = some (.string x.f1) := (zc Zw2.out 1).trans rfl; have cw2_2 : w2.cell? ⟨q, 2, none⟩ = some (.int .i64 x.f2) := (zc Zw2.out 2).trans rfl; have cw2_3 : w2.cell? ⟨q, 3, none⟩ = some (.int .i64 x.f3.f0) := (zc Zw2.out 3).trans rfl; have cw2_4 : w2.cell? ⟨q, 4, none⟩ = some (.int .i64 x.f3.f1) := (zc Zw2.out 4).trans rfl; have cw2_5 : w2.cell? ⟨q, 5, none⟩ = some (.int .i64 x.f3.f2) := (zc Zw2.out 5).trans rfl; have cw2_6 : w2.cell? ⟨q, 6, none⟩ = some (.int .i64 x.f3.f3) := (zc Zw2.out 6).trans rfl; have cw2_7 : w2.cell? ⟨q, 7, none⟩ = some (.int .i64 x.f4.f0) := (zc Zw2.out 7).trans rfl; have cw2_8 : w2.cell? ⟨q, 8, none⟩ = some (.int .i64 x.f4.f1) := (zc Zw2.out 8).trans rfl; have cw2_9 : w2.cell? ⟨q, 9, none⟩ = some (.int .i64 x.f4.f2) := (zc Zw2.out 9).trans rfl; have cw2_10 : w2.cell? ⟨q, 10, none⟩ = some (.int .i64 x.f4.f3) := (zc Zw2.out 10).trans rfl; have cw2_11 : w2.cell? ⟨q, 11, none⟩ = some (.int .i64 x.f5) := (zc Zw2.out 11).trans rfl; clear hb) | (go_at_call 75; (with_reducible refine (label_Good.calls x.f1 false _ (HT.out.below HBw2.out) (hG2.out)).mono ?_); rintro e w3 ⟨rfl, hb⟩; have HBw3 := ak_ (below_step HBw2.out hb); have Zw3 := ak_ (blk_below Zw2.out hb); have cw3_0 : w3.cell? ⟨q, 0, none⟩ = some (.string x.f0) := (zc Zw3.out 0).trans rfl; have cw3_1 : w3.cell? ⟨q, 1, none⟩ = some (.string x.f1) := (zc Zw3.out 1).trans rfl; have cw3_2 : w3.cell? ⟨q, 2, none⟩ = some (.int .i64 x.f2) := (zc Zw3.out 2).trans rfl; have cw3_3 : w3.cell? ⟨q, 3, none⟩ = some (.int .i64 x.f3.f0) := (zc Zw3.out 3).trans rfl; have cw3_4 : w3.cell? ⟨q, 4, none⟩ = some (.int .i64 x.f3.f1) := (zc Zw3.out 4).trans rfl; have cw3_5 : w3.cell? ⟨q, 5, none⟩ = some (.int .i64 x.f3.f2) := (zc Zw3.out 5).trans rfl; have cw3_6 : w3.cell? ⟨q, 6, none⟩ = some (.int .i64 x.f3.f3) := (zc Zw3.out 6).trans rfl; have cw3_7 : w3.cell? ⟨q, 7, none⟩ = some (.int .i64 x.f4.f0) := (zc Zw3.out 7).trans rfl; have cw3_8 : w3.cell? ⟨q, 8, none⟩ = some (.int .i64 x.f4.f1) := (zc Zw3.out 8).trans rfl; have cw3_9 : w3.cell? ⟨q, 9, none⟩ = some (.int .i64 x.f4.f2) := (zc Zw3.out 9).trans rfl; have cw3_10 : w3.cell? ⟨q, 10, none⟩ = some (.int .i64 x.f4.f3) := (zc Zw3.out 10).trans rfl; have cw3_11 : w3.cell? ⟨q, 11, none⟩ = some (.int .i64 x.f5) := (zc Zw3.out 11).trans rfl; clear hb))
     go_ret
     exact ⟨by rw [HE.out]; rfl, HBw3.out⟩
    | true =>
     cases an with
     | true =>
      have HE := ak_ (show R = 6 from hR.symm)
      go_wp2_with (first | (go_at_call 75; (with_reducible refine (label_Good.calls x.f0 true _ (HT.out.below HB1.out) (hG1.out)).mono ?_); rintro e w2 ⟨rfl, hb⟩; have HBw2 := ak_ (below_step HB1.out hb); have Zw2 := ak_ (blk_below Z1.out hb); have cw2_0 : w2.cell? ⟨q, 0, none⟩ = some (.string x.f0) := (zc Zw2.out 0).trans rfl; have cw2_1 : w2.cell? ⟨q, 1, none⟩ = some (.string x.f1) := (zc Zw2.out 1).trans rfl; have cw2_2 : w2.cell? ⟨q, 2, none⟩ = some (.int .i64 x.f2) := (zc Zw2.out 2).trans rfl; have cw2_3 : w2.cell? ⟨q, 3, none⟩ = some (.int .i64 x.f3.f0) := (zc Zw2.out 3).trans rfl; have cw2_4 : w2.cell? ⟨q, 4, none⟩ = some (.int .i64 x.f3.f1) := (zc Zw2.out 4).trans rfl; have cw2_5 : w2.cell? ⟨q, 5, none⟩ = some (.int .i64 x.f3.f2) := (zc Zw2.out 5).trans rfl; have cw2_6 : w2.cell? ⟨q, 6, none⟩ = some (.int .i64 x.f3.f3) := (zc Zw2.out 6).trans rfl; have cw2_7 : w2.cell? ⟨q, 7, none⟩ = some (.int .i64 x.f4.f0) := (zc Zw2.out 7).trans rfl; have cw2_8 : w2.cell? ⟨q, 8, none⟩ = some (.int .i64 x.f4.f1) := (zc Zw2.out 8).trans rfl; have cw2_9 : w2.cell? ⟨q, 9, none⟩ = some (.int .i64 x.f4.f2) := (zc Zw2.out 9).trans rfl; have cw2_10 : w2.cell? ⟨q, 10, none⟩ = some (.int .i64 x.f4.f3) := (zc Zw2.out 10).trans rfl; have cw2_11 : w2.cell? ⟨q, 11, none⟩ = some (.int .i64 x.f5) := (zc Zw2.out 11).trans rfl; clear hb) | (go_at_call 75; (with_reducible refine (label_Good.calls x.f1 true _ (HT.out.below HBw2.out) (hG2.out)).mono ?_); rintro e w3 ⟨rfl, hb⟩; have HBw3 := ak_ (below_step HBw2.out hb); have Zw3 := ak_ (blk_below Zw2.out hb); have cw3_0 : w3.cell? ⟨q, 0, none⟩ = some (.string x.f0) := (zc Zw3.out 0).trans rfl; have cw3_1 : w3.cell? ⟨q, 1, none⟩ = some (.string x.f1) := (zc Zw3.out 1).trans rfl; have cw3_2 : w3.cell? ⟨q, 2, none⟩ = some (.int .i64 x.f2) := (zc Zw3.out 2).trans rfl; have cw3_3 : w3.cell? ⟨q, 3, none⟩ = some (.int .i64 x.f3.f0) := (zc Zw3.out 3).trans rfl; have cw3_4 : w3.cell? ⟨q, 4, none⟩ = some (.int .i64 x.f3.f1) := (zc Zw3.out 4).trans rfl; have cw3_5 : w3.cell? ⟨q, 5, none⟩ = some (.int .i64 x.f3.f2) := (zc Zw3.out 5).trans rfl; have cw3_6 : w3.cell? ⟨q, 6, none⟩ = some (.int .i64 x.f3.f3) := (zc Zw3.out 6).trans rfl; have cw3_7 : w3.cell? ⟨q, 7, none⟩ = some (.int .i64 x.f4.f0) := (zc Zw3.out 7).trans rfl; have cw3_8 : w3.cell? ⟨q, 8, none⟩ = some (.int .i64 x.f4.f1) := (zc Zw3.out 8).trans rfl; have cw3_9 : w3.cell? ⟨q, 9, none⟩ = some (.int .i64 x.f4.f2) := (zc Zw3.out 9).trans rfl; have cw3_10 : w3.cell? ⟨q, 10, none⟩ = some (.int .i64 x.f4.f3) := (zc Zw3.out 10).trans rfl; have cw3_11 : w3.cell? ⟨q, 11, none⟩ = some (.int .i64 x.f5) := (zc Zw3.out 11).trans rfl; clear hb) | (go_at_call 87; refine (cC _ (Kd.C_below hRT.out HBw3.out) ((zc Zw3.out 0).trans rfl)).mono ?_; rw [hAN.out]; rintro e w4 ⟨rfl, hb⟩; have HBw4 := ak_ (below_step HBw3.out hb); have Zw4 := ak_ (blk_below Zw3.out hb); have cw4_0 : w4.cell? ⟨q, 0, none⟩ = some (.string x.f0) := (zc Zw4.out 0).trans rfl; have cw4_1 : w4.cell? ⟨q, 1, none⟩ = some (.string x.f1) := (zc Zw4.out 1).trans rfl; have cw4_2 : w4.cell? ⟨q, 2, none⟩ = some (.int .i64 x.f2) := (zc Zw4.out 2).trans rfl; have cw4_3 : w4.cell? ⟨q, 3, none⟩ = some (.int .i64 x.f3.f0) := (zc Zw4.out 3).trans rfl; have cw4_4 : w4.cell? ⟨q, 4, none⟩ = some (.int .i64 x.f3.f1) := (zc Zw4.out 4).trans rfl; have cw4_5 : w4.cell? ⟨q, 5, none⟩ = some (.int .i64 x.f3.f2) := (zc Zw4.out 5).trans rfl; have cw4_6 : w4.cell? ⟨q, 6, none⟩ = some (.int .i64 x.f3.f3) := (zc Zw4.out 6).trans rfl; have cw4_7 : w4.cell? ⟨q, 7, none⟩ = some (.int .i64 x.f4.f0) := (zc Zw4.out 7).trans rfl; have cw4_8 : w4.cell? ⟨q, 8, none⟩ = some (.int .i64 x.f4.f1) := (zc Zw4.out 8).trans rfl; have cw4_9 : w4.cell? ⟨q, 9, none⟩ = some (.int .i64 x.f4.f2) := (zc Zw4.out 9).trans rfl; have cw4_10 : w4.cell? ⟨q, 10, none⟩ = some (.int .i64 x.f4.f3) := (zc Zw4.out 10).trans rfl; have cw4_11 : w4.cell? ⟨q, 11, none⟩ = some (.int .i64 x.f5) := (zc Zw4.out 11).trans rfl; clear hb))
      go_ret
      exact ⟨by rw [HE.out]; rfl, HBw4.out⟩
     | false =>
      by_cases t1 : x.f2 < 1
      · have d1 : decide (x.f2 < 1) = true := dt_ t1
        rw [show numB x = true from dt_ (.inl t1)] at hR
        have HE := ak_ (show R = 1 from hR.symm)
        go_wp2_with (first | (go_at_call 75; (with_reducible refine (label_Good.calls x.f0 true _ (HT.out.below HB1.out) (hG1.out)).mono ?_); rintro e w2 ⟨rfl, hb⟩; have HBw2 := ak_ (below_step HB1.out hb); have Zw2 := ak_ (blk_below Z1.out hb); have cw2_0 : w2.cell? ⟨q, 0, none⟩ = some (.string x.f0) := (zc Zw2.out 0).trans rfl; have cw2_1 : w2.cell? ⟨q, 1, none⟩ = some (.string x.f1) := (zc Zw2.out 1).trans rfl; have cw2_2 : w2.cell? ⟨q, 2, none⟩ = some (.int .i64 x.f2) := (zc Zw2.out 2).trans rfl; have cw2_3 : w2.cell? ⟨q, 3, none⟩ = some (.int .i64 x.f3.f0) := (zc Zw2.out 3).trans rfl; have cw2_4 : w2.cell? ⟨q, 4, none⟩ = some (.int .i64 x.f3.f1) := (zc Zw2.out 4).trans rfl; have cw2_5 : w2.cell? ⟨q, 5, none⟩ = some (.int .i64 x.f3.f2) := (zc Zw2.out 5).trans rfl; have cw2_6 : w2.cell? ⟨q, 6, none⟩ = some (.int .i64 x.f3.f3) := (zc Zw2.out 6).trans rfl; have cw2_7 : w2.cell? ⟨q, 7, none⟩ = some (.int .i64 x.f4.f0) := (zc Zw2.out 7).trans rfl; have cw2_8 : w2.cell? ⟨q, 8, none⟩ = some (.int .i64 x.f4.f1) := (zc Zw2.out 8).trans rfl; have cw2_9 : w2.cell? ⟨q, 9, none⟩ = some (.int .i64 x.f4.f2) := (zc Zw2.out 9).trans rfl; have cw2_10 : w2.cell? ⟨q, 10, none⟩ = some (.int .i64 x.f4.f3) := (zc Zw2.out 10).trans rfl; have cw2_11 : w2.cell? ⟨q, 11, none⟩ = some (.int .i64 x.f5) := (zc Zw2.out 11).trans rfl; clear hb) | (go_at_call 75; (with_reducible refine (label_Good.calls x.f1 true _ (HT.out.below HBw2.out) (hG2.out)).mono ?_); rintro e w3 ⟨rfl, hb⟩; have HBw3 := ak_ (below_step HBw2.out hb); have Zw3 := ak_ (blk_below Zw2.out hb); have cw3_0 : w3.cell? ⟨q, 0, none⟩ = some (.string x.f0) := (zc Zw3.out 0).trans rfl; have cw3_1 : w3.cell? ⟨q, 1, none⟩ = some (.string x.f1) := (zc Zw3.out 1).trans rfl; have cw3_2 : w3.cell? ⟨q, 2, none⟩ = some (.int .i64 x.f2) := (zc Zw3.out 2).trans rfl; have cw3_3 : w3.cell? ⟨q, 3, none⟩ = some (.int .i64 x.f3.f0) := (zc Zw3.out 3).trans rfl; have cw3_4 : w3.cell? ⟨q, 4, none⟩ = some (.int .i64 x.f3.f1) := (zc Zw3.out 4).trans rfl; have cw3_5 : w3.cell? ⟨q, 5, none⟩ = some (.int .i64 x.f3.f2) := (zc Zw3.out 5).trans rfl; have cw3_6 : w3.cell? ⟨q, 6, none⟩ = some (.int .i64 x.f3.f3) := (zc Zw3.out 6).trans rfl; have cw3_7 : w3.cell? ⟨q, 7, none⟩ = some (.int .i64 x.f4.f0) := (zc Zw3.out 7).trans rfl; have cw3_8 : w3.cell? ⟨q, 8, none⟩ = some (.int .i64 x.f4.f1) := (zc Zw3.out 8).trans rfl; have cw3_9 : w3.cell? ⟨q, 9, none⟩ = some (.int .i64 x.f4.f2) := (zc Zw3.out 9).trans rfl; have cw3_10 : w3.cell? ⟨q, 10, none⟩ = some (.int .i64 x.f4.f3) := (zc Zw3.out 10).trans rfl; have cw3_11 : w3.cell? ⟨q, 11, none⟩ = some (.int .i64 x.f5) := (zc Zw3.out 11).trans rfl; clear hb) | (go_at_call 87; refine (cC _ (Kd.C_below hRT.out HBw3.out) ((zc Zw3.out 0).trans rfl)).mono ?_; rw [hAN.out]; rintro e w4 ⟨rfl, hb⟩; have HBw4 := ak_ (below_step HBw3.out hb); have Zw4 := ak_ (blk_below Zw3.out hb); have cw4_0 : w4.cell? ⟨q, 0, none⟩ = some (.string x.f0) := (zc Zw4.out 0).trans rfl; have cw4_1 : w4.cell? ⟨q, 1, none⟩ = some (.string x.f1) := (zc Zw4.out 1).trans rfl; have cw4_2 : w4.cell? ⟨q, 2, none⟩ = some (.int .i64 x.f2) := (zc Zw4.out 2).trans rfl; have cw4_3 : w4.cell? ⟨q, 3, none⟩ = some (.int .i64 x.f3.f0) := (zc Zw4.out 3).trans rfl; have cw4_4 : w4.cell? ⟨q, 4, none⟩ = some (.int .i64 x.f3.f1) := (zc Zw4.out 4).trans rfl; have cw4_5 : w4.cell? ⟨q, 5, none⟩ = some (.int .i64 x.f3.f2) := (zc Zw4.out 5).trans rfl; have cw4_6 : w4.cell? ⟨q, 6, none⟩ = some (.int .i64 x.f3.f3) := (zc Zw4.out 6).trans rfl; have cw4_7 : w4.cell? ⟨q, 7, none⟩ = some (.int .i64 x.f4.f0) := (zc Zw4.out 7).trans rfl; have cw4_8 : w4.cell? ⟨q, 8, none⟩ = some (.int .i64 x.f4.f1) := (zc Zw4.out 8).trans rfl; have cw4_9 : w4.cell? ⟨q, 9, none⟩ = some (.int .i64 x.f4.f2) := (zc Zw4.out 9).trans rfl; have cw4_10 : w4.cell? ⟨q, 10, none⟩ = some (.int .i64 x.f4.f3) := (zc Zw4.out 10).trans rfl; have cw4_11 : w4.cell? ⟨q, 11, none⟩ = some (.int .i64 x.f5) := (zc Zw4.out 11).trans rfl; clear hb))
        go_ret
        exact ⟨by rw [HE.out]; rfl, HBw4.out⟩
      · have d1 : decide (x.f2 < 1) = false := df_ t1
        by_cases t2 : x.f2 > 1099511627776
        · have hTG := ak_ (show tick_Good.f x.f2 = some false by rw [tick_Good_f, df_ (by omega)])
          rw [show numB x = true from dt_ (.inr (.inl t2))] at hR
          have HE := ak_ (show R = 1 from hR.symm)
          go_wp2_with (first | (go_at_call 75; (with_reducible refine (label_Good.calls x.f0 true _ (HT.out.below HB1.out) (hG1.out)).mono ?_); rintro e w2 ⟨rfl, hb⟩; have HBw2 := ak_ (below_step HB1.out hb); have Zw2 := ak_ (blk_below Z1.out hb); have cw2_0 : w2.cell? ⟨q, 0, none⟩ = some (.string x.f0) := (zc Zw2.out 0).trans rfl; have cw2_1 : w2.cell? ⟨q, 1, none⟩ = some (.string x.f1) := (zc Zw2.out 1).trans rfl; have cw2_2 : w2.cell? ⟨q, 2, none⟩ = some (.int .i64 x.f2) := (zc Zw2.out 2).trans rfl; have cw2_3 : w2.cell? ⟨q, 3, none⟩ = some (.int .i64 x.f3.f0) := (zc Zw2.out 3).trans rfl; have cw2_4 : w2.cell? ⟨q, 4, none⟩ = some (.int .i64 x.f3.f1) := (zc Zw2.out 4).trans rfl; have cw2_5 : w2.cell? ⟨q, 5, none⟩ = some (.int .i64 x.f3.f2) := (zc Zw2.out 5).trans rfl; have cw2_6 : w2.cell? ⟨q, 6, none⟩ = some (.int .i64 x.f3.f3) := (zc Zw2.out 6).trans rfl; have cw2_7 : w2.cell? ⟨q, 7, none⟩ = some (.int .i64 x.f4.f0) := (zc Zw2.out 7).trans rfl; have cw2_8 : w2.cell? ⟨q, 8, none⟩ = some (.int .i64 x.f4.f1) := (zc Zw2.out 8).trans rfl; have cw2_9 : w2.cell? ⟨q, 9, none⟩ = some (.int .i64 x.f4.f2) := (zc Zw2.out 9).trans rfl; have cw2_10 : w2.cell? ⟨q, 10, none⟩ = some (.int .i64 x.f4.f3) := (zc Zw2.out 10).trans rfl; have cw2_11 : w2.cell? ⟨q, 11, none⟩ = some (.int .i64 x.f5) := (zc Zw2.out 11).trans rfl; clear hb) | (go_at_call 75; (with_reducible refine (label_Good.calls x.f1 true _ (HT.out.below HBw2.out) (hG2.out)).mono ?_); rintro e w3 ⟨rfl, hb⟩; have HBw3 := ak_ (below_step HBw2.out hb); have Zw3 := ak_ (blk_below Zw2.out hb); have cw3_0 : w3.cell? ⟨q, 0, none⟩ = some (.string x.f0) := (zc Zw3.out 0).trans rfl; have cw3_1 : w3.cell? ⟨q, 1, none⟩ = some (.string x.f1) := (zc Zw3.out 1).trans rfl; have cw3_2 : w3.cell? ⟨q, 2, none⟩ = some (.int .i64 x.f2) := (zc Zw3.out 2).trans rfl; have cw3_3 : w3.cell? ⟨q, 3, none⟩ = some (.int .i64 x.f3.f0) := (zc Zw3.out 3).trans rfl; have cw3_4 : w3.cell? ⟨q, 4, none⟩ = some (.int .i64 x.f3.f1) := (zc Zw3.out 4).trans rfl; have cw3_5 : w3.cell? ⟨q, 5, none⟩ = some (.int .i64 x.f3.f2) := (zc Zw3.out 5).trans rfl; have cw3_6 : w3.cell? ⟨q, 6, none⟩ = some (.int .i64 x.f3.f3) := (zc Zw3.out 6).trans rfl; have cw3_7 : w3.cell? ⟨q, 7, none⟩ = some (.int .i64 x.f4.f0) := (zc Zw3.out 7).trans rfl; have cw3_8 : w3.cell? ⟨q, 8, none⟩ = some (.int .i64 x.f4.f1) := (zc Zw3.out 8).trans rfl; have cw3_9 : w3.cell? ⟨q, 9, none⟩ = some (.int .i64 x.f4.f2) := (zc Zw3.out 9).trans rfl; have cw3_10 : w3.cell? ⟨q, 10, none⟩ = some (.int .i64 x.f4.f3) := (zc Zw3.out 10).trans rfl; have cw3_11 : w3.cell? ⟨q, 11, none⟩ = some (.int .i64 x.f5) := (zc Zw3.out 11).trans rfl; clear hb) | (go_at_call 87; refine (cC _ (Kd.C_below hRT.out HBw3.out) ((zc Zw3.out 0).trans rfl)).mono ?_; rw [hAN.out]; rintro e w4 ⟨rfl, hb⟩; have HBw4 := ak_ (below_step HBw3.out hb); have Zw4 := ak_ (blk_below Zw3.out hb); have cw4_0 : w4.cell? ⟨q, 0, none⟩ = some (.string x.f0) := (zc Zw4.out 0).trans rfl; have cw4_1 : w4.cell? ⟨q, 1, none⟩ = some (.string x.f1) := (zc Zw4.out 1).trans rfl; have cw4_2 : w4.cell? ⟨q, 2, none⟩ = some (.int .i64 x.f2) := (zc Zw4.out 2).trans rfl; have cw4_3 : w4.cell? ⟨q, 3, none⟩ = some (.int .i64 x.f3.f0) := (zc Zw4.out 3).trans rfl; have cw4_4 : w4.cell? ⟨q, 4, none⟩ = some (.int .i64 x.f3.f1) := (zc Zw4.out 4).trans rfl; have cw4_5 : w4.cell? ⟨q, 5, none⟩ = some (.int .i64 x.f3.f2) := (zc Zw4.out 5).trans rfl; have cw4_6 : w4.cell? ⟨q, 6, none⟩ = some (.int .i64 x.f3.f3) := (zc Zw4.out 6).trans rfl; have cw4_7 : w4.cell? ⟨q, 7, none⟩ = some (.int .i64 x.f4.f0) := (zc Zw4.out 7).trans rfl; have cw4_8 : w4.cell? ⟨q, 8, none⟩ = some (.int .i64 x.f4.f1) := (zc Zw4.out 8).trans rfl; have cw4_9 : w4.cell? ⟨q, 9, none⟩ = some (.int .i64 x.f4.f2) := (zc Zw4.out 9).trans rfl; have cw4_10 : w4.cell? ⟨q, 10, none⟩ = some (.int .i64 x.f4.f3) := (zc Zw4.out 10).trans rfl; have cw4_11 : w4.cell? ⟨q, 11, none⟩ = some (.int .i64 x.f5) := (zc Zw4.out 11).trans rfl; clear hb) | (go_at_call 51; refine (tick_Good.calls x.f2 false _ hTG.out).mono ?_; rintro e w' ⟨rfl, ⟨nd, rfl⟩⟩))
          go_ret
          exact ⟨by rw [HE.out]; rfl, pw_below_drewN HBw4.out _⟩
        · have hTG := ak_ (show tick_Good.f x.f2 = some true by rw [tick_Good_f, dt_ (by omega)])
          by_cases t3 : x.f5 < 0
          · have d3 : decide (x.f5 < 0) = true := dt_ t3
            rw [show numB x = true from dt_ (.inr (.inr (.inl t3)))] at hR
            have HE := ak_ (show R = 1 from hR.symm)
            go_wp2_with (first | (go_at_call 75; (with_reducible refine (label_Good.calls x.f0 true _ (HT.out.below HB1.out) (hG1.out)).mono ?_); rintro e w2 ⟨rfl, hb⟩; have HBw2 := ak_ (below_step HB1.out hb); have Zw2 := ak_ (blk_below Z1.out hb); have cw2_0 : w2.cell? ⟨q, 0, none⟩ = some (.string x.f0) := (zc Zw2.out 0).trans rfl; have cw2_1 : w2.cell? ⟨q, 1, none⟩ = some (.string x.f1) := (zc Zw2.out 1).trans rfl; have cw2_2 : w2.cell? ⟨q, 2, none⟩ = some (.int .i64 x.f2) := (zc Zw2.out 2).trans rfl; have cw2_3 : w2.cell? ⟨q, 3, none⟩ = some (.int .i64 x.f3.f0) := (zc Zw2.out 3).trans rfl; have cw2_4 : w2.cell? ⟨q, 4, none⟩ = some (.int .i64 x.f3.f1) := (zc Zw2.out 4).trans rfl; have cw2_5 : w2.cell? ⟨q, 5, none⟩ = some (.int .i64 x.f3.f2) := (zc Zw2.out 5).trans rfl; have cw2_6 : w2.cell? ⟨q, 6, none⟩ = some (.int .i64 x.f3.f3) := (zc Zw2.out 6).trans rfl; have cw2_7 : w2.cell? ⟨q, 7, none⟩ = some (.int .i64 x.f4.f0) := (zc Zw2.out 7).trans rfl; have cw2_8 : w2.cell? ⟨q, 8, none⟩ = some (.int .i64 x.f4.f1) := (zc Zw2.out 8).trans rfl; have cw2_9 : w2.cell? ⟨q, 9, none⟩ = some (.int .i64 x.f4.f2) := (zc Zw2.out 9).trans rfl; have cw2_10 : w2.cell? ⟨q, 10, none⟩ = some (.int .i64 x.f4.f3) := (zc Zw2.out 10).trans rfl; have cw2_11 : w2.cell? ⟨q, 11, none⟩ = some (.int .i64 x.f5) := (zc Zw2.out 11).trans rfl; clear hb) | (go_at_call 75; (with_reducible refine (label_Good.calls x.f1 true _ (HT.out.below HBw2.out) (hG2.out)).mono ?_); rintro e w3 ⟨rfl, hb⟩; have HBw3 := ak_ (below_step HBw2.out hb); have Zw3 := ak_ (blk_below Zw2.out hb); have cw3_0 : w3.cell? ⟨q, 0, none⟩ = some (.string x.f0) := (zc Zw3.out 0).trans rfl; have cw3_1 : w3.cell? ⟨q, 1, none⟩ = some (.string x.f1) := (zc Zw3.out 1).trans rfl; have cw3_2 : w3.cell? ⟨q, 2, none⟩ = some (.int .i64 x.f2) := (zc Zw3.out 2).trans rfl; have cw3_3 : w3.cell? ⟨q, 3, none⟩ = some (.int .i64 x.f3.f0) := (zc Zw3.out 3).trans rfl; have cw3_4 : w3.cell? ⟨q, 4, none⟩ = some (.int .i64 x.f3.f1) := (zc Zw3.out 4).trans rfl; have cw3_5 : w3.cell? ⟨q, 5, none⟩ = some (.int .i64 x.f3.f2) := (zc Zw3.out 5).trans rfl; have cw3_6 : w3.cell? ⟨q, 6, none⟩ = some (.int .i64 x.f3.f3) := (zc Zw3.out 6).trans rfl; have cw3_7 : w3.cell? ⟨q, 7, none⟩ = some (.int .i64 x.f4.f0) := (zc Zw3.out 7).trans rfl; have cw3_8 : w3.cell? ⟨q, 8, none⟩ = some (.int .i64 x.f4.f1) := (zc Zw3.out 8).trans rfl; have cw3_9 : w3.cell? ⟨q, 9, none⟩ = some (.int .i64 x.f4.f2) := (zc Zw3.out 9).trans rfl; have cw3_10 : w3.cell? ⟨q, 10, none⟩ = some (.int .i64 x.f4.f3) := (zc Zw3.out 10).trans rfl; have cw3_11 : w3.cell? ⟨q, 11, none⟩ = some (.int .i64 x.f5) := (zc Zw3.out 11).trans rfl; clear hb) | (go_at_call 87; refine (cC _ (Kd.C_below hRT.out HBw3.out) ((zc Zw3.out 0).trans rfl)).mono ?_; rw [hAN.out]; rintro e w4 ⟨rfl, hb⟩; have HBw4 := ak_ (below_step HBw3.out hb); have Zw4 := ak_ (blk_below Zw3.out hb); have cw4_0 : w4.cell? ⟨q, 0, none⟩ = some (.string x.f0) := (zc Zw4.out 0).trans rfl; have cw4_1 : w4.cell? ⟨q, 1, none⟩ = some (.string x.f1) := (zc Zw4.out 1).trans rfl; have cw4_2 : w4.cell? ⟨q, 2, none⟩ = some (.int .i64 x.f2) := (zc Zw4.out 2).trans rfl; have cw4_3 : w4.cell? ⟨q, 3, none⟩ = some (.int .i64 x.f3.f0) := (zc Zw4.out 3).trans rfl; have cw4_4 : w4.cell? ⟨q, 4, none⟩ = some (.int .i64 x.f3.f1) := (zc Zw4.out 4).trans rfl; have cw4_5 : w4.cell? ⟨q, 5, none⟩ = some (.int .i64 x.f3.f2) := (zc Zw4.out 5).trans rfl; have cw4_6 : w4.cell? ⟨q, 6, none⟩ = some (.int .i64 x.f3.f3) := (zc Zw4.out 6).trans rfl; have cw4_7 : w4.cell? ⟨q, 7, none⟩ = some (.int .i64 x.f4.f0) := (zc Zw4.out 7).trans rfl; have cw4_8 : w4.cell? ⟨q, 8, none⟩ = some (.int .i64 x.f4.f1) := (zc Zw4.out 8).trans rfl; have cw4_9 : w4.cell? ⟨q, 9, none⟩ = some (.int .i64 x.f4.f2) := (zc Zw4.out 9).trans rfl; have cw4_10 : w4.cell? ⟨q, 10, none⟩ = some (.int .i64 x.f4.f3) := (zc Zw4.out 10).trans rfl; have cw4_11 : w4.cell? ⟨q, 11, none⟩ = some (.int .i64 x.f5) := (zc Zw4.out 11).trans rfl; clear hb) | (go_at_call 51; refine (tick_Good.calls x.f2 true _ hTG.out).mono ?_; rintro e w' ⟨rfl, ⟨nd, rfl⟩⟩))
            go_ret
            exact ⟨by rw [HE.out]; rfl, pw_below_drewN HBw4.out _⟩
          · have d3 : decide (x.f5 < 0) = false := df_ t3
            by_cases t4 : x.f5 > 255
            · have d4 : decide (255 < x.f5) = true := dt_ t4
              rw [show numB x = true from dt_ (.inr (.inr (.inr t4)))] at hR
              have HE := ak_ (show R = 1 from hR.symm)
              go_wp2_with (first | (go_at_call 75; (with_reducible refine (label_Good.calls x.f0 true _ (HT.out.below HB1.out) (hG1.out)).mono ?_); rintro e w2 ⟨rfl, hb⟩; have HBw2 := ak_ (below_step HB1.out hb); have Zw2 := ak_ (blk_below Z1.out hb); have cw2_0 : w2.cell? ⟨q, 0, none⟩ = some (.string x.f0) := (zc Zw2.out 0).trans rfl; have cw2_1 : w2.cell? ⟨q, 1, none⟩ = some (.string x.f1) := (zc Zw2.out 1).trans rfl; have cw2_2 : w2.cell? ⟨q, 2, none⟩ = some (.int .i64 x.f2) := (zc Zw2.out 2).trans rfl; have cw2_3 : w2.cell? ⟨q, 3, none⟩ = some (.int .i64 x.f3.f0) := (zc Zw2.out 3).trans rfl; have cw2_4 : w2.cell? ⟨q, 4, none⟩ = some (.int .i64 x.f3.f1) := (zc Zw2.out 4).trans rfl; have cw2_5 : w2.cell? ⟨q, 5, none⟩ = some (.int .i64 x.f3.f2) := (zc Zw2.out 5).trans rfl; have cw2_6 : w2.cell? ⟨q, 6, none⟩ = some (.int .i64 x.f3.f3) := (zc Zw2.out 6).trans rfl; have cw2_7 : w2.cell? ⟨q, 7, none⟩ = some (.int .i64 x.f4.f0) := (zc Zw2.out 7).trans rfl; have cw2_8 : w2.cell? ⟨q, 8, none⟩ = some (.int .i64 x.f4.f1) := (zc Zw2.out 8).trans rfl; have cw2_9 : w2.cell? ⟨q, 9, none⟩ = some (.int .i64 x.f4.f2) := (zc Zw2.out 9).trans rfl; have cw2_10 : w2.cell? ⟨q, 10, none⟩ = some (.int .i64 x.f4.f3) := (zc Zw2.out 10).trans rfl; have cw2_11 : w2.cell? ⟨q, 11, none⟩ = some (.int .i64 x.f5) := (zc Zw2.out 11).trans rfl; clear hb) | (go_at_call 75; (with_reducible refine (label_Good.calls x.f1 true _ (HT.out.below HBw2.out) (hG2.out)).mono ?_); rintro e w3 ⟨rfl, hb⟩; have HBw3 := ak_ (below_step HBw2.out hb); have Zw3 := ak_ (blk_below Zw2.out hb); have cw3_0 : w3.cell? ⟨q, 0, none⟩ = some (.string x.f0) := (zc Zw3.out 0).trans rfl; have cw3_1 : w3.cell? ⟨q, 1, none⟩ = some (.string x.f1) := (zc Zw3.out 1).trans rfl; have cw3_2 : w3.cell? ⟨q, 2, none⟩ = some (.int .i64 x.f2) := (zc Zw3.out 2).trans rfl; have cw3_3 : w3.cell? ⟨q, 3, none⟩ = some (.int .i64 x.f3.f0) := (zc Zw3.out 3).trans rfl; have cw3_4 : w3.cell? ⟨q, 4, none⟩ = some (.int .i64 x.f3.f1) := (zc Zw3.out 4).trans rfl; have cw3_5 : w3.cell? ⟨q, 5, none⟩ = some (.int .i64 x.f3.f2) := (zc Zw3.out 5).trans rfl; have cw3_6 : w3.cell? ⟨q, 6, none⟩ = some (.int .i64 x.f3.f3) := (zc Zw3.out 6).trans rfl; have cw3_7 : w3.cell? ⟨q, 7, none⟩ = some (.int .i64 x.f4.f0) := (zc Zw3.out 7).trans rfl; have cw3_8 : w3.cell? ⟨q, 8, none⟩ = some (.int .i64 x.f4.f1) := (zc Zw3.out 8).trans rfl; have cw3_9 : w3.cell? ⟨q, 9, none⟩ = some (.int .i64 x.f4.f2) := (zc Zw3.out 9).trans rfl; have cw3_10 : w3.cell? ⟨q, 10, none⟩ = some (.int .i64 x.f4.f3) := (zc Zw3.out 10).trans rfl; have cw3_11 : w3.cell? ⟨q, 11, none⟩ = some (.int .i64 x.f5) := (zc Zw3.out 11).trans rfl; clear hb) | (go_at_call 87; refine (cC _ (Kd.C_below hRT.out HBw3.out) ((zc Zw3.out 0).trans rfl)).mono ?_; rw [hAN.out]; rintro e w4 ⟨rfl, hb⟩; have HBw4 := ak_ (below_step HBw3.out hb); have Zw4 := ak_ (blk_below Zw3.out hb); have cw4_0 : w4.cell? ⟨q, 0, none⟩ = some (.string x.f0) := (zc Zw4.out 0).trans rfl; have cw4_1 : w4.cell? ⟨q, 1, none⟩ = some (.string x.f1) := (zc Zw4.out 1).trans rfl; have cw4_2 : w4.cell? ⟨q, 2, none⟩ = some (.int .i64 x.f2) := (zc Zw4.out 2).trans rfl; have cw4_3 : w4.cell? ⟨q, 3, none⟩ = some (.int .i64 x.f3.f0) := (zc Zw4.out 3).trans rfl; have cw4_4 : w4.cell? ⟨q, 4, none⟩ = some (.int .i64 x.f3.f1) := (zc Zw4.out 4).trans rfl; have cw4_5 : w4.cell? ⟨q, 5, none⟩ = some (.int .i64 x.f3.f2) := (zc Zw4.out 5).trans rfl; have cw4_6 : w4.cell? ⟨q, 6, none⟩ = some (.int .i64 x.f3.f3) := (zc Zw4.out 6).trans rfl; have cw4_7 : w4.cell? ⟨q, 7, none⟩ = some (.int .i64 x.f4.f0) := (zc Zw4.out 7).trans rfl; have cw4_8 : w4.cell? ⟨q, 8, none⟩ = some (.int .i64 x.f4.f1) := (zc Zw4.out 8).trans rfl; have cw4_9 : w4.cell? ⟨q, 9, none⟩ = some (.int .i64 x.f4.f2) := (zc Zw4.out 9).trans rfl; have cw4_10 : w4.cell? ⟨q, 10, none⟩ = some (.int .i64 x.f4.f3) := (zc Zw4.out 10).trans rfl; have cw4_11 : w4.cell? ⟨q, 11, none⟩ = some (.int .i64 x.f5) := (zc Zw4.out 11).trans rfl; clear hb) | (go_at_call 51; refine (tick_Good.calls x.f2 true _ hTG.out).mono ?_; rintro e w' ⟨rfl, ⟨nd, rfl⟩⟩))
              go_ret
              exact ⟨by rw [HE.out]; rfl, pw_below_drewN HBw4.out _⟩
            · have d4 : decide (255 < x.f5) = false := df_ t4
              rw [show numB x = false from df_ (by omega)] at hR
              clear t1 t2 t3 t4
              cases p3 with
              | false =>
               have HE := ak_ (show R = 3 from hR.symm)
               go_wp2_with (first | (go_at_call 75; (with_reducible refine (label_Good.calls x.f0 true _ (HT.out.below HB1.out) (hG1.out)).mono ?_); rintro e w2 ⟨rfl, hb⟩; have HBw2 := ak_ (below_step HB1.out hb); have Zw2 := ak_ (blk_below Z1.out hb); have cw2_0 : w2.cell? ⟨q, 0, none⟩ = some (.string x.f0) := (zc Zw2.out 0).trans rfl; have cw2_1 : w2.cell? ⟨q, 1, none⟩ = some (.string x.f1) := (zc Zw2.out 1).trans rfl; have cw2_2 : w2.cell? ⟨q, 2, none⟩ = some (.int .i64 x.f2) := (zc Zw2.out 2).trans rfl; have cw2_3 : w2.cell? ⟨q, 3, none⟩ = some (.int .i64 x.f3.f0) := (zc Zw2.out 3).trans rfl; have cw2_4 : w2.cell? ⟨q, 4, none⟩ = some (.int .i64 x.f3.f1) := (zc Zw2.out 4).trans rfl; have cw2_5 : w2.cell? ⟨q, 5, none⟩ = some (.int .i64 x.f3.f2) := (zc Zw2.out 5).trans rfl; have cw2_6 : w2.cell? ⟨q, 6, none⟩ = some (.int .i64 x.f3.f3) := (zc Zw2.out 6).trans rfl; have cw2_7 : w2.cell? ⟨q, 7, none⟩ = some (.int .i64 x.f4.f0) := (zc Zw2.out 7).trans rfl; have cw2_8 : w2.cell? ⟨q, 8, none⟩ = some (.int .i64 x.f4.f1) := (zc Zw2.out 8).trans rfl; have cw2_9 : w2.cell? ⟨q, 9, none⟩ = some (.int .i64 x.f4.f2) := (zc Zw2.out 9).trans rfl; have cw2_10 : w2.cell? ⟨q, 10, none⟩ = some (.int .i64 x.f4.f3) := (zc Zw2.out 10).trans rfl; have cw2_11 : w2.cell? ⟨q, 11, none⟩ = some (.int .i64 x.f5) := (zc Zw2.out 11).trans rfl; clear hb) | (go_at_call 75; (with_reducible refine (label_Good.calls x.f1 true _ (HT.out.below HBw2.out) (hG2.out)).mono ?_); rintro e w3 ⟨rfl, hb⟩; have HBw3 := ak_ (below_step HBw2.out hb); have Zw3 := ak_ (blk_below Zw2.out hb); have cw3_0 : w3.cell? ⟨q, 0, none⟩ = some (.string x.f0) := (zc Zw3.out 0).trans rfl; have cw3_1 : w3.cell? ⟨q, 1, none⟩ = some (.string x.f1) := (zc Zw3.out 1).trans rfl; have cw3_2 : w3.cell? ⟨q, 2, none⟩ = some (.int .i64 x.f2) := (zc Zw3.out 2).trans rfl; have cw3_3 : w3.cell? ⟨q, 3, none⟩ = some (.int .i64 x.f3.f0) := (zc Zw3.out 3).trans rfl; have cw3_4 : w3.cell? ⟨q, 4, none⟩ = some (.int .i64 x.f3.f1) := (zc Zw3.out 4).trans rfl; have cw3_5 : w3.cell? ⟨q, 5, none⟩ = some (.int .i64 x.f3.f2) := (zc Zw3.out 5).trans rfl; have cw3_6 : w3.cell? ⟨q, 6, none⟩ = some (.int .i64 x.f3.f3) := (zc Zw3.out 6).trans rfl; have cw3_7 : w3.cell? ⟨q, 7, none⟩ = some (.int .i64 x.f4.f0) := (zc Zw3.out 7).trans rfl; have cw3_8 : w3.cell? ⟨q, 8, none⟩ = some (.int .i64 x.f4.f1) := (zc Zw3.out 8).trans rfl; have cw3_9 : w3.cell? ⟨q, 9, none⟩ = some (.int .i64 x.f4.f2) := (zc Zw3.out 9).trans rfl; have cw3_10 : w3.cell? ⟨q, 10, none⟩ = some (.int .i64 x.f4.f3) := (zc Zw3.out 10).trans rfl; have cw3_11 : w3.cell? ⟨q, 11, none⟩ = some (.int .i64 x.f5) := (zc Zw3.out 11).trans rfl; clear hb) | (go_at_call 87; refine (cC _ (Kd.C_below hRT.out HBw3.out) ((zc Zw3.out 0).trans rfl)).mono ?_; rw [hAN.out]; rintro e w4 ⟨rfl, hb⟩; have HBw4 := ak_ (below_step HBw3.out hb); have Zw4 := ak_ (blk_below Zw3.out hb); have cw4_0 : w4.cell? ⟨q, 0, none⟩ = some (.string x.f0) := (zc Zw4.out 0).trans rfl; have cw4_1 : w4.cell? ⟨q, 1, none⟩ = some (.string x.f1) := (zc Zw4.out 1).trans rfl; have cw4_2 : w4.cell? ⟨q, 2, none⟩ = some (.int .i64 x.f2) := (zc Zw4.out 2).trans rfl; have cw4_3 : w4.cell? ⟨q, 3, none⟩ = some (.int .i64 x.f3.f0) := (zc Zw4.out 3).trans rfl; have cw4_4 : w4.cell? ⟨q, 4, none⟩ = some (.int .i64 x.f3.f1) := (zc Zw4.out 4).trans rfl; have cw4_5 : w4.cell? ⟨q, 5, none⟩ = some (.int .i64 x.f3.f2) := (zc Zw4.out 5).trans rfl; have cw4_6 : w4.cell? ⟨q, 6, none⟩ = some (.int .i64 x.f3.f3) := (zc Zw4.out 6).trans rfl; have cw4_7 : w4.cell? ⟨q, 7, none⟩ = some (.int .i64 x.f4.f0) := (zc Zw4.out 7).trans rfl; have cw4_8 : w4.cell? ⟨q, 8, none⟩ = some (.int .i64 x.f4.f1) := (zc Zw4.out 8).trans rfl; have cw4_9 : w4.cell? ⟨q, 9, none⟩ = some (.int .i64 x.f4.f2) := (zc Zw4.out 9).trans rfl; have cw4_10 : w4.cell? ⟨q, 10, none⟩ = some (.int .i64 x.f4.f3) := (zc Zw4.out 10).trans rfl; have cw4_11 : w4.cell? ⟨q, 11, none⟩ = some (.int .i64 x.f5) := (zc Zw4.out 11).trans rfl; clear hb) | (go_at_call 51; refine (tick_Good.calls x.f2 true _ hTG.out).mono ?_; rintro e w' ⟨rfl, ⟨nd, rfl⟩⟩) | (go_at_call 77; (with_reducible refine (backoff_Good.calls x.f3.f0 x.f3.f1 x.f3.f2 x.f3.f3 false _ hP3.out).mono ?_); rintro e w5 ⟨rfl, hb⟩; have HBw5 := ak_ (below_step (pw_below_drewN HBw4.out _) hb); have Zw5 := ak_ (blk_below (blk_drewN Zw4.out _) hb); have cw5_0 : w5.cell? ⟨q, 0, none⟩ = some (.string x.f0) := (zc Zw5.out 0).trans rfl; have cw5_1 : w5.cell? ⟨q, 1, none⟩ = some (.string x.f1) := (zc Zw5.out 1).trans rfl; have cw5_2 : w5.cell? ⟨q, 2, none⟩ = some (.int .i64 x.f2) := (zc Zw5.out 2).trans rfl; have cw5_3 : w5.cell? ⟨q, 3, none⟩ = some (.int .i64 x.f3.f0) := (zc Zw5.out 3).trans rfl; have cw5_4 : w5.cell? ⟨q, 4, none⟩ = some (.int .i64 x.f3.f1) := (zc Zw5.out 4).trans rfl; have cw5_5 : w5.cell? ⟨q, 5, none⟩ = some (.int .i64 x.f3.f2) := (zc Zw5.out 5).trans rfl; have cw5_6 : w5.cell? ⟨q, 6, none⟩ = some (.int .i64 x.f3.f3) := (zc Zw5.out 6).trans rfl; have cw5_7 : w5.cell? ⟨q, 7, none⟩ = some (.int .i64 x.f4.f0) := (zc Zw5.out 7).trans rfl; have cw5_8 : w5.cell? ⟨q, 8, none⟩ = some (.int .i64 x.f4.f1) := (zc Zw5.out 8).trans rfl; have cw5_9 : w5.cell? ⟨q, 9, none⟩ = some (.int .i64 x.f4.f2) := (zc Zw5.out 9).trans rfl; have cw5_10 : w5.cell? ⟨q, 10, none⟩ = some (.int .i64 x.f4.f3) := (zc Zw5.out 10).trans rfl; have cw5_11 : w5.cell? ⟨q, 11, none⟩ = some (.int .i64 x.f5) := (zc Zw5.out 11).trans rfl; clear hb))
               go_ret
               exact ⟨by rw [HE.out]; rfl, HBw5.out⟩
              | true =>
               cases p4 with
               | false =>
                have HE := ak_ (show R = 3 from hR.symm)
                go_wp2_with (first | (go_at_call 75; (with_reducible refine (label_Good.calls x.f0 true _ (HT.out.below HB1.out) (hG1.out)).mono ?_); rintro e w2 ⟨rfl, hb⟩; have HBw2 := ak_ (below_step HB1.out hb); have Zw2 := ak_ (blk_below Z1.out hb); have cw2_0 : w2.cell? ⟨q, 0, none⟩ = some (.string x.f0) := (zc Zw2.out 0).trans rfl; have cw2_1 : w2.cell? ⟨q, 1, none⟩ = some (.string x.f1) := (zc Zw2.out 1).trans rfl; have cw2_2 : w2.cell? ⟨q, 2, none⟩ = some (.int .i64 x.f2) := (zc Zw2.out 2).trans rfl; have cw2_3 : w2.cell? ⟨q, 3, none⟩ = some (.int .i64 x.f3.f0) := (zc Zw2.out 3).trans rfl; have cw2_4 : w2.cell? ⟨q, 4, none⟩ = some (.int .i64 x.f3.f1) := (zc Zw2.out 4).trans rfl; have cw2_5 : w2.cell? ⟨q, 5, none⟩ = some (.int .i64 x.f3.f2) := (zc Zw2.out 5).trans rfl; have cw2_6 : w2.cell? ⟨q, 6, none⟩ = some (.int .i64 x.f3.f3) := (zc Zw2.out 6).trans rfl; have cw2_7 : w2.cell? ⟨q, 7, none⟩ = some (.int .i64 x.f4.f0) := (zc Zw2.out 7).trans rfl; have cw2_8 : w2.cell? ⟨q, 8, none⟩ = some (.int .i64 x.f4.f1) := (zc Zw2.out 8).trans rfl; have cw2_9 : w2.cell? ⟨q, 9, none⟩ = some (.int .i64 x.f4.f2) := (zc Zw2.out 9).trans rfl; have cw2_10 : w2.cell? ⟨q, 10, none⟩ = some (.int .i64 x.f4.f3) := (zc Zw2.out 10).trans rfl; have cw2_11 : w2.cell? ⟨q, 11, none⟩ = some (.int .i64 x.f5) := (zc Zw2.out 11).trans rfl; clear hb) | (go_at_call 75; (with_reducible refine (label_Good.calls x.f1 true _ (HT.out.below HBw2.out) (hG2.out)).mono ?_); rintro e w3 ⟨rfl, hb⟩; have HBw3 := ak_ (below_step HBw2.out hb); have Zw3 := ak_ (blk_below Zw2.out hb); have cw3_0 : w3.cell? ⟨q, 0, none⟩ = some (.string x.f0) := (zc Zw3.out 0).trans rfl; have cw3_1 : w3.cell? ⟨q, 1, none⟩ = some (.string x.f1) := (zc Zw3.out 1).trans rfl; have cw3_2 : w3.cell? ⟨q, 2, none⟩ = some (.int .i64 x.f2) := (zc Zw3.out 2).trans rfl; have cw3_3 : w3.cell? ⟨q, 3, none⟩ = some (.int .i64 x.f3.f0) := (zc Zw3.out 3).trans rfl; have cw3_4 : w3.cell? ⟨q, 4, none⟩ = some (.int .i64 x.f3.f1) := (zc Zw3.out 4).trans rfl; have cw3_5 : w3.cell? ⟨q, 5, none⟩ = some (.int .i64 x.f3.f2) := (zc Zw3.out 5).trans rfl; have cw3_6 : w3.cell? ⟨q, 6, none⟩ = some (.int .i64 x.f3.f3) := (zc Zw3.out 6).trans rfl; have cw3_7 : w3.cell? ⟨q, 7, none⟩ = some (.int .i64 x.f4.f0) := (zc Zw3.out 7).trans rfl; have cw3_8 : w3.cell? ⟨q, 8, none⟩ = some (.int .i64 x.f4.f1) := (zc Zw3.out 8).trans rfl; have cw3_9 : w3.cell? ⟨q, 9, none⟩ = some (.int .i64 x.f4.f2) := (zc Zw3.out 9).trans rfl; have cw3_10 : w3.cell? ⟨q, 10, none⟩ = some (.int .i64 x.f4.f3) := (zc Zw3.out 10).trans rfl; have cw3_11 : w3.cell? ⟨q, 11, none⟩ = some (.int .i64 x.f5) := (zc Zw3.out 11).trans rfl; clear hb) | (go_at_call 87; refine (cC _ (Kd.C_below hRT.out HBw3.out) ((zc Zw3.out 0).trans rfl)).mono ?_; rw [hAN.out]; rintro e w4 ⟨rfl, hb⟩; have HBw4 := ak_ (below_step HBw3.out hb); have Zw4 := ak_ (blk_below Zw3.out hb); have cw4_0 : w4.cell? ⟨q, 0, none⟩ = some (.string x.f0) := (zc Zw4.out 0).trans rfl; have cw4_1 : w4.cell? ⟨q, 1, none⟩ = some (.string x.f1) := (zc Zw4.out 1).trans rfl; have cw4_2 : w4.cell? ⟨q, 2, none⟩ = some (.int .i64 x.f2) := (zc Zw4.out 2).trans rfl; have cw4_3 : w4.cell? ⟨q, 3, none⟩ = some (.int .i64 x.f3.f0) := (zc Zw4.out 3).trans rfl; have cw4_4 : w4.cell? ⟨q, 4, none⟩ = some (.int .i64 x.f3.f1) := (zc Zw4.out 4).trans rfl; have cw4_5 : w4.cell? ⟨q, 5, none⟩ = some (.int .i64 x.f3.f2) := (zc Zw4.out 5).trans rfl; have cw4_6 : w4.cell? ⟨q, 6, none⟩ = some (.int .i64 x.f3.f3) := (zc Zw4.out 6).trans rfl; have cw4_7 : w4.cell? ⟨q, 7, none⟩ = some (.int .i64 x.f4.f0) := (zc Zw4.out 7).trans rfl; have cw4_8 : w4.cell? ⟨q, 8, none⟩ = some (.int .i64 x.f4.f1) := (zc Zw4.out 8).trans rfl; have cw4_9 : w4.cell? ⟨q, 9, none⟩ = some (.int .i64 x.f4.f2) := (zc Zw4.out 9).trans rfl; have cw4_10 : w4.cell? ⟨q, 10, none⟩ = some (.int .i64 x.f4.f3) := (zc Zw4.out 10).trans rfl; have cw4_11 : w4.cell? ⟨q, 11, none⟩ = some (.int .i64 x.f5) := (zc Zw4.out 11).trans rfl; clear hb) | (go_at_call 51; refine (tick_Good.calls x.f2 true _ hTG.out).mono ?_; rintro e w' ⟨rfl, ⟨nd, rfl⟩⟩) | (go_at_call 77; (with_reducible refine (backoff_Good.calls x.f3.f0 x.f3.f1 x.f3.f2 x.f3.f3 true _ hP3.out).mono ?_); rintro e w5 ⟨rfl, hb⟩; have HBw5 := ak_ (below_step (pw_below_drewN HBw4.out _) hb); have Zw5 := ak_ (blk_below (blk_drewN Zw4.out _) hb); have cw5_0 : w5.cell? ⟨q, 0, none⟩ = some (.string x.f0) := (zc Zw5.out 0).trans rfl; have cw5_1 : w5.cell? ⟨q, 1, none⟩ = some (.string x.f1) := (zc Zw5.out 1).trans rfl; have cw5_2 : w5.cell? ⟨q, 2, none⟩ = some (.int .i64 x.f2) := (zc Zw5.out 2).trans rfl; have cw5_3 : w5.cell? ⟨q, 3, none⟩ = some (.int .i64 x.f3.f0) := (zc Zw5.out 3).trans rfl; have cw5_4 : w5.cell? ⟨q, 4, none⟩ = some (.int .i64 x.f3.f1) := (zc Zw5.out 4).trans rfl; have cw5_5 : w5.cell? ⟨q, 5, none⟩ = some (.int .i64 x.f3.f2) := (zc Zw5.out 5).trans rfl; have cw5_6 : w5.cell? ⟨q, 6, none⟩ = some (.int .i64 x.f3.f3) := (zc Zw5.out 6).trans rfl; have cw5_7 : w5.cell? ⟨q, 7, none⟩ = some (.int .i64 x.f4.f0) := (zc Zw5.out 7).trans rfl; have cw5_8 : w5.cell? ⟨q, 8, none⟩ = some (.int .i64 x.f4.f1) := (zc Zw5.out 8).trans rfl; have cw5_9 : w5.cell? ⟨q, 9, none⟩ = some (.int .i64 x.f4.f2) := (zc Zw5.out 9).trans rfl; have cw5_10 : w5.cell? ⟨q, 10, none⟩ = some (.int .i64 x.f4.f3) := (zc Zw5.out 10).trans rfl; have cw5_11 : w5.cell? ⟨q, 11, none⟩ = some (.int .i64 x.f5) := (zc Zw5.out 11).trans rfl; clear hb) | (go_at_call 77; (with_reducible refine (backoff_Good.calls x.f4.f0 x.f4.f1 x.f4.f2 x.f4.f3 false _ hP4.out).mono ?_); rintro e w6 ⟨rfl, hb⟩; have HBw6 := ak_ (below_step HBw5.out hb); have Zw6 := ak_ (blk_below Zw5.out hb); have cw6_0 : w6.cell? ⟨q, 0, none⟩ = some (.string x.f0) := (zc Zw6.out 0).trans rfl; have cw6_1 : w6.cell? ⟨q, 1, none⟩ = some (.string x.f1) := (zc Zw6.out 1).trans rfl; have cw6_2 : w6.cell? ⟨q, 2, none⟩ = some (.int .i64 x.f2) := (zc Zw6.out 2).trans rfl; have cw6_3 : w6.cell? ⟨q, 3, none⟩ = some (.int .i64 x.f3.f0) := (zc Zw6.out 3).trans rfl; have cw6_4 : w6.cell? ⟨q, 4, none⟩ = some (.int .i64 x.f3.f1) := (zc Zw6.out 4).trans rfl; have cw6_5 : w6.cell? ⟨q, 5, none⟩ = some (.int .i64 x.f3.f2) := (zc Zw6.out 5).trans rfl; have cw6_6 : w6.cell? ⟨q, 6, none⟩ = some (.int .i64 x.f3.f3) := (zc Zw6.out 6).trans rfl; have cw6_7 : w6.cell? ⟨q, 7, none⟩ = some (.int .i64 x.f4.f0) := (zc Zw6.out 7).trans rfl; have cw6_8 : w6.cell? ⟨q, 8, none⟩ = some (.int .i64 x.f4.f1) := (zc Zw6.out 8).trans rfl; have cw6_9 : w6.cell? ⟨q, 9, none⟩ = some (.int .i64 x.f4.f2) := (zc Zw6.out 9).trans rfl; have cw6_10 : w6.cell? ⟨q, 10, none⟩ = some (.int .i64 x.f4.f3) := (zc Zw6.out 10).trans rfl; have cw6_11 : w6.cell? ⟨q, 11, none⟩ = some (.int .i64 x.f5) := (zc Zw6.out 11).trans rfl; clear hb))
                go_ret
                exact ⟨by rw [HE.out]; rfl, HBw6.out⟩
               | true =>
                have HE := ak_ (show R = 0 from hR.symm)
                go_wp2_with (first | (go_at_call 75; (with_reducible refine (label_Good.calls x.f0 true _ (HT.out.below HB1.out) (hG1.out)).mono ?_); rintro e w2 ⟨rfl, hb⟩; have HBw2 := ak_ (below_step HB1.out hb); have Zw2 := ak_ (blk_below Z1.out hb); have cw2_0 : w2.cell? ⟨q, 0, none⟩ = some (.string x.f0) := (zc Zw2.out 0).trans rfl; have cw2_1 : w2.cell? ⟨q, 1, none⟩ = some (.string x.f1) := (zc Zw2.out 1).trans rfl; have cw2_2 : w2.cell? ⟨q, 2, none⟩ = some (.int .i64 x.f2) := (zc Zw2.out 2).trans rfl; have cw2_3 : w2.cell? ⟨q, 3, none⟩ = some (.int .i64 x.f3.f0) := (zc Zw2.out 3).trans rfl; have cw2_4 : w2.cell? ⟨q, 4, none⟩ = some (.int .i64 x.f3.f1) := (zc Zw2.out 4).trans rfl; have cw2_5 : w2.cell? ⟨q, 5, none⟩ = some (.int .i64 x.f3.f2) := (zc Zw2.out 5).trans rfl; have cw2_6 : w2.cell? ⟨q, 6, none⟩ = some (.int .i64 x.f3.f3) := (zc Zw2.out 6).trans rfl; have cw2_7 : w2.cell? ⟨q, 7, none⟩ = some (.int .i64 x.f4.f0) := (zc Zw2.out 7).trans rfl; have cw2_8 : w2.cell? ⟨q, 8, none⟩ = some (.int .i64 x.f4.f1) := (zc Zw2.out 8).trans rfl; have cw2_9 : w2.cell? ⟨q, 9, none⟩ = some (.int .i64 x.f4.f2) := (zc Zw2.out 9).trans rfl; have cw2_10 : w2.cell? ⟨q, 10, none⟩ = some (.int .i64 x.f4.f3) := (zc Zw2.out 10).trans rfl; have cw2_11 : w2.cell? ⟨q, 11, none⟩ = some (.int .i64 x.f5) := (zc Zw2.out 11).trans rfl; clear hb) | (go_at_call 75; (with_reducible refine (label_Good.calls x.f1 true _ (HT.out.below HBw2.out) (hG2.out)).mono ?_); rintro e w3 ⟨rfl, hb⟩; have HBw3 := ak_ (below_step HBw2.out hb); have Zw3 := ak_ (blk_below Zw2.out hb); have cw3_0 : w3.cell? ⟨q, 0, none⟩ = some (.string x.f0) := (zc Zw3.out 0).trans rfl; have cw3_1 : w3.cell? ⟨q, 1, none⟩ = some (.string x.f1) := (zc Zw3.out 1).trans rfl; have cw3_2 : w3.cell? ⟨q, 2, none⟩ = some (.int .i64 x.f2) := (zc Zw3.out 2).trans rfl; have cw3_3 : w3.cell? ⟨q, 3, none⟩ = some (.int .i64 x.f3.f0) := (zc Zw3.out 3).trans rfl; have cw3_4 : w3.cell? ⟨q, 4, none⟩ = some (.int .i64 x.f3.f1) := (zc Zw3.out 4).trans rfl; have cw3_5 : w3.cell? ⟨q, 5, none⟩ = some (.int .i64 x.f3.f2) := (zc Zw3.out 5).trans rfl; have cw3_6 : w3.cell? ⟨q, 6, none⟩ = some (.int .i64 x.f3.f3) := (zc Zw3.out 6).trans rfl; have cw3_7 : w3.cell? ⟨q, 7, none⟩ = some (.int .i64 x.f4.f0) := (zc Zw3.out 7).trans rfl; have cw3_8 : w3.cell? ⟨q, 8, none⟩ = some (.int .i64 x.f4.f1) := (zc Zw3.out 8).trans rfl; have cw3_9 : w3.cell? ⟨q, 9, none⟩ = some (.int .i64 x.f4.f2) := (zc Zw3.out 9).trans rfl; have cw3_10 : w3.cell? ⟨q, 10, none⟩ = some (.int .i64 x.f4.f3) := (zc Zw3.out 10).trans rfl; have cw3_11 : w3.cell? ⟨q, 11, none⟩ = some (.int .i64 x.f5) := (zc Zw3.out 11).trans rfl; clear hb) | (go_at_call 87; refine (cC _ (Kd.C_below hRT.out HBw3.out) ((zc Zw3.out 0).trans rfl)).mono ?_; rw [hAN.out]; rintro e w4 ⟨rfl, hb⟩; have HBw4 := ak_ (below_step HBw3.out hb); have Zw4 := ak_ (blk_below Zw3.out hb); have cw4_0 : w4.cell? ⟨q, 0, none⟩ = some (.string x.f0) := (zc Zw4.out 0).trans rfl; have cw4_1 : w4.cell? ⟨q, 1, none⟩ = some (.string x.f1) := (zc Zw4.out 1).trans rfl; have cw4_2 : w4.cell? ⟨q, 2, none⟩ = some (.int .i64 x.f2) := (zc Zw4.out 2).trans rfl; have cw4_3 : w4.cell? ⟨q, 3, none⟩ = some (.int .i64 x.f3.f0) := (zc Zw4.out 3).trans rfl; have cw4_4 : w4.cell? ⟨q, 4, none⟩ = some (.int .i64 x.f3.f1) := (zc Zw4.out 4).trans rfl; have cw4_5 : w4.cell? ⟨q, 5, none⟩ = some (.int .i64 x.f3.f2) := (zc Zw4.out 5).trans rfl; have cw4_6 : w4.cell? ⟨q, 6, none⟩ = some (.int .i64 x.f3.f3) := (zc Zw4.out 6).trans rfl; have cw4_7 : w4.cell? ⟨q, 7, none⟩ = some (.int .i64 x.f4.f0) := (zc Zw4.out 7).trans rfl; have cw4_8 : w4.cell? ⟨q, 8, none⟩ = some (.int .i64 x.f4.f1) := (zc Zw4.out 8).trans rfl; have cw4_9 : w4.cell? ⟨q, 9, none⟩ = some (.int .i64 x.f4.f2) := (zc Zw4.out 9).trans rfl; have cw4_10 : w4.cell? ⟨q, 10, none⟩ = some (.int .i64 x.f4.f3) := (zc Zw4.out 10).trans rfl; have cw4_11 : w4.cell? ⟨q, 11, none⟩ = some (.int .i64 x.f5) := (zc Zw4.out 11).trans rfl; clear hb) | (go_at_call 51; refine (tick_Good.calls x.f2 true _ hTG.out).mono ?_; rintro e w' ⟨rfl, ⟨nd, rfl⟩⟩) | (go_at_call 77; (with_reducible refine (backoff_Good.calls x.f3.f0 x.f3.f1 x.f3.f2 x.f3.f3 true _ hP3.out).mono ?_); rintro e w5 ⟨rfl, hb⟩; have HBw5 := ak_ (below_step (pw_below_drewN HBw4.out _) hb); have Zw5 := ak_ (blk_below (blk_drewN Zw4.out _) hb); have cw5_0 : w5.cell? ⟨q, 0, none⟩ = some (.string x.f0) := (zc Zw5.out 0).trans rfl; have cw5_1 : w5.cell? ⟨q, 1, none⟩ = some (.string x.f1) := (zc Zw5.out 1).trans rfl; have cw5_2 : w5.cell? ⟨q, 2, none⟩ = some (.int .i64 x.f2) := (zc Zw5.out 2).trans rfl; have cw5_3 : w5.cell? ⟨q, 3, none⟩ = some (.int .i64 x.f3.f0) := (zc Zw5.out 3).trans rfl; have cw5_4 : w5.cell? ⟨q, 4, none⟩ = some (.int .i64 x.f3.f1) := (zc Zw5.out 4).trans rfl; have cw5_5 : w5.cell? ⟨q, 5, none⟩ = some (.int .i64 x.f3.f2) := (zc Zw5.out 5).trans rfl; have cw5_6 : w5.cell? ⟨q, 6, none⟩ = some (.int .i64 x.f3.f3) := (zc Zw5.out 6).trans rfl; have cw5_7 : w5.cell? ⟨q, 7, none⟩ = some (.int .i64 x.f4.f0) := (zc Zw5.out 7).trans rfl; have cw5_8 : w5.cell? ⟨q, 8, none⟩ = some (.int .i64 x.f4.f1) := (zc Zw5.out 8).trans rfl; have cw5_9 : w5.cell? ⟨q, 9, none⟩ = some (.int .i64 x.f4.f2) := (zc Zw5.out 9).trans rfl; have cw5_10 : w5.cell? ⟨q, 10, none⟩ = some (.int .i64 x.f4.f3) := (zc Zw5.out 10).trans rfl; have cw5_11 : w5.cell? ⟨q, 11, none⟩ = some (.int .i64 x.f5) := (zc Zw5.out 11).trans rfl; clear hb) | (go_at_call 77; (with_reducible refine (backoff_Good.calls x.f4.f0 x.f4.f1 x.f4.f2 x.f4.f3 true _ hP4.out).mono ?_); rintro e w6 ⟨rfl, hb⟩; have HBw6 := ak_ (below_step HBw5.out hb); have Zw6 := ak_ (blk_below Zw5.out hb); have cw6_0 : w6.cell? ⟨q, 0, none⟩ = some (.string x.f0) := (zc Zw6.out 0).trans rfl; have cw6_1 : w6.cell? ⟨q, 1, none⟩ = some (.string x.f1) := (zc Zw6.out 1).trans rfl; have cw6_2 : w6.cell? ⟨q, 2, none⟩ = some (.int .i64 x.f2) := (zc Zw6.out 2).trans rfl; have cw6_3 : w6.cell? ⟨q, 3, none⟩ = some (.int .i64 x.f3.f0) := (zc Zw6.out 3).trans rfl; have cw6_4 : w6.cell? ⟨q, 4, none⟩ = some (.int .i64 x.f3.f1) := (zc Zw6.out 4).trans rfl; have cw6_5 : w6.cell? ⟨q, 5, none⟩ = some (.int .i64 x.f3.f2) := (zc Zw6.out 5).trans rfl; have cw6_6 : w6.cell? ⟨q, 6, none⟩ = some (.int .i64 x.f3.f3) := (zc Zw6.out 6).trans rfl; have cw6_7 : w6.cell? ⟨q, 7, none⟩ = some (.int .i64 x.f4.f0) := (zc Zw6.out 7).trans rfl; have cw6_8 : w6.cell? ⟨q, 8, none⟩ = some (.int .i64 x.f4.f1) := (zc Zw6.out 8).trans rfl; have cw6_9 : w6.cell? ⟨q, 9, none⟩ = some (.int .i64 x.f4.f2) := (zc Zw6.out 9).trans rfl; have cw6_10 : w6.cell? ⟨q, 10, none⟩ = some (.int .i64 x.f4.f3) := (zc Zw6.out 10).trans rfl; have cw6_11 : w6.cell? ⟨q, 11, none⟩ = some (.int .i64 x.f5) := (zc Zw6.out 11).trans rfl; clear hb))
                go_ret
                exact ⟨by rw [HE.out]; rfl, HBw6.out⟩
 · rw [if_neg hh] at h
   cases h
end Go.Proofs.YtmfddmhomkcikaaDoor.Q
