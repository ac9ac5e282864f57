/- readyq: a queue in memory, its map told; compare. -/
import Derived.Test.YthnfbcicnmnhnaaQx8
import Derived.Test.YthnfbcicnmnhnaaQx9
import Derived.Test.YthnfbcicnmnhnaaQx1
import Derived.Maps.OwnSet
import Derived.Maps.Views
import Derived.Test.YthnfbcicnmnhnaaBHeap
import Derived.RangeFuncCalls
import Derived.Shelf.Abstract
import Derived.Shelf.RegionOpen
import Derived.OwnWalkIn
import Derived.TacticsInMore
import Derived.Sort.CutIn
import Derived.LoopNIn
import Derived.LoopIn
import Derived.Lib.SliceRun
import Derived.Lib.Hide
import Derived.Outline
import Derived.ArgAppend
namespace Go.Proofs.Ythnfbcicnmnhnaa.Q
open Go.RowKit Go.Shelf Go.Proofs.YthnfbcicnmnhnaaW.PrintWords Go.Proofs.YthnfbcicnmnhnaaW.PrintLast Go.Proofs.YthnfbcicnmnhnaaW.PrintMore
set_option linter.unusedVariables false
set_option linter.unusedSimpArgs false

def cmpI (a b : Int) : Int := if a < b then -1 else if b < a then 1 else 0
theorem cmp_f (a b : Int) : cmp_Compare_int.f a b = some (cmpI a b) := by
  unfold cmp_Compare_int.f cmp_isNaN_int.f cmpI
  simp only [Option.bind_some, bne_self_eq_false]
  rw [if_neg (by decide), if_neg (by decide)]
  by_cases h1 : a < b
  · rw [if_pos h1, if_pos h1]
  · rw [if_neg h1, if_neg h1]
    by_cases h2 : a > b
    · rw [if_pos h2, if_pos h2]
    · rw [if_neg h2, if_neg h2]
def orI (a b : Int) : Int := if a ≠ 0 then a else b
theorem or_f (a b : Int) : cmp_Or_int.f 4 [a, b] = some (orI a b) := by
  unfold cmp_Or_int.f cmp_Or_int.l0 orI
  simp [rd, wrap64]
  by_cases h : a = 0
  · subst h
    simp
    unfold cmp_Or_int.l0
    simp [rd, wrap64]
    by_cases h2 : b = 0
    · subst h2
      simp
      unfold cmp_Or_int.l0
      simp
    · simp [h2]
  · simp [h]

theorem two_ints (W : World) (a b : Int) : Kd.C (Kd.int .i64) (W.alloc (.cells #[.int .i64 a, .int .i64 b] 3)) (some ⟨W.heap.size, 0, none⟩) [a, b].length [a, b] := by
  refine ⟨rfl, (show 2 ≤ 9223372036854775807 by decide), fun _ => ⟨_, rfl, fun j p hj => ?_⟩⟩
  have hc := fun i => blk_cell (blk_new W (.cells #[.int .i64 a, .int .i64 b] 3)) i
  have hj2 : [a, b][j]? = some p := hj
  refine ⟨[.int .i64 p], rfl, rfl, fun i u hi => ?_⟩
  cases i with
  | succ i => cases hi
  | zero =>
    cases hi
    have e : ((⟨W.heap.size, 0, none⟩ : Addr).add (j * (Kd.int .i64).sz + 0)) = ⟨W.heap.size, j, none⟩ := by rw [Addr.add_lit]; congr 1; show 0 + (j * 1 + 0) = j; omega
    rw [e, hc]
    match j, hj2 with
    | 0, h => cases h; rfl
    | 1, h => cases h; rfl
    | j + 2, h => cases h
theorem or_calls (W : World) (a b : Int) : Calls Try.prog 30 #[.slice (some ⟨W.heap.size, 0, none⟩) 2 2] (W.alloc (.cells #[.int .i64 a, .int .i64 b] 3)) fun e w' => e = .returned (.int .i64 (orI a b)) ∧ Below W.heap.size W w' := by
  refine (cmp_Or_int.calls 4 (some ⟨W.heap.size, 0, none⟩) 2 [a, b] _ _ (two_ints W a b) (Nat.le_refl _) (or_f a b)).mono ?_
  rintro e w' ⟨rfl, hd⟩
  exact ⟨rfl, below_step (below_alloc (Below.refl _ _) _) hd.below⟩

structure En where
  b : Nat
  h : Int
  id : Int
  wt : Int
/-- An entry in memory, at its place. -/
def IsEn (w0 W : World) (e : En) (pl : Int) : Prop := W.heap[e.b]? = some (.cells #[.int .i64 e.h, .int .i64 e.id, .int .i64 e.wt, .int .i64 pl] 61 (0, 0)) ∧ w0.heap.size ≤ e.b
def rowe (e : En) : List Value := [.pointer (some ⟨e.b, 0, none⟩)]
/-- A pointer as a datum: the block's number. -/
def ptrR : Value → Option (DataW Unit × List MemPlace)
  | .pointer (some ⟨b, 0, none⟩) => some (.lit (.int .i64 (b : Int)), [])
  | .pointer none => some (.lit (.int .i64 (-1)), [])
  | _ => none
theorem ptrR_inv {v : Value} {d : Int} {ps : List MemPlace} (h : ptrR v = some (.lit (.int .i64 d), ps)) : (d = -1 ∧ v = .pointer none) ∨ ∃ b : Nat, d = (b : Int) ∧ v = .pointer (some ⟨b, 0, none⟩) := by
  unfold ptrR at h
  split at h
  · simp only [Option.some.injEq, Prod.mk.injEq, DataW.lit.injEq, Lit.int.injEq, true_and] at h
    exact .inr ⟨_, h.1.symm, rfl⟩
  · simp only [Option.some.injEq, Prod.mk.injEq, DataW.lit.injEq, Lit.int.injEq, true_and] at h
    exact .inl ⟨h.1.symm, rfl⟩
  · cases h
/-- Each entry under its handle, and nothing else. -/
def MapD (D : DataW Unit) (es : List En) : Prop := (∀ h : Int, Maps.has D (.int .i64 h) = es.any (fun e => e.h == h)) ∧ ∀ e ∈ es, ∀ z, D.atKey (.int .i64 e.h) z = .lit (.int .i64 (e.b : Int))
def HasM (W : World) (m n : Nat) (es : List En) : Prop := ∃ D : DataW Unit, W.ownsMap Try.prog 3 ptrR m n D ∧ MapD D es
theorem HasM.step {W W' : World} {m n : Nat} {es : List En} (h : HasM W m n es) (e : W'.heap[m]? = W.heap[m]?) : HasM W' m n es := by
  obtain ⟨D, ⟨xs, clock, hb, F, hs, hD⟩, hM⟩ := h
  exact ⟨D, ⟨xs, clock, e.trans hb, F, hs, hD⟩, hM⟩
theorem HasM.ne {W : World} {m n : Nat} {es : List En} (h : HasM W m n es) {b : Nat} {cs : Array Value} {t : TypeId} {fr : Nat × Nat} (hb : W.heap[b]? = some (.cells cs t fr)) : m ≠ b := by
  rintro rfl
  obtain ⟨D, ⟨xs, clock, hm, _⟩, _⟩ := h
  rw [hm] at hb
  cases hb
theorem HasM.lt {W : World} {m n : Nat} {es : List En} (h : HasM W m n es) : m < W.heap.size := by
  obtain ⟨D, h, _⟩ := h
  exact World.ownsMap.lt h
theorem HasM.perm {W : World} {m n : Nat} {es es' : List En} (h : HasM W m n es) (hp : es'.Perm es) : HasM W m n es' := by
  obtain ⟨D, h, h1, h2⟩ := h
  refine ⟨D, h, fun x => ?_, fun e he => h2 e (hp.mem_iff.1 he)⟩
  rw [h1 x, Bool.eq_iff_iff, List.any_eq_true, List.any_eq_true]
  constructor
  · rintro ⟨e, he, hx⟩; exact ⟨e, hp.mem_iff.2 he, hx⟩
  · rintro ⟨e, he, hx⟩; exact ⟨e, hp.mem_iff.1 he, hx⟩
/-- A queue, all told. -/
def IsQX (w0 W : World) (q : Nat) (cap age last : Int) (es : List En) (v : Value) (m n : Nat) (ms : List En) : Prop :=
  W.heap[q]? = some (.cells #[.int .i64 cap, .int .i64 age, .int .i64 last, v, .map (some m)] 58 (0, 0)) ∧ w0.heap.size ≤ q ∧ (Kd.raw 1).R 59 W w0.heap.size (fun _ => True) v (es.map rowe) ∧ (HasM W m n ms ∧ w0.heap.size ≤ m) ∧ ∀ (j : Nat) (e : En), es[j]? = some e → IsEn w0 W e (j : Int)
def IsQ (w0 W : World) (q : Nat) (cap age last : Int) (es : List En) : Prop := ∃ v m n, IsQX w0 W q cap age last es v m n es ∧ n ≤ last.toNat
theorem IsEn.below {w0 W W' : World} {e : En} {pl : Int} (h : IsEn w0 W e pl) (hb : Below W.heap.size W W') : IsEn w0 W' e pl := ⟨blk_below h.1 hb, h.2⟩
theorem IsQX.below {w0 W W' : World} {q : Nat} {cap age last : Int} {es : List En} {v : Value} {m n : Nat} {ms : List En} (h : IsQX w0 W q cap age last es v m n ms) (hb : Below W.heap.size W W') : IsQX w0 W' q cap age last es v m n ms := by
  obtain ⟨h1, h2, h3, h4, h5⟩ := h
  exact ⟨blk_below h1 hb, h2, Kd.R_below h3 hb, ⟨h4.1.step (hb.block m h4.1.lt), h4.2⟩, fun j e hj => (h5 j e hj).below hb⟩
theorem IsQ.below {w0 W W' : World} {q : Nat} {cap age last : Int} {es : List En} (h : IsQ w0 W q cap age last es) (hb : Below W.heap.size W W') : IsQ w0 W' q cap age last es := by
  obtain ⟨v, m, n, h, hn⟩ := h
  exact ⟨v, m, n, h.below hb, hn⟩
theorem IsQX.slice {w0 W : World} {q : Nat} {cap age last : Int} {es : List En} {v : Value} {m n : Nat} {ms : List En} (h : IsQX w0 W q cap age last es v m n ms) : ∃ A c, v = .slice A es.length c := by
  obtain ⟨A, c, e, _⟩ := Kd.R_reads h.2.2.1
  rw [List.length_map] at e
  exact ⟨A, c, e⟩
/-- Which pointer lies where. -/
theorem IsQX.at_ {w0 W : World} {q : Nat} {cap age last : Int} {es : List En} {A : Option Addr} {c m n : Nat} {ms : List En} (h : IsQX w0 W q cap age last es (.slice A es.length c) m n ms) (j : Nat) (hj : j < es.length) :
    ∃ a, A = some ⟨a, 0, none⟩ ∧ W.cell? ⟨a, j, none⟩ = some (.pointer (some ⟨es[j].b, 0, none⟩)) ∧ IsEn w0 W es[j] (j : Int) := by
  obtain ⟨a, cap', e, _, _, _⟩ := Kd.R_form h.2.2.1 (by rw [List.length_map]; omega)
  obtain rfl : A = some ⟨a, 0, none⟩ := by injection e
  obtain ⟨cs, hcl, hM, hcc, _⟩ := Kd.R_elem h.2.2.1 [] (j : Int) (by omega) (by omega)
  have hc : cs = rowe es[j] := by
    have h6 : cs = (es.map rowe).getD (j : Int).toNat [] := hM.1
    rw [Int.toNat_natCast, List.getD_eq_getElem?_getD, List.getElem?_map, List.getElem?_eq_getElem hj] at h6
    exact h6
  subst hc
  refine ⟨a, rfl, ?_, h.2.2.2.2 j _ (List.getElem?_eq_getElem hj)⟩
  have := hcc 0 _ rfl
  rw [Int.toNat_natCast] at this
  have hsz : (Kd.raw 1).sz = 1 := rfl
  rw [hsz, Nat.mul_one, Nat.add_zero] at this
  exact this

/-- compare's answer. -/
def cmpE (x y : En) : Int := orI (cmpI y.wt x.wt) (cmpI x.h y.h)
set_option maxRecDepth 100000 in
set_option maxHeartbeats 4000000 in
theorem readyq_compare.calls (w0 w : World) (x y : En) (px py : Int) (hx : IsEn w0 w x px) (hy : IsEn w0 w y py) :
    Calls Try.prog 25 #[.pointer (some ⟨x.b, 0, none⟩), .pointer (some ⟨y.b, 0, none⟩)] w fun e w' => e = .returned (.int .i64 (cmpE x y)) ∧ Below w.heap.size w w' := by
  have x0 : w.cell? ⟨x.b, 0, none⟩ = some (.int .i64 x.h) := (blk_cell hx.1 0).trans rfl
  have x2 : w.cell? ⟨x.b, 2, none⟩ = some (.int .i64 x.wt) := (blk_cell hx.1 2).trans rfl
  have y0 : w.cell? ⟨y.b, 0, none⟩ = some (.int .i64 y.h) := (blk_cell hy.1 0).trans rfl
  have y2 : w.cell? ⟨y.b, 2, none⟩ = some (.int .i64 y.wt) := (blk_cell hy.1 2).trans rfl
  have HXY := Aside0.mk (And.intro x0 (And.intro x2 (And.intro y0 y2)))
  clear hx hy
  go_enter Try.func25, Try.ntmps25
  go_upto_region 1 with (fail)
  have HB := Aside0.mk (Below.refl w.heap.size w)
  refine start_ (n := 21) (S := fun w' => w'.cell? ⟨x.b, 0, none⟩ = some (.int .i64 x.h) ∧ w'.cell? ⟨x.b, 2, none⟩ = some (.int .i64 x.wt) ∧ w'.cell? ⟨y.b, 0, none⟩ = some (.int .i64 y.h) ∧ w'.cell? ⟨y.b, 2, none⟩ = some (.int .i64 y.wt)) (ds := [19]) #[false, false, false, false, false, false, false, false, false, false, false, false, false, false, false, false, false, false, false, false, false] (by kernel_rfl) rfl rfl ⟨x0, x2, y0, y2⟩ (fun hHeld => ?_)
  refine pure_ (i := 0) (N := some 5) (v := ?_) (a' := ?_) #[true, false, false, false, false, false, false, false, false, false, false, false, false, false, false, false, false, false, false, false, false] rfl rfl (by kernel_rfl) (fun _ _ _ h => h) (Or.inl ⟨by rfl, ?_⟩) ?_ ?_
  rotate_left
  · intro w'
    go_simp
    with_reducible rfl
  rotate_left
  · simp only [Act.put, List.setIfInBounds_toArray, List.set_cons_zero, List.set_cons_succ, i64_w, i32_w]
    rfl
  refine pure_ (i := 1) (N := some 6) (v := ?_) (a' := ?_) #[true, true, false, false, false, false, false, false, false, false, false, false, false, false, false, false, false, false, false, false, false] rfl rfl (by kernel_rfl) (fun _ _ _ h => h) (Or.inl ⟨by rfl, ?_⟩) ?_ ?_
  rotate_left
  · intro w'
    go_simp
    with_reducible rfl
  rotate_left
  · simp only [Act.put, List.setIfInBounds_toArray, List.set_cons_zero, List.set_cons_succ, i64_w, i32_w]
    rfl
  refine pure_ (i := 2) (N := some 7) (v := ?_) (a' := ?_) #[true, true, true, false, false, false, false, false, false, false, false, false, false, false, false, false, false, false, false, false, false] rfl rfl (by kernel_rfl) (fun _ _ _ h => h) (Or.inl ⟨by rfl, ?_⟩) ?_ ?_
  rotate_left
  · intro w'
    go_simp
    with_reducible rfl
  rotate_left
  · simp only [Act.put, List.setIfInBounds_toArray, List.set_cons_zero, List.set_cons_succ, i64_w, i32_w]
    rfl
  refine pure_ (i := 4) (N := some 9) (v := ?_) (a' := ?_) #[true, true, true, false, true, false, false, false, false, false, false, false, false, false, false, false, false, false, false, false, false] rfl rfl (by kernel_rfl) (fun _ _ _ h => h) (Or.inl ⟨by rfl, ?_⟩) ?_ ?_
  rotate_left
  · intro w'
    go_simp
    with_reducible rfl
  rotate_left
  · simp only [Act.put, List.setIfInBounds_toArray, List.set_cons_zero, List.set_cons_succ, i64_w, i32_w]
    rfl
  refine pure_ (i := 5) (N := some 10) (v := ?_) (a' := ?_) #[true, true, true, false, true, true, false, false, false, false, false, false, false, false, false, false, false, false, false, false, false] rfl rfl (by kernel_rfl) (fun _ _ _ h => h) (Or.inl ⟨by rfl, ?_⟩) ?_ ?_
  rotate_left
  · intro w'
    go_simp
    with_reducible rfl
  rotate_left
  · simp only [Act.put, List.setIfInBounds_toArray, List.set_cons_zero, List.set_cons_succ, i64_w, i32_w]
    rfl
  refine pure_ (i := 6) (N := some 11) (v := ?_) (a' := ?_) #[true, true, true, false, true, true, true, false, false, false, false, false, false, false, false, false, false, false, false, false, false] rfl rfl (by kernel_rfl) (fun _ _ _ h => h) (Or.inl ⟨by rfl, ?_⟩) ?_ ?_
  rotate_left
  · intro w'
    go_simp
    with_reducible rfl
  rotate_left
  · simp only [Act.put, List.setIfInBounds_toArray, List.set_cons_zero, List.set_cons_succ, i64_w, i32_w]
    rfl
  refine pure_ (i := 9) (N := some 14) (v := ?_) (a' := ?_) #[true, true, true, false, true, true, true, false, false, true, false, false, false, false, false, false, false, false, false, false, false] rfl rfl (by kernel_rfl) (fun _ _ _ h => h) (Or.inl ⟨by rfl, ?_⟩) ?_ ?_
  rotate_left
  · intro w'
    go_simp
    with_reducible rfl
  rotate_left
  · simp only [Act.put, List.setIfInBounds_toArray, List.set_cons_zero, List.set_cons_succ, i64_w, i32_w]
    rfl
  refine pure_ (i := 10) (N := some 15) (v := ?_) (a' := ?_) #[true, true, true, false, true, true, true, false, false, true, true, false, false, false, false, false, false, false, false, false, false] rfl rfl (by kernel_rfl) (fun _ _ _ h => h) (Or.inl ⟨by rfl, ?_⟩) ?_ ?_
  rotate_left
  · intro w'
    go_simp
    with_reducible rfl
  rotate_left
  · simp only [Act.put, List.setIfInBounds_toArray, List.set_cons_zero, List.set_cons_succ, i64_w, i32_w]
    rfl
  refine pure_ (i := 11) (N := some 16) (v := ?_) (a' := ?_) #[true, true, true, false, true, true, true, false, false, true, true, true, false, false, false, false, false, false, false, false, false] rfl rfl (by kernel_rfl) (fun _ _ _ h => h) (Or.inl ⟨by rfl, ?_⟩) ?_ ?_
  rotate_left
  · intro w'
    go_simp
    with_reducible rfl
  rotate_left
  · simp only [Act.put, List.setIfInBounds_toArray, List.set_cons_zero, List.set_cons_succ, i64_w, i32_w]
    rfl
  refine pure_ (i := 13) (N := some 18) (v := ?_) (a' := ?_) #[true, true, true, false, true, true, true, false, false, true, true, true, false, true, false, false, false, false, false, false, false] rfl rfl (by kernel_rfl) (fun _ _ _ h => h) (Or.inl ⟨by rfl, ?_⟩) ?_ ?_
  rotate_left
  · intro w'
    go_simp
    with_reducible rfl
  rotate_left
  · simp only [Act.put, List.setIfInBounds_toArray, List.set_cons_zero, List.set_cons_succ, i64_w, i32_w]
    rfl
  refine pure_ (i := 14) (N := some 19) (v := ?_) (a' := ?_) #[true, true, true, false, true, true, true, false, false, true, true, true, false, true, true, false, false, false, false, false, false] rfl rfl (by kernel_rfl) (fun _ _ _ h => h) (Or.inl ⟨by rfl, ?_⟩) ?_ ?_
  rotate_left
  · intro w'
    go_simp
    with_reducible rfl
  rotate_left
  · simp only [Act.put, List.setIfInBounds_toArray, List.set_cons_zero, List.set_cons_succ, i64_w, i32_w]
    rfl
  refine pure_ (i := 15) (N := some 20) (v := ?_) (a' := ?_) #[true, true, true, false, true, true, true, false, false, true, true, true, false, true, true, true, false, false, false, false, false] rfl rfl (by kernel_rfl) (fun _ _ _ h => h) (Or.inl ⟨by rfl, ?_⟩) ?_ ?_
  rotate_left
  · intro w'
    go_simp
    with_reducible rfl
  rotate_left
  · simp only [Act.put, List.setIfInBounds_toArray, List.set_cons_zero, List.set_cons_succ, i64_w, i32_w]
    rfl
  refine take_ (i := 3) (N := some 8) (v := ?_) (a' := ?_) #[true, true, true, true, true, true, true, false, false, true, true, true, false, true, true, true, false, false, false, false, false] rfl rfl (by kernel_rfl) (fun _ _ _ h => h) (Or.inl ⟨by rfl, ?_⟩) hHeld ?_ ?_
  rotate_left
  · rintro w' ⟨s0, s1, s2, s3⟩
    go_simp
    with_reducible rfl
  rotate_left
  · simp only [Act.put, List.setIfInBounds_toArray, List.set_cons_zero, List.set_cons_succ, i64_w, i32_w]
    rfl
  refine take_ (i := 7) (N := some 12) (v := ?_) (a' := ?_) #[true, true, true, true, true, true, true, true, false, true, true, true, false, true, true, true, false, false, false, false, false] rfl rfl (by kernel_rfl) (fun _ _ _ h => h) (Or.inl ⟨by rfl, ?_⟩) hHeld ?_ ?_
  rotate_left
  · rintro w' ⟨s0, s1, s2, s3⟩
    go_simp
    with_reducible rfl
  rotate_left
  · simp only [Act.put, List.setIfInBounds_toArray, List.set_cons_zero, List.set_cons_succ, i64_w, i32_w]
    rfl
  refine take_ (i := 12) (N := some 17) (v := ?_) (a' := ?_) #[true, true, true, true, true, true, true, true, false, true, true, true, true, true, true, true, false, false, false, false, false] rfl rfl (by kernel_rfl) (fun _ _ _ h => h) (Or.inl ⟨by rfl, ?_⟩) hHeld ?_ ?_
  rotate_left
  · rintro w' ⟨s0, s1, s2, s3⟩
    go_simp
    with_reducible rfl
  rotate_left
  · simp only [Act.put, List.setIfInBounds_toArray, List.set_cons_zero, List.set_cons_succ, i64_w, i32_w]
    rfl
  refine take_ (i := 16) (N := some 21) (v := ?_) (a' := ?_) #[true, true, true, true, true, true, true, true, false, true, true, true, true, true, true, true, true, false, false, false, false] rfl rfl (by kernel_rfl) (fun _ _ _ h => h) (Or.inl ⟨by rfl, ?_⟩) hHeld ?_ ?_
  rotate_left
  · rintro w' ⟨s0, s1, s2, s3⟩
    go_simp
    with_reducible rfl
  rotate_left
  · simp only [Act.put, List.setIfInBounds_toArray, List.set_cons_zero, List.set_cons_succ, i64_w, i32_w]
    rfl
  refine one_ (i := 8) (N := some 13) #[true, true, true, true, true, true, true, true, true, true, true, true, true, true, true, true, true, false, false, false, false] rfl rfl (by kernel_rfl) (by decide) (fun K hK => ?_)
  refine goes_ Try.func31 (by kernel_rfl) rfl #[.int .i64 y.wt, .int .i64 x.wt] (by rfl) rfl rfl (by simp only [List.map_toArray, List.map_cons, List.map_nil]; rfl) ?_
  with_reducible refine (cmp_Compare_int.calls _ _ _ _ (cmp_f _ _)).mono ?_
  rintro e w3 ⟨rfl, hd⟩
  obtain ⟨nd, rfl⟩ := hd.out
  refine ⟨_, rfl, ?_⟩
  refine hK.out _ _ ⟨x0, x2, y0, y2⟩ (fun hHeld => ?_)
  clear hK K
  refine norm_ (a' := ?_) ?_ ?_
  rotate_left
  · show Act.put _ (some 13) _ = _
    simp only [Act.put, List.setIfInBounds_toArray, List.set_cons_zero, List.set_cons_succ, i64_w, i32_w]
    rfl
  refine one_ (i := 17) (N := some 22) #[true, true, true, true, true, true, true, true, true, true, true, true, true, true, true, true, true, true, false, false, false] rfl rfl (by kernel_rfl) (by decide) (fun K hK => ?_)
  refine goes_ Try.func31 (by kernel_rfl) rfl #[.int .i64 x.h, .int .i64 y.h] (by rfl) rfl rfl (by simp only [List.map_toArray, List.map_cons, List.map_nil]; rfl) ?_
  with_reducible refine (cmp_Compare_int.calls _ _ _ _ (cmp_f _ _)).mono ?_
  rintro e w3 ⟨rfl, hd⟩
  obtain ⟨nd, rfl⟩ := hd.out
  refine ⟨_, rfl, ?_⟩
  refine hK.out _ _ ⟨x0, x2, y0, y2⟩ (fun hHeld => ?_)
  clear hK K
  refine norm_ (a' := ?_) ?_ ?_
  rotate_left
  · show Act.put _ (some 22) _ = _
    simp only [Act.put, List.setIfInBounds_toArray, List.set_cons_zero, List.set_cons_succ, i64_w, i32_w]
    rfl
  refine one_ (i := 18) (N := some 23) #[true, true, true, true, true, true, true, true, true, true, true, true, true, true, true, true, true, true, true, false, false] rfl rfl (by kernel_rfl) (by decide) (fun K hK => ?_)
  refine value_ (w1 := ?_) (v := ?_) (by rfl) rfl ?_ ?_
  rotate_left 2
  · go_simp
    constructor
    · rfl
    · rfl
  refine hK.out _ _ ⟨pw_cell_below (below_alloc (Below.refl _ _) _) x0, pw_cell_below (below_alloc (Below.refl _ _) _) x2, pw_cell_below (below_alloc (Below.refl _ _) _) y0, pw_cell_below (below_alloc (Below.refl _ _) _) y2⟩ (fun hHeld => ?_)
  clear hK K
  refine norm_ (a' := ?_) ?_ ?_
  rotate_left
  · show Act.put _ (some 23) _ = _
    simp only [Act.put, List.setIfInBounds_toArray, List.set_cons_zero, List.set_cons_succ, i64_w, i32_w]
    rfl
  refine last_ (i := 19) (N := some 24) #[true, true, true, true, true, true, true, true, true, true, true, true, true, true, true, true, true, true, true, true, false] rfl rfl (by kernel_rfl) (by decide) (fun K hK => ?_)
  refine goes_ Try.func30 (by kernel_rfl) rfl #[.slice (some ⟨w.heap.size, 0, none⟩) 2 2] (by rfl) rfl rfl (by simp only [List.map_toArray, List.map_cons, List.map_nil]; rfl) ?_
  refine (or_calls _ _ _).mono ?_
  rintro e w5 ⟨rfl, hb⟩
  refine ⟨_, rfl, ?_⟩
  have HB3 := Aside0.mk (below_step (pw_below_drewN HB.out _) hb)
  clear hb
  refine hK.out _ _ ?_
  clear hK K
  refine norm_ (a' := ?_) ?_ ?_
  rotate_left
  · show Act.put _ (some 24) _ = _
    simp only [Act.put, List.setIfInBounds_toArray, List.set_cons_zero, List.set_cons_succ, i64_w, i32_w]
    rfl
  refine pure_ (i := 20) (N := some 4) (v := ?_) (a' := ?_) #[true, true, true, true, true, true, true, true, true, true, true, true, true, true, true, true, true, true, true, true, true] rfl rfl (by kernel_rfl) (fun _ _ _ h => h) (Or.inl ⟨by rfl, ?_⟩) ?_ ?_
  rotate_left
  · intro w'
    go_simp
    with_reducible rfl
  rotate_left
  · simp only [Act.put, List.setIfInBounds_toArray, List.set_cons_zero, List.set_cons_succ, i64_w, i32_w]
    rfl
  refine done_ (by kernel_rfl) ?_
  go_wp2
  go_ret
  exact ⟨rfl, HB3.out⟩
end Go.Proofs.Ythnfbcicnmnhnaa.Q
