/- guard: gate, Flying, State, May. -/
import Derived.Test.YtjefllmaffialaaDoorGGuardState
namespace Go.Proofs.YtjefllmaffialaaDoor.Q
open Go.RowKit Go.Shelf Go.Proofs.YtjefllmaffialaaDoorW.PrintWords Go.Proofs.YtjefllmaffialaaDoorW.PrintLast Go.Proofs.YtjefllmaffialaaDoorW.PrintMore
set_option linter.unusedVariables false
set_option linter.unusedSimpArgs false

def outR (n : Nat) (p : Int) : Prop := p < 0 ∨ (n : Int) ≤ p

set_option maxRecDepth 100000 in
set_option maxHeartbeats 2000000 in
theorem guard_gate_none (g n cap : Nat) (A : Option Addr) (mv : Value) (p : Int) (w : World) (hg : w.heap[g]? = some (.cells #[.slice A n cap, mv] 43 (0, 0))) (hp : outR n p) :
    Calls Tryd.prog 17 #[.pointer (some ⟨g, 0, none⟩), .int .i64 p] w fun e w' => e = .returned (.pointer none) ∧ Below w.heap.size w w' := by
  have y0 := (blk_cell hg 0).trans rfl
  clear hg
  by_cases h0 : p < 0
  · have hd : decide (p < 0) = true := decide_eq_true h0
    clear h0 hp
    go_enter Tryd.func17, Tryd.ntmps17
    go_wp2
    go_ret
    exact ⟨rfl, Below.refl _ _⟩
  · have hd : decide (p < 0) = false := decide_eq_false h0
    have hd2 : decide ((n : Int) ≤ p) = true := decide_eq_true (by unfold outR at hp; omega)
    clear h0 hp
    go_enter Tryd.func17, Tryd.ntmps17
    go_wp2
    go_ret
    exact ⟨rfl, Below.refl _ _⟩
set_option maxRecDepth 100000 in
set_option maxHeartbeats 2000000 in
theorem guard_gate_some (g n cap a : Nat) (mv : Value) (p : Int) (w : World) (hg : w.heap[g]? = some (.cells #[.slice (some ⟨a, 0, none⟩) n cap, mv] 43 (0, 0))) (h0 : 0 ≤ p) (h1 : p < (n : Int)) :
    Calls Tryd.prog 17 #[.pointer (some ⟨g, 0, none⟩), .int .i64 p] w fun e w' => e = .returned (.pointer (some ⟨a, p.toNat * 7, none⟩)) ∧ Below w.heap.size w w' := by
  have y0 := (blk_cell hg 0).trans rfl
  clear hg
  have hd : decide (p < 0) = false := decide_eq_false (by omega)
  have hd2 : decide ((n : Int) ≤ p) = false := decide_eq_false (by omega)
  have hp1 : (0 ≤ p) = True := eq_true h0
  have hq1 : (p < (n : Int)) = True := eq_true h1
  clear h0 h1
  go_enter Tryd.func17, Tryd.ntmps17
  go_wp2
  go_ret
  exact ⟨by simp, Below.refl _ _⟩

set_option maxRecDepth 100000 in
set_option maxHeartbeats 2000000 in
theorem guard_Flying_none (w0 w : World) (g : Nat) (gs : List Gt) (p : Int) (h : IsGd w0 w g gs) (hp : outR gs.length p) :
    Calls Tryd.prog 12 #[.pointer (some ⟨g, 0, none⟩), .int .i64 p] w fun e w' => e = .returned (.int .i64 0) ∧ Below w.heap.size w w' := by
  obtain ⟨A, cap, m, n, D, hg, hm⟩ := h.head
  have HG := Aside0.mk hg
  have HP := Aside0.mk hp
  clear hg hp hm h
  go_enter Tryd.func12, Tryd.ntmps12
  go_wp2_with (go_at_call 17; refine (guard_gate_none g _ cap A _ p _ HG.out HP.out).mono ?_; rintro e w1 ⟨rfl, hb⟩; have HB1 := Aside0.mk hb; clear hb)
  go_ret
  exact ⟨rfl, HB1.out⟩
set_option maxRecDepth 100000 in
set_option maxHeartbeats 2000000 in
theorem guard_Flying_some (w0 w : World) (g : Nat) (gs : List Gt) (j : Nat) (hj : j < gs.length) (i : Int) (hi : i.toNat = j) (h0 : 0 ≤ i) (h : IsGd w0 w g gs) :
    Calls Tryd.prog 12 #[.pointer (some ⟨g, 0, none⟩), .int .i64 i] w fun e w' => e = .returned (.int .i64 gs[j].fl) ∧ Below w.heap.size w w' := by
  obtain ⟨a, cap, m, hg, hc, _⟩ := h.row j hj i hi h0
  have HG := Aside0.mk hg
  have HI := Aside0.mk (And.intro h0 (show i < (gs.length : Int) by omega))
  have HC := Aside0.mk hc
  clear hg hc h h0 hi
  go_enter Tryd.func12, Tryd.ntmps12
  go_wp2_with (go_at_call 17; refine (guard_gate_some g _ cap a _ i _ HG.out HI.out.1 HI.out.2).mono ?_; rintro e w1 ⟨rfl, hb⟩; have HB1 := Aside0.mk hb; have x6 : w1.cell? ⟨a, i.toNat * 7 + 6, none⟩ = some (.int .i64 gs[j].fl) := (hb.cell (World.block_lt_of_cell? w _ (HC.out 6 _ rfl))).trans (HC.out 6 _ rfl); clear hb)
  go_ret
  exact ⟨rfl, HB1.out⟩

set_option maxRecDepth 100000 in
set_option maxHeartbeats 2000000 in
theorem guard_State_none (w0 w : World) (g : Nat) (gs : List Gt) (p now : Int) (h : IsGd w0 w g gs) (hp : outR gs.length p) :
    Calls Tryd.prog 8 #[.pointer (some ⟨g, 0, none⟩), .int .i64 p, .int .i64 now] w fun e w' => e = .returned (.int .i64 0) ∧ Below w.heap.size w w' := by
  obtain ⟨A, cap, m, n, D, hg, hm⟩ := h.head
  have HG := Aside0.mk hg
  have HP := Aside0.mk hp
  clear hg hp hm h
  go_enter Tryd.func8, Tryd.ntmps8
  go_wp2_with (go_at_call 17; refine (guard_gate_none g _ cap A _ p _ HG.out HP.out).mono ?_; rintro e w1 ⟨rfl, hb⟩; have HB1 := Aside0.mk hb; clear hb)
  go_ret
  exact ⟨rfl, HB1.out⟩
set_option maxRecDepth 100000 in
set_option maxHeartbeats 2000000 in
theorem guard_State_some (w0 w : World) (g : Nat) (gs : List Gt) (j : Nat) (hj : j < gs.length) (i : Int) (hi : i.toNat = j) (h0 : 0 ≤ i) (now : Int) (h : IsGd w0 w g gs) (hb : Below w0.heap.size w0 w) :
    Calls Tryd.prog 8 #[.pointer (some ⟨g, 0, none⟩), .int .i64 i, .int .i64 now] w fun e w' => ∃ k, e = .returned (.int .i64 (stB k now)) ∧ IsB w0 w' gs[j].b k ∧ IsB w0 w gs[j].b k ∧ IsGd w0 w' g gs ∧ Below w0.heap.size w0 w' ∧ K31 w w' := by
  obtain ⟨a, cap, m, hg, hc, _, ⟨k, hk⟩, _⟩ := h.row j hj i hi h0
  have HG := Aside0.mk hg
  have HI := Aside0.mk (And.intro h0 (show i < (gs.length : Int) by omega))
  have HC := Aside0.mk hc
  have HK := Aside0.mk hk
  have HH := Aside0.mk h
  have HB := Aside0.mk hb
  clear hg hc h h0 hi hk hb
  go_enter Tryd.func8, Tryd.ntmps8
  go_wp2_with (first | (go_at_call 17; refine (guard_gate_some g _ cap a _ i _ HG.out HI.out.1 HI.out.2).mono ?_; rintro e w1 ⟨rfl, hb⟩; have HB1 := Aside0.mk (HB.out.trans (hb.mono HB.out.size)); have HH1 := Aside0.mk (HH.out.below hb); have HK1 := Aside0.mk (HK.out.below hb); have HQ1 := Aside0.mk (K31.of_below hb); have x0 : w1.cell? ⟨a, i.toNat * 7, none⟩ = some (.pointer (some ⟨gs[j].b, 0, none⟩)) := (hb.cell (World.block_lt_of_cell? w _ (HC.out 0 _ rfl))).trans (HC.out 0 _ rfl); clear hb) | (go_at_call 18; refine (b_State w0 _ gs[j].b k now HK1.out HB1.out).mono ?_; rintro e w2 ⟨rfl, hi, hb, hkp⟩; have HK2 := Aside0.mk hi; have HB2 := Aside0.mk hb; have HH2 := Aside0.mk (HH1.out.stepB HK1.out hi hkp); have HQ2 := Aside0.mk (HQ1.out.trans (K31.of_keep HK1.out hkp)); clear hi hb hkp))
  go_ret
  exact ⟨k, rfl, HK2.out, HK.out, HH2.out, HB2.out, HQ2.out⟩

/-- May's answer. -/
def mayE (x : Gt) (k : Bk) (now : Int) : Int := if x.p.f1 ≤ x.fl then 8 else if mayB k now = true then 0 else 16
set_option maxRecDepth 100000 in
set_option maxHeartbeats 2000000 in
theorem guard_May_none (w0 w : World) (g : Nat) (gs : List Gt) (p now : Int) (h : IsGd w0 w g gs) (hp : outR gs.length p) :
    Calls Tryd.prog 13 #[.pointer (some ⟨g, 0, none⟩), .int .i64 p, .int .i64 now] w fun e w' => e = .returned (.int .i64 7) ∧ Below w.heap.size w w' := by
  obtain ⟨A, cap, m, n, D, hg, hm⟩ := h.head
  have HG := Aside0.mk hg
  have HP := Aside0.mk hp
  clear hg hp hm h
  go_enter Tryd.func13, Tryd.ntmps13
  go_wp2_with (go_at_call 17; refine (guard_gate_none g _ cap A _ p _ HG.out HP.out).mono ?_; rintro e w1 ⟨rfl, hb⟩; have HB1 := Aside0.mk hb; clear hb)
  go_ret
  exact ⟨rfl, HB1.out⟩
end Go.Proofs.YtjefllmaffialaaDoor.Q
