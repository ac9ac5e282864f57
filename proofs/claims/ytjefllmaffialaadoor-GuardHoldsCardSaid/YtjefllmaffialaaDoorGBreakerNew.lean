/- breaker.New: of right numbers a closed breaker, of others nil. -/
import Derived.Test.YtjefllmaffialaaDoorQx6
import Derived.Test.YtjefllmaffialaaDoorQx1
import Derived.Lib.Hide
import Derived.Outline
namespace Go.Proofs.YtjefllmaffialaaDoor.Q
open Go.RowKit Go.Proofs.YtjefllmaffialaaDoorW.PrintWords Go.Proofs.YtjefllmaffialaaDoorW.PrintLast Go.Proofs.YtjefllmaffialaaDoorW.PrintMore
set_option linter.unusedVariables false
set_option linter.unusedSimpArgs false

def newOk (a0 a1 a2 : Int) : Bool := decide (1 ≤ a0) && decide (a0 ≤ 1000) && decide (0 ≤ a1) && decide (a1 ≤ 1099511627776) && decide (1 ≤ a2) && decide (a2 ≤ 1000)
def breaker_New.f (a0 : Int) (a1 : Int) (a2 : Int) : Option (Int × Int × Int × Int × Int × Int × Int) := if newOk a0 a1 a2 = true then some (a0, a1, a2, 0, 0, 0, 0) else none
theorem good_f (a : Int) : tick_Good.f a = some (decide (0 ≤ a) && decide (a ≤ 1099511627776)) := by
  unfold tick_Good.f
  by_cases h : a ≥ 0
  · rw [if_pos h, decide_eq_true (show 0 ≤ a from h)]; rfl
  · rw [if_neg h, decide_eq_false h]; rfl
set_option maxHeartbeats 1000000 in
set_option maxRecDepth 100000 in
theorem breaker_New.calls (a0 : Int) (a1 : Int) (a2 : Int) (r1 : Int) (r2 : Int) (r3 : Int) (r4 : Int) (r5 : Int) (r6 : Int) (r7 : Int) (w0 w : World) (hB : Below w0.heap.size w0 w) (h : breaker_New.f a0 a1 a2 = some (r1, r2, r3, r4, r5, r6, r7)) :
    Calls Tryd.prog 24 #[.int .i64 a0, .int .i64 a1, .int .i64 a2] w fun e w' => ∃ g_ : Nat, e = .returned (.pointer (some ⟨g_, 0, none⟩)) ∧ IsS59 w0 w' g_ r1 r2 r3 r4 r5 r6 r7 ∧ Below w0.heap.size w0 w' ∧ Below w.heap.size w w' := by
  unfold breaker_New.f at h
  by_cases hn : newOk a0 a1 a2 = true
  · rw [if_pos hn] at h
    simp only [Option.some.injEq, Prod.mk.injEq] at h
    obtain ⟨rfl, rfl, rfl, rfl, rfl, rfl, rfl⟩ := h
    unfold newOk at hn
    simp only [Bool.and_eq_true, decide_eq_true_eq] at hn
    obtain ⟨⟨⟨⟨⟨h0, h1⟩, h2⟩, h3⟩, h4⟩, h5⟩ := hn
    have c0 : decide (a0 < 1) = false := decide_eq_false (by omega)
    have c1 : decide (1000 < a0) = false := decide_eq_false (by omega)
    have c4 : decide (a2 < 1) = false := decide_eq_false (by omega)
    have c5 : decide (1000 < a2) = false := decide_eq_false (by omega)
    have hg := good_f a1
    rw [decide_eq_true h2, decide_eq_true h3, Bool.and_self] at hg
    have A1 := Aside0.mk hg
    have HB := Aside0.mk hB
    clear h0 h1 h2 h3 h4 h5 hg hB
    go_enter Tryd.func24, Tryd.ntmps24
    go_wp2_with (first | (go_at_call 32; refine (tick_Good.calls a1 true _ A1.out).mono ?_; rintro e w1 ⟨rfl, ⟨nd, rfl⟩⟩) | ((with_reducible refine gate_dst (N := 30) rfl ?_); refine box_event ?hg (N := 30) ?hd (cs := #[.int .i64 a0, .int .i64 a1, .int .i64 a2, .int .i64 0, .int .i64 0, .int .i64 0, .int .i64 0]) (t := 59) ?hr ?_; (case hd => rfl); (case hg => rfl); (case hr => first | (go_simp; done) | (go_simp; rfl)); intro gb hg w9 hbox hb; have HX := Aside0.mk hbox; have HY := Aside0.mk hb; have HG := Aside0.mk hg; clear hbox hb hg))
    go_ret
    have hs : w.heap.size ≤ gb := by rw [HG.out]; exact Nat.le_refl _
    have hb2 : Below w.heap.size w w9 := below_step (pw_below_drewN (Below.refl w.heap.size w) nd) HY.out
    exact ⟨gb, rfl, ⟨HX.out, Nat.le_trans HB.out.size hs⟩, below_step HB.out hb2, hb2⟩
  · rw [if_neg hn] at h
    cases h
set_option maxHeartbeats 1000000 in
set_option maxRecDepth 100000 in
theorem breaker_New.none (a0 : Int) (a1 : Int) (a2 : Int) (w : World) (h : newOk a0 a1 a2 = false) :
    Calls Tryd.prog 24 #[.int .i64 a0, .int .i64 a1, .int .i64 a2] w fun e w' => e = .returned (.pointer none) ∧ Below w.heap.size w w' := by
  have hB := Aside0.mk (Below.refl w.heap.size w)
  have c0 : decide (a0 < 1) = true ∨ decide (a0 < 1) = false ∧ (decide (1000 < a0) = true ∨ decide (1000 < a0) = false ∧ ((decide (0 ≤ a1) && decide (a1 ≤ 1099511627776)) = false ∨ (decide (0 ≤ a1) && decide (a1 ≤ 1099511627776)) = true ∧ (decide (a2 < 1) = true ∨ decide (a2 < 1) = false ∧ decide (1000 < a2) = true))) := by
    unfold newOk at h
    by_cases q0 : a0 < 1
    · exact .inl (decide_eq_true q0)
    · refine .inr ⟨decide_eq_false q0, ?_⟩
      by_cases q1 : 1000 < a0
      · exact .inl (decide_eq_true q1)
      · refine .inr ⟨decide_eq_false q1, ?_⟩
        rw [decide_eq_true (show 1 ≤ a0 by omega), decide_eq_true (show a0 ≤ 1000 by omega), Bool.true_and, Bool.true_and] at h
        cases q2 : (decide (0 ≤ a1) && decide (a1 ≤ 1099511627776))
        · exact .inl rfl
        · refine .inr ⟨rfl, ?_⟩
          rw [q2, Bool.true_and] at h
          by_cases q3 : a2 < 1
          · exact .inl (decide_eq_true q3)
          · refine .inr ⟨decide_eq_false q3, ?_⟩
            rw [decide_eq_true (show 1 ≤ a2 by omega), Bool.true_and] at h
            have := of_decide_eq_false h
            exact decide_eq_true (by omega)
  clear h
  have hg := Aside0.mk (good_f a1)
  rcases c0 with c0 | ⟨c0, c1 | ⟨c1, c2 | ⟨c2, c3 | ⟨c3, c4⟩⟩⟩⟩
  · go_enter Tryd.func24, Tryd.ntmps24
    go_wp2
    go_ret
    exact ⟨rfl, hB.out⟩
  · go_enter Tryd.func24, Tryd.ntmps24
    go_wp2
    go_ret
    exact ⟨rfl, hB.out⟩
  · have A1 : Aside0 (tick_Good.f a1 = some false) := ⟨hg.out.trans (congrArg some c2)⟩
    clear hg c2
    go_enter Tryd.func24, Tryd.ntmps24
    go_wp2_with (first | (go_at_call 32; refine (tick_Good.calls a1 false _ A1.out).mono ?_; rintro e w1 ⟨rfl, ⟨nd, rfl⟩⟩))
    go_ret
    exact ⟨rfl, pw_below_drewN hB.out _⟩
  · have A1 : Aside0 (tick_Good.f a1 = some true) := ⟨hg.out.trans (congrArg some c2)⟩
    clear hg c2
    go_enter Tryd.func24, Tryd.ntmps24
    go_wp2_with (first | (go_at_call 32; refine (tick_Good.calls a1 true _ A1.out).mono ?_; rintro e w1 ⟨rfl, ⟨nd, rfl⟩⟩))
    go_ret
    exact ⟨rfl, pw_below_drewN hB.out _⟩
  · have A1 : Aside0 (tick_Good.f a1 = some true) := ⟨hg.out.trans (congrArg some c2)⟩
    clear hg c2
    go_enter Tryd.func24, Tryd.ntmps24
    go_wp2_with (first | (go_at_call 32; refine (tick_Good.calls a1 true _ A1.out).mono ?_; rintro e w1 ⟨rfl, ⟨nd, rfl⟩⟩))
    go_ret
    exact ⟨rfl, pw_below_drewN hB.out _⟩
end Go.Proofs.YtjefllmaffialaaDoor.Q
