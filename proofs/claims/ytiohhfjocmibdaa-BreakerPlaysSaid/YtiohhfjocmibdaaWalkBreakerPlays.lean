/- Whatever goes, succeeds, fails and is lost, at whatever ticks: a breaker's state, and what may go, is as the document says. -/
import Derived.Test.YtiohhfjocmibdaaBBreaker
import Derived.Test.YtiohhfjocmibdaaQx26
import Derived.Test.YtiohhfjocmibdaaBOpen
import Derived.OpenShut
namespace Go.Proofs.Ytiohhfjocmibdaa.Walk
set_option linter.unusedVariables false
set_option linter.unusedSimpArgs false
open Go.RowKit Go.Proofs.Ytiohhfjocmibdaa.Q Go.Proofs.YtiohhfjocmibdaaW.PrintWords Go.Proofs.YtiohhfjocmibdaaW.PrintLast Go.Proofs.YtiohhfjocmibdaaW.PrintMore Go.Proofs.Ytiohhfjocmibdaa.Opn

theorem plays_loop {l : List S40} {p : Int} (h0 : 0 ≤ p) (h1 : p ≤ 1000) (hl : l.length ≤ 60) (t c : Int) : ∀ (d i k : Nat), i + d = l.length → 5 * d + 1 ≤ k →
    ∀ kept f u o, Brk p kept u o → usufructlaw10_BreakerPlays.l0 k t c p l (i : Int) t c p kept f u o (decide (kept ≠ 0)) f u o = some true
  | 0, i, k, hi, hk, kept, f, u, o, hB => by
    obtain ⟨k, rfl⟩ : ∃ j, k = j + 1 := ⟨k - 1, by omega⟩
    rw [usufructlaw10_BreakerPlays.l0, if_neg (by omega)]
  | d + 1, i, k, hi, hk, kept, f, u, o, hB => by
    have e1 : wrap64 ((i : Int) + 1) = ((i + 1 : Nat) : Int) := by unfold wrap64; omega
    have ih := plays_loop h0 h1 hl t c d (i + 1)
    have p0 : (0 : Int) ≤ (i : Int) := by omega
    have p1 : (i : Int) < (l.length : Int) := by omega
    have j5 : ∀ k, 5 * d + 2 ≤ k → ∀ now kept f u o, Brk p kept u o → usufructlaw10_BreakerPlays.j5 k t c p l (i : Int) now t c p kept f u o (decide (kept ≠ 0)) f u o = some true := by
      intro k hk now kept f u o hB
      obtain ⟨k, rfl⟩ : ∃ j, k = j + 1 := ⟨k - 1, by omega⟩
      rw [usufructlaw10_BreakerPlays.j5, breaker_State.eq, Option.bind_some, kind_eq hB.u0 hB.u1, Option.bind_some]
      dsimp only
      unfold breaker_Breaker_Until.f breaker_Breaker_Out.f
      rw [if_pos rfl, Option.bind_some]
      dsimp only
      rw [if_pos rfl, Option.bind_some]
      dsimp only
      rw [if_pos rfl, e1]
      exact ih k (by omega) (by omega) kept f u o hB
    have j4 : ∀ k, 5 * d + 3 ≤ k → ∀ now x b kept f u o, Brk p kept u o → usufructlaw10_BreakerPlays.j4 k t c p l (i : Int) now x b t c p kept f u o (decide (kept ≠ 0)) f u o = some true := by
      intro k hk now x b kept f u o hB
      obtain ⟨k, rfl⟩ : ∃ j, k = j + 1 := ⟨k - 1, by omega⟩
      rw [usufructlaw10_BreakerPlays.j4, if_pos p0, if_pos p1, breaker_Done.eq, Option.bind_some, refdone_eq hB.u0 hB.u1, Option.bind_some, breaker_Lost.eq, Option.bind_some, reflost_eq hB.u0 hB.u1 hB.o0 (by have := hB.o1; omega), Option.bind_some]
      dsimp only
      split
      · exact j5 k (by omega) _ _ _ _ _ (hB.done h0 _ _ _ _ _)
      · split
        · exact j5 k (by omega) _ _ _ _ _ (hB.lost h1 _)
        · exact j5 k (by omega) _ _ _ _ _ hB
    have j3 : ∀ k, 5 * d + 4 ≤ k → ∀ now x b kept f u o, Brk p kept u o → usufructlaw10_BreakerPlays.j3 k t c p l (i : Int) now x b t c p kept f u o (decide (kept ≠ 0)) f u o = some true := by
      intro k hk now x b kept f u o hB
      obtain ⟨k, rfl⟩ : ∃ j, k = j + 1 := ⟨k - 1, by omega⟩
      rw [usufructlaw10_BreakerPlays.j3, refsend_eq hB.u0 hB.u1, Option.bind_some, breaker_Send.eq, Option.bind_some]
      dsimp only
      split
      · rw [if_neg (by simp)]
        exact j5 k (by omega) _ _ _ _ _ (hB.send h1 _)
      · split
        · exact j4 k (by omega) _ _ _ _ _ _ _ hB
        · exact j4 k (by omega) _ _ _ _ _ _ _ hB
    obtain ⟨k, rfl⟩ : ∃ j, k = j + 1 + 1 := ⟨k - 2, by omega⟩
    rw [usufructlaw10_BreakerPlays.l0, if_pos p1, if_pos p0, breaker_State.eq, Option.bind_some, kind_eq hB.u0 hB.u1, Option.bind_some]
    dsimp only
    rw [if_pos rfl, breaker_May.eq, Option.bind_some, refmay_eq hB.u0 hB.u1, Option.bind_some]
    dsimp only
    rw [usufructlaw10_BreakerPlays.j2, if_neg (by simp), if_pos p0, if_pos p1]
    split
    · exact j3 k (by omega) _ _ _ _ _ _ _ hB
    · exact j3 k (by omega) _ _ _ _ _ _ _ hB

theorem BreakerPlays.pure (t c p : Int) (l : List S40) (hl : l.length ≤ 60) (hn : newOk t c p = true) : ∃ k, usufructlaw10_BreakerPlays.f k t c p l = some true := by
  refine ⟨400 + 1, ?_⟩
  unfold usufructlaw10_BreakerPlays.f
  have e : breaker_New.f t c p = some (t, c, p, 0, 0, 0, 0) := by unfold breaker_New.f; rw [if_pos hn]
  unfold newOk at hn
  simp only [Bool.and_eq_true, decide_eq_true_eq] at hn
  obtain ⟨⟨⟨⟨⟨h0, h1⟩, h2⟩, h3⟩, h4⟩, h5⟩ := hn
  rw [awake10, Option.bind_some, if_pos rfl, if_neg (by omega), e, Option.bind_some, if_neg (by omega), if_neg (by omega), if_neg (by omega), if_neg (by omega), if_neg (by omega)]
  rw [usufructlaw10_BreakerPlays.j0, if_neg (by rw [decide_eq_false (by omega)]; decide)]
  exact plays_loop (by omega) h5 hl t c l.length 0 400 (by omega) (by omega) 0 0 0 0 (Brk.new (by omega))
theorem BreakerPlays.long (t c p : Int) (l : List S40) (hl : ¬ l.length ≤ 60) : usufructlaw10_BreakerPlays.f 0 t c p l = some true := by
  unfold usufructlaw10_BreakerPlays.f
  rw [awake10, Option.bind_some, if_pos rfl, if_pos (by omega)]

set_option maxHeartbeats 2000000 in
set_option maxRecDepth 100000 in
/-- Of wrong numbers none is made, as the document says. -/
theorem BreakerPlays.wrong (w : World) (a0 a1 a2 : Int) (A3 : Option Addr) (c3 : Nat) (l3 : List S40) (hl : l3.length ≤ 60) (hn : newOk a0 a1 a2 = false) :
    Calls Try.prog 8 #[.int .i64 a0, .int .i64 a1, .int .i64 a2, .slice A3 l3.length c3] w fun e w' => e = .returned (.bool true) ∧ Below w.heap.size w w' := by
  have hB := Aside0.mk (Below.refl w.heap.size w)
  have A0 := Aside0.mk awake10
  have A1 := Aside0.mk hn
  have c9 : decide ((60 : Int) < (l3.length : Int)) = false := decide_eq_false (by omega)
  have c0 : decide (a0 < 1) = true ∨ decide (a0 < 1) = false ∧ (decide (1000 < a0) = true ∨ decide (1000 < a0) = false ∧ (decide (a1 < 0) = true ∨ decide (a1 < 0) = false ∧ (decide (1099511627776 < a1) = true ∨ decide (1099511627776 < a1) = false ∧ (decide (a2 < 1) = true ∨ decide (a2 < 1) = false ∧ decide (1000 < a2) = true)))) := by
    unfold newOk at hn
    simp only [Bool.and_eq_false_iff, decide_eq_false_iff_not] at hn
    simp only [decide_eq_true_eq, decide_eq_false_iff_not]
    omega
  clear hn hl
  rcases c0 with c0 | ⟨c0, c1 | ⟨c1, c2 | ⟨c2, c3 | ⟨c3, c4 | ⟨c4, c5⟩⟩⟩⟩⟩
  all_goals
    go_enter Try.func8, Try.ntmps8
    go_wp2_with (first | (go_at_call 25; refine (usufructlaw10_awake.calls true _ A0.out).mono ?_; rintro e w1 ⟨rfl, hb⟩; have HB1 := Aside0.mk hb; clear hb) | (go_at_call 26; refine (breaker_New.none a0 a1 a2 _ A1.out).mono ?_; rintro e w2 ⟨rfl, hb⟩; have HB2 := Aside0.mk (below_step HB1.out hb); clear hb))
    go_ret
    exact ⟨rfl, HB2.out⟩

theorem BreakerPlays.walk (w : World) (a0 : Int) (a1 : Int) (a2 : Int) (A3 : Option Addr) (c3 : Nat) (l3 : List S40)
    (w0 : (Lit.int .i64 a0).wf = true) (w1 : (Lit.int .i64 a1).wf = true) (w2 : (Lit.int .i64 a2).wf = true) (hr3 : Kd.C k40 w A3 l3.length l3) (hc3 : l3.length ≤ c3) (hm3 : c3 ≤ maxLen) (ok3 : ∀ x ∈ l3, (fun s : S40 => (fun x : Int × Int => (fun x => (Lit.int .i64 x).wf = true) x.1 ∧ (fun x => (Lit.int .i64 x).wf = true) x.2) (s.f0, s.f1)) x) :
    Calls Try.prog 8 #[.int .i64 a0, .int .i64 a1, .int .i64 a2, .slice A3 l3.length c3] w fun e w' => e = .returned (.bool true) ∧ Below w.heap.size w w' := by
  by_cases hl : l3.length ≤ 60
  · cases hn : newOk a0 a1 a2
    · exact BreakerPlays.wrong w a0 a1 a2 A3 c3 l3 hl hn
    · obtain ⟨k, h⟩ := BreakerPlays.pure a0 a1 a2 l3 hl hn
      exact usufructlaw10_BreakerPlays.calls k a0 a1 a2 A3 c3 l3 true w hr3 hc3 h
  · exact usufructlaw10_BreakerPlays.calls 0 a0 a1 a2 A3 c3 l3 true w hr3 hc3 (BreakerPlays.long a0 a1 a2 l3 hl)
end Go.Proofs.Ytiohhfjocmibdaa.Walk
