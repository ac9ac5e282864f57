/- While a breaker is open nothing goes; half-open there are never more probes out than there may be. -/
import Derived.Test.YtiohhfjocmibdaaBBreaker
import Derived.Test.YtiohhfjocmibdaaQx27
import Derived.Test.YtiohhfjocmibdaaBOpen
import Derived.OpenShut
namespace Go.Proofs.Ytiohhfjocmibdaa.Walk
set_option linter.unusedVariables false
set_option linter.unusedSimpArgs false
open Go.RowKit Go.Proofs.Ytiohhfjocmibdaa.Q Go.Proofs.YtiohhfjocmibdaaW.PrintWords Go.Proofs.YtiohhfjocmibdaaW.PrintLast Go.Proofs.YtiohhfjocmibdaaW.PrintMore Go.Proofs.Ytiohhfjocmibdaa.Opn

theorem holds_loop {l : List S40} {n : Int} (h0 : 0 ≤ n) (h1 : n ≤ 1000) (hl : l.length ≤ 60) (t c : Int) : ∀ (d i k : Nat), i + d = l.length → 5 * d + 1 ≤ k →
    ∀ now kept f u o, Brk n kept u o → usufructlaw10_BreakerHolds.l0 k l n now (i : Int) t c n kept f u o = some true
  | 0, i, k, hi, hk, now, kept, f, u, o, hB => by
    obtain ⟨k, rfl⟩ : ∃ j, k = j + 1 := ⟨k - 1, by omega⟩
    rw [usufructlaw10_BreakerHolds.l0, if_neg (by omega)]
  | d + 1, i, k, hi, hk, now, kept, f, u, o, hB => by
    have e1 : wrap64 ((i : Int) + 1) = ((i + 1 : Nat) : Int) := by unfold wrap64; omega
    have ih := holds_loop h0 h1 hl t c d (i + 1)
    have p0 : (0 : Int) ≤ (i : Int) := by omega
    have p1 : (i : Int) < (l.length : Int) := by omega
    have j4 : ∀ k, 5 * d + 2 ≤ k → ∀ now kept f u o, Brk n kept u o → usufructlaw10_BreakerHolds.j4 k l n now (i : Int) t c n kept f u o = some true := by
      intro k hk now kept f u o hB
      obtain ⟨k, rfl⟩ : ∃ j, k = j + 1 := ⟨k - 1, by omega⟩
      rw [usufructlaw10_BreakerHolds.j4]
      unfold breaker_Breaker_Out.f
      rw [Option.bind_some]
      dsimp only
      rw [if_neg (by have := hB.o0; omega), Option.bind_some]
      dsimp only
      rw [if_neg (by have := hB.o1; omega), breaker_State.eq, Option.bind_some]
      dsimp only
      rw [Option.bind_some, e1]
      by_cases hs : st3 kept u now = 0
      · rw [if_pos hs, if_pos (hB.shut ((st3_zero _ _ _).1 hs))]
        exact ih k (by omega) (by omega) now kept f u o hB
      · rw [if_neg hs]
        exact ih k (by omega) (by omega) now kept f u o hB
    have j3 : ∀ k, 5 * d + 3 ≤ k → ∀ now x b kept f u o, Brk n kept u o → usufructlaw10_BreakerHolds.j3 k l n now (i : Int) x b t c n kept f u o = some true := by
      intro k hk now x b kept f u o hB
      obtain ⟨k, rfl⟩ : ∃ j, k = j + 1 := ⟨k - 1, by omega⟩
      rw [usufructlaw10_BreakerHolds.j3, if_pos p0, if_pos p1, breaker_Done.eq, Option.bind_some, breaker_Lost.eq, Option.bind_some]
      dsimp only
      split
      · exact j4 k (by omega) _ _ _ _ _ (hB.done h0 _ _ _ _ _)
      · split
        · exact j4 k (by omega) _ _ _ _ _ (hB.lost h1 _)
        · exact j4 k (by omega) _ _ _ _ _ hB
    have j2 : ∀ k, 5 * d + 4 ≤ k → ∀ now x b kept f u o, Brk n kept u o → usufructlaw10_BreakerHolds.j2 k l n now (i : Int) (st3 kept u now) x b t c n kept f u o = some true := by
      intro k hk now x b kept f u o hB
      obtain ⟨k, rfl⟩ : ∃ j, k = j + 1 := ⟨k - 1, by omega⟩
      rw [usufructlaw10_BreakerHolds.j2, breaker_Send.eq, Option.bind_some]
      dsimp only
      have hS := hB.send h1 now
      by_cases hb : b = true
      · rw [if_pos hb]
        by_cases hm : may3 n kept u o now = true
        · rw [if_pos hm]
          have hs : ¬ st3 kept u now = 1 := by
            intro hs
            unfold may3 at hm
            rw [hs] at hm
            exact absurd hm (by simp)
          rw [if_neg hs]
          exact j4 k (by omega) _ _ _ _ _ hS
        · rw [if_neg hm]
          exact j4 k (by omega) _ _ _ _ _ hS
      · rw [if_neg hb]
        split
        · exact j3 k (by omega) _ _ _ _ _ _ _ hB
        · exact j3 k (by omega) _ _ _ _ _ _ _ hB
    have j1 : ∀ k, 5 * d + 5 ≤ k → ∀ now b kept f u o, Brk n kept u o → usufructlaw10_BreakerHolds.j1 k l n now (i : Int) b t c n kept f u o = some true := by
      intro k hk now b kept f u o hB
      obtain ⟨k, rfl⟩ : ∃ j, k = j + 1 := ⟨k - 1, by omega⟩
      rw [usufructlaw10_BreakerHolds.j1, if_pos p0, if_pos p1, breaker_State.eq, Option.bind_some]
      dsimp only
      split
      · rfl
      · split
        · exact j2 k (by omega) _ _ _ _ _ _ _ hB
        · exact j2 k (by omega) _ _ _ _ _ _ _ hB
    obtain ⟨k, rfl⟩ : ∃ j, k = j + 1 := ⟨k - 1, by omega⟩
    rw [usufructlaw10_BreakerHolds.l0, if_pos p1, if_pos p0]
    split
    · exact j1 k (by omega) _ _ _ _ _ _ hB
    · exact j1 k (by omega) _ _ _ _ _ _ hB

theorem BreakerHolds.pure (a b c : Int) (l : List S40) (ha : 0 ≤ a ∧ a ≤ 255) (hb : 0 ≤ b ∧ b ≤ 255) (hc : 0 ≤ c ∧ c ≤ 255) : ∃ k, usufructlaw10_BreakerHolds.f k a b c l = some true := by
  refine ⟨400, ?_⟩
  unfold usufructlaw10_BreakerHolds.f
  rw [awake10, Option.bind_some, if_pos rfl]
  by_cases h : (l.length : Int) > 60
  · rw [if_pos h]
  · rw [if_neg h]
    have e : ∀ x : Int, 0 ≤ x ∧ x ≤ 255 → ∃ y, wrap64 (1 + Int.tmod (wrap64 x) 9) = y ∧ 1 ≤ y ∧ y ≤ 9 := by
      intro x hx
      refine ⟨_, rfl, ?_⟩
      rw [w64 (a := x) (by omega) (by omega), Int.tmod_eq_emod_of_nonneg hx.1]
      rw [w64 (by omega) (by omega)]
      omega
    obtain ⟨t, ht, t0, t1⟩ := e a ha
    obtain ⟨n, hn, n0, n1⟩ := e c hc
    rw [ht, hn, w64 (a := b) (by omega) (by omega)]
    have e2 : breaker_New.f t b n = some (t, b, n, 0, 0, 0, 0) := by
      unfold breaker_New.f newOk
      rw [decide_eq_true (show 1 ≤ t by omega), decide_eq_true (show t ≤ 1000 by omega), decide_eq_true hb.1, decide_eq_true (show b ≤ 1099511627776 by omega), decide_eq_true (show 1 ≤ n by omega), decide_eq_true (show n ≤ 1000 by omega)]
      rfl
    rw [e2, Option.bind_some]
    dsimp only
    exact holds_loop (by omega) (by omega) (by omega) t b l.length 0 400 (by omega) (by omega) 0 0 0 0 0 (Brk.new (by omega))
theorem BreakerHolds.walk (w : World) (a0 : Int) (a1 : Int) (a2 : Int) (A3 : Option Addr) (c3 : Nat) (l3 : List S40)
    (w0 : (Lit.int .u8 a0).wf = true) (w1 : (Lit.int .u8 a1).wf = true) (w2 : (Lit.int .u8 a2).wf = true) (hr3 : Kd.C k40 w A3 l3.length l3) (hc3 : l3.length ≤ c3) (hm3 : c3 ≤ maxLen) (ok3 : ∀ x ∈ l3, (fun s : S40 => (fun x : Int × Int => (fun x => (Lit.int .i64 x).wf = true) x.1 ∧ (fun x => (Lit.int .i64 x).wf = true) x.2) (s.f0, s.f1)) x) :
    Calls Try.prog 9 #[.int .u8 a0, .int .u8 a1, .int .u8 a2, .slice A3 l3.length c3] w fun e w' => e = .returned (.bool true) ∧ Below w.heap.size w w' := by
  obtain ⟨k, h⟩ := BreakerHolds.pure a0 a1 a2 l3 (by have := bounds_u8 w0; omega) (by have := bounds_u8 w1; omega) (by have := bounds_u8 w2; omega)
  exact usufructlaw10_BreakerHolds.calls k a0 a1 a2 A3 c3 l3 true w hr3 hc3 h
end Go.Proofs.Ytiohhfjocmibdaa.Walk
