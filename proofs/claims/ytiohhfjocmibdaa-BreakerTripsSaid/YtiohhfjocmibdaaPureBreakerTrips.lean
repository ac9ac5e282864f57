/- Closed, a breaker opens behind just so many failures, and is half-open just so many ticks later. -/
import Derived.Test.YtiohhfjocmibdaaBBreaker
import Derived.Test.YtiohhfjocmibdaaQx20
import Derived.OpenShut
namespace Go.Proofs.Ytiohhfjocmibdaa.Pure
set_option linter.unusedVariables false
set_option linter.unusedSimpArgs false
open Go.RowKit Go.Proofs.Ytiohhfjocmibdaa.Q Go.Proofs.YtiohhfjocmibdaaW.PrintWords Go.Proofs.YtiohhfjocmibdaaW.PrintLast Go.Proofs.YtiohhfjocmibdaaW.PrintMore

/-- Behind the last failure: until when, and what may go. -/
theorem trips_end {c now n : Int} (hc : 0 ≤ c) (hc' : c ≤ 65535) (hn : 0 ≤ now) (hn' : now ≤ 4294967295) (k : Nat) (i t : Int) (hi : ¬ i < n) :
    usufructlaw10_BreakerTrips.l0 (k + 1) c now n i t c 1 1 0 (now + c) 0 = some true := by
  have t1 : tof (now + c) = now + c := tof_id (by omega) (by unfold MT; omega)
  rw [usufructlaw10_BreakerTrips.l0, if_neg hi]
  unfold breaker_Breaker_Until.f
  rw [w64 (a := now) (by omega) (by omega), w64 (a := c) (by omega) (by omega), w64 (a := now + c) (by omega) (by omega), Option.bind_some]
  dsimp only
  have s1 : st3 1 (now + c) (now + c) = 2 := by unfold st3; rw [if_neg (by decide), if_pos (Int.le_refl _)]
  have m1 : may3 1 1 (now + c) 0 (now + c) = true := by unfold may3; rw [s1]; rfl
  have o1 : out3 1 1 (now + c) 0 (now + c) = 1 := by unfold out3; rw [m1, s1, if_pos rfl, if_pos rfl]; unfold wrap64; omega
  have m2 : may3 1 1 (now + c) 1 (now + c) = false := by unfold may3; rw [s1]; rfl
  rw [if_pos rfl, breaker_State.eq, Option.bind_some]
  dsimp only
  rw [s1, if_pos rfl]
  by_cases h0 : c = 0
  · rw [if_pos h0, breaker_Send.eq, Option.bind_some]
    dsimp only
    rw [m1, o1, if_pos rfl, breaker_Send.eq, Option.bind_some, m2]
    rfl
  · rw [if_neg h0, w64 (a := now + c - 1) (by omega) (by omega), breaker_State.eq, Option.bind_some]
    dsimp only
    have t2 : tof (now + c - 1) = now + c - 1 := tof_id (by omega) (by unfold MT; omega)
    have s2 : st3 1 (now + c) (now + c - 1) = 1 := by unfold st3; rw [if_neg (by decide), t1, t2, if_neg (by omega)]
    rw [s2, if_pos rfl, breaker_Send.eq, Option.bind_some]
    dsimp only
    rw [m1, o1, if_pos rfl, breaker_Send.eq, Option.bind_some, m2]
    rfl
theorem trips_loop {c now n : Int} (hc : 0 ≤ c) (hc' : c ≤ 65535) (hn : 0 ≤ now) (hn' : now ≤ 4294967295) (h2 : n ≤ 256) : ∀ (d : Nat) (i : Int) (k : Nat), 0 ≤ i → i + d + 1 = n →
    usufructlaw10_BreakerTrips.l0 (k + d + 2) c now n i n c 1 0 i 0 0 = some true
  | 0, i, k, hi, h => by
    rw [usufructlaw10_BreakerTrips.l0, if_pos (by omega), breaker_State.eq, Option.bind_some]
    dsimp only
    have s1 : ∀ x, st3 0 0 x = 0 := fun x => by unfold st3; rw [if_pos rfl]
    have d1 : done3 n c 0 i 0 0 (wrap64 now) false = (1, 0, now + c, 0) := by
      unfold done3
      rw [s1, if_neg (by decide), if_neg (by decide), if_neg (by decide), w64 (a := i + 1) (by omega) (by omega), if_pos (by omega), w64 (a := now) (by omega) (by omega), tof_id hn (by unfold MT; omega), tof_id hc (by unfold MT; omega), sat_id (by unfold MT; omega)]
    rw [s1, if_pos rfl, breaker_Done.eq, d1, Option.bind_some]
    exact trips_end hc hc' hn hn' _ _ _ (by rw [w64 (by omega) (by omega)]; omega)
  | d + 1, i, k, hi, h => by
    rw [show k + (d + 1) + 2 = (k + d + 2) + 1 by omega]
    rw [usufructlaw10_BreakerTrips.l0, if_pos (by omega), breaker_State.eq, Option.bind_some]
    dsimp only
    have s1 : ∀ x, st3 0 0 x = 0 := fun x => by unfold st3; rw [if_pos rfl]
    have d1 : done3 n c 0 i 0 0 (wrap64 now) false = (0, i + 1, 0, 0) := by
      unfold done3
      rw [s1, if_neg (by decide), if_neg (by decide), if_neg (by decide), w64 (a := i + 1) (by omega) (by omega), if_neg (by omega)]
    rw [s1, if_pos rfl, breaker_Done.eq, d1, Option.bind_some, w64 (a := i + 1) (by omega) (by omega)]
    exact trips_loop hc hc' hn hn' h2 d (i + 1) k (by omega) (by omega)

theorem BreakerTrips : usufructlaw10_BreakerTrips.Pure := by
  intro a c now ha hc hn
  have ha := bounds_u8 ha
  have hc := bounds_u16 hc
  have hn := bounds_u32 hn
  refine ⟨0 + a.toNat + 2, ?_⟩
  unfold usufructlaw10_BreakerTrips.f
  rw [awake10, Option.bind_some, if_pos rfl, w64 (a := a) (by omega) (by omega), w64 (a := c) (by omega) (by omega), w64 (a := 1 + a) (by omega) (by omega)]
  have e : breaker_New.f (1 + a) c 1 = some (1 + a, c, 1, 0, 0, 0, 0) := by
    unfold breaker_New.f newOk
    rw [decide_eq_true (show 1 ≤ 1 + a by omega), decide_eq_true (show 1 + a ≤ 1000 by omega), decide_eq_true hc.1, decide_eq_true (show c ≤ 1099511627776 by omega)]
    rfl
  rw [e, Option.bind_some]
  dsimp only
  exact trips_loop hc.1 (by omega) hn.1 (by omega) (by omega) a.toNat 0 0 (Int.le_refl _) (by omega)
end Go.Proofs.Ytiohhfjocmibdaa.Pure
