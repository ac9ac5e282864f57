/- Sums and products don't hang on the order, never fall where an argument rises, and all are ticks: for every three numbers. -/
import Derived.Test.YtiohhfjocmibdaaBTickAwake
import Derived.Test.YtiohhfjocmibdaaQx3
namespace Go.Proofs.Ytiohhfjocmibdaa.Pure
set_option linter.unusedVariables false
open Go.RowKit Go.Proofs.Ytiohhfjocmibdaa.Q Go.Proofs.YtiohhfjocmibdaaW.PrintWords Go.Proofs.YtiohhfjocmibdaaW.PrintLast Go.Proofs.YtiohhfjocmibdaaW.PrintMore

theorem tick_Good.yes {a : Int} (h : 0 ≤ a) (h' : a ≤ MT) : tick_Good.f a = some true := by
  unfold tick_Good.f
  rw [if_pos h, decide_eq_true h']

theorem TickOrders : usufructlaw01_TickOrders.Pure := by
  intro a b c ha hb hc
  refine ⟨44, ?_⟩
  have a1 := tof_lo a; have a2 := tof_hi a; have b1 := tof_lo b; have b2 := tof_hi b; have c1 := tof_lo c; have c2 := tof_hi c
  have last : usufructlaw01_TickOrders.j1 43 a b false = some true := by
    simp only [usufructlaw01_TickOrders.j1, tick_Add.eq, tick_Sub.eq, tick_Times.eq, tick_Pow.eq _ _ (show 41 ≤ 42 by omega), Option.bind_some]
    rw [if_neg (by decide), tick_Good.yes (sat_nonneg (by omega)) sat_le, tick_Good.yes (tof_lo _) (tof_hi _), tick_Good.yes (sat_nonneg (Int.mul_nonneg a1 b1)) sat_le, tick_Good.yes (pw_nonneg a1 _) (pw_le _)]
    simp
  have first : usufructlaw01_TickOrders.j0 44 a b c false = some true := by
    simp only [usufructlaw01_TickOrders.j0, tick_Add.eq, tick_Sub.eq, tick_Times.eq, Option.bind_some]
    rw [if_neg (by decide)]
    by_cases h : a ≤ b
    · have m := tof_mono h
      rw [if_pos h, if_neg (by have := sat_mono (show tof a + tof c ≤ tof b + tof c by omega); omega),
        if_neg (by have := sat_mono (Int.mul_le_mul_of_nonneg_right m c1); omega)]
      have : decide (tof (tof a - tof c) > tof (tof b - tof c)) = false := by
        rw [decide_eq_false_iff_not]
        have := tof_mono (show tof a - tof c ≤ tof b - tof c by omega)
        omega
      rw [this]
      exact last
    · rw [if_neg h]
      exact last
  unfold usufructlaw01_TickOrders.f
  simp only [usufructlaw01_awake.eq (show 41 ≤ 44 by omega), tick_Add.eq, tick_Times.eq, Option.bind_some, if_true]
  rw [if_pos (by rw [Int.add_comm]), if_pos (by rw [Int.mul_comm])]
  have : (sat (tof (sat (tof a + tof b)) + tof c) != sat (tof a + tof (sat (tof b + tof c)))) = false := by
    rw [bne_eq_false_iff_eq, tof_id (sat_nonneg (by omega)) sat_le, tof_id (sat_nonneg (by omega)) sat_le]
    unfold sat MT at *
    repeat' split
    all_goals omega
  rw [this]
  exact first

end Go.Proofs.Ytiohhfjocmibdaa.Pure
