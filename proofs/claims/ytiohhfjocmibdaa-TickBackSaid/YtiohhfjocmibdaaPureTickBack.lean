/- What was added is taken away again where the sum didn't run over, and a difference and what was taken away are what there was: for every two numbers. -/
import Derived.Test.YtiohhfjocmibdaaBTickAwake
import Derived.Test.YtiohhfjocmibdaaQx4
namespace Go.Proofs.Ytiohhfjocmibdaa.Pure
set_option linter.unusedVariables false
open Go.RowKit Go.Proofs.Ytiohhfjocmibdaa.Q Go.Proofs.YtiohhfjocmibdaaW.PrintWords Go.Proofs.YtiohhfjocmibdaaW.PrintLast Go.Proofs.YtiohhfjocmibdaaW.PrintMore

theorem tick_Due.eq (a b : Int) : tick_Due.f a b = some (decide (tof b ≤ tof a)) := by
  unfold tick_Due.f
  simp only [tick_Of.eq, Option.bind_some]

theorem TickBack : usufructlaw01_TickBack.Pure := by
  intro a b ha hb
  refine ⟨42, ?_⟩
  have h1 := tof_lo a; have h2 := tof_hi a; have h3 := tof_lo b; have h4 := tof_hi b
  have last : usufructlaw01_TickBack.j0 42 a b false = some true := by
    simp only [usufructlaw01_TickBack.j0, tick_Due.eq, tick_Sub.eq, tick_Add.eq, tick_Of.eq, Option.bind_some]
    rw [if_neg (by decide)]
    by_cases h : tof b ≤ tof a
    · rw [if_pos (decide_eq_true h), tof_id (a := tof a - tof b) (by omega) (by unfold MT at *; omega), tof_id (a := tof a - tof b) (by omega) (by unfold MT at *; omega), sat_id (by unfold MT at *; omega)]
      simp only [Option.some.injEq, beq_iff_eq]
      omega
    · rw [if_neg (by simpa using h)]
  unfold usufructlaw01_TickBack.f
  simp only [usufructlaw01_awake.eq (show 41 ≤ 42 by omega), tick_Add.eq, tick_Sub.eq, tick_Of.eq, Option.bind_some, if_true]
  by_cases hc : sat (tof a + tof b) < 1099511627776
  · rw [if_pos hc]
    have e : sat (tof a + tof b) = tof a + tof b := by unfold sat MT at *; split at hc <;> omega
    rw [e, tof_id (a := tof a + tof b) (by omega) (by unfold MT; rw [e] at hc; omega), tof_id (a := tof a + tof b - tof b) (by omega) (by unfold MT at *; omega)]
    have : (tof a + tof b - tof b != tof a) = false := by rw [bne_eq_false_iff_eq]; omega
    rw [this]
    exact last
  · rw [if_neg hc]
    exact last

end Go.Proofs.Ytiohhfjocmibdaa.Pure
