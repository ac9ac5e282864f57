/- Sums, differences, products and powers of any two numbers are as the document says. -/
import Derived.Test.YtiohhfjocmibdaaBTickAwake
import Derived.Test.YtiohhfjocmibdaaBTickRef
import Derived.Test.YtiohhfjocmibdaaQx6
namespace Go.Proofs.Ytiohhfjocmibdaa.Pure
set_option linter.unusedVariables false
open Go.RowKit Go.Proofs.Ytiohhfjocmibdaa.Q Go.Proofs.YtiohhfjocmibdaaW.PrintWords Go.Proofs.YtiohhfjocmibdaaW.PrintLast Go.Proofs.YtiohhfjocmibdaaW.PrintMore

theorem TickSums : usufructlaw01_TickSums.Pure := by
  intro a b ha hb
  refine ⟨107, ?_⟩
  unfold usufructlaw01_TickSums.f
  have good : ∀ x, tick_Good.f x = some (tof x == x) := by
    intro x
    unfold tick_Good.f tof MT
    by_cases h : x ≥ 0
    · rw [if_pos h, if_neg (by omega)]
      by_cases h2 : x ≤ 1099511627776
      · rw [if_neg (by omega)]; simp [h2]
      · rw [if_pos (by omega), decide_eq_false h2]
        congr 1
        symm
        rw [beq_eq_false_iff_ne]; omega
    · rw [if_neg h, if_pos (by omega)]
      congr 1
      symm
      rw [beq_eq_false_iff_ne]; omega
  have due : tick_Due.f a b = some (decide (tof b ≤ tof a)) := by
    unfold tick_Due.f
    simp only [tick_Of.eq, Option.bind_some]
  simp only [usufructlaw01_awake.eq (show 41 ≤ 107 by omega), good, due, tick_Of.eq, tick_Add.eq, tick_Sub.eq, tick_Times.eq, tick_Pow.eq _ _ (show 41 ≤ 107 by omega),
    usufructref01_Of.eq, usufructref01_Add.eq, usufructref01_Sub.eq, usufructref01_Times.eq _ _ (show 42 ≤ 107 by omega), usufructref01_Pow.eq _ _ (Nat.le_refl 107), Option.bind_some, if_true]
  simp

end Go.Proofs.Ytiohhfjocmibdaa.Pure
