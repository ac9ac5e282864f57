/- Ticks: what the document tells first holds. -/
import Derived.Test.YtiohhfjocmibdaaBTick
import Derived.Test.YtiohhfjocmibdaaQx1
namespace Go.Proofs.Ytiohhfjocmibdaa.Q
set_option linter.unusedVariables false
open Go.RowKit Go.Proofs.YtiohhfjocmibdaaW.PrintWords Go.Proofs.YtiohhfjocmibdaaW.PrintLast Go.Proofs.YtiohhfjocmibdaaW.PrintMore

theorem usufructlaw01_awake.eq {k : Nat} (hk : 41 ≤ k) : usufructlaw01_awake.f k = some true := by
  unfold usufructlaw01_awake.f
  simp only [tick_Add.eq, tick_Sub.eq, tick_Pow.eq _ _ hk, Option.bind_some]
  rw [if_pos (by decide +kernel), if_pos (by decide +kernel), if_pos (by decide +kernel)]
  decide +kernel

end Go.Proofs.Ytiohhfjocmibdaa.Q
