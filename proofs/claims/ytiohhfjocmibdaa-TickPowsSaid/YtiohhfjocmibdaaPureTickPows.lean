/- A power one higher is the power times its base, a power of 0 is 1, of 1 the base, and none is above the greatest tick: for every base and every count of a byte. -/
import Derived.OpenShut
import Derived.Test.YtiohhfjocmibdaaBTickAwake
import Derived.Test.YtiohhfjocmibdaaQx2
namespace Go.Proofs.Ytiohhfjocmibdaa.Pure
set_option linter.unusedVariables false
open Go.RowKit Go.Proofs.Ytiohhfjocmibdaa.Q Go.Proofs.YtiohhfjocmibdaaW.PrintWords Go.Proofs.YtiohhfjocmibdaaW.PrintLast Go.Proofs.YtiohhfjocmibdaaW.PrintMore

theorem TickPows : usufructlaw01_TickPows.Pure := by
  intro a n ha hn
  refine ⟨41, ?_⟩
  have hb := bounds_u8 hn
  unfold usufructlaw01_TickPows.f
  simp only [usufructlaw01_awake.eq (Nat.le_refl _), tick_Pow.eq _ _ (Nat.le_refl _), tick_Times.eq, tick_Of.eq, Option.bind_some, if_true]
  rw [w64 (a := n) (by omega) (by omega), w64 (a := n + 1) (by omega) (by omega)]
  obtain ⟨m, rfl⟩ := Int.eq_ofNat_of_zero_le hb.1
  have e1 : tof (m : Int) = m := tof_id (by omega) (by unfold MT; omega)
  have e2 : tof ((m : Int) + 1) = ((m + 1 : Nat) : Int) := by rw [tof_id (by omega) (by unfold MT; omega)]; omega
  rw [e1, e2, Int.toNat_natCast, Int.toNat_natCast, tof_id (pw_nonneg (tof_lo a) m) (pw_le m)]
  rw [if_pos (show pw (tof a) (m + 1) = sat (pw (tof a) m * tof a) from rfl)]
  have h0 : pw (tof a) (tof 0).toNat = 1 := rfl
  have h1 : pw (tof a) (tof 1).toNat = tof a := by
    show sat (1 * tof a) = tof a
    rw [Int.one_mul, sat_id (tof_hi a)]
  rw [if_pos h0, if_pos h1]
  simp only [Option.some.injEq, decide_eq_true_eq]
  exact pw_le _

end Go.Proofs.Ytiohhfjocmibdaa.Pure
