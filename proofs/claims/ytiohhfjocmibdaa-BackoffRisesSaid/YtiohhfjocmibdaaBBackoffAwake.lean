/- Waits: what the document tells first holds; the reference's right plans are the code's. -/
import Derived.Test.YtiohhfjocmibdaaBBackoff
import Derived.Test.YtiohhfjocmibdaaQx12
import Derived.Test.YtiohhfjocmibdaaQx12
namespace Go.Proofs.Ytiohhfjocmibdaa.Q
set_option linter.unusedVariables false
open Go.RowKit Go.Proofs.YtiohhfjocmibdaaW.PrintWords Go.Proofs.YtiohhfjocmibdaaW.PrintLast Go.Proofs.YtiohhfjocmibdaaW.PrintMore

theorem usufructlaw11_awake.eq {k : Nat} (hk : 200 ≤ k) : usufructlaw11_awake.f k = some true := by
  have G : GoodPlan 3 2 3 10 := ⟨by omega, by omega, by omega, by omega, by omega, by omega, by unfold MT; omega⟩
  have e0 := backoff_Wait.eq G (n := 0) (by unfold MT; omega) (k := k) (by omega)
  have e1 := backoff_Wait.eq G (n := 1) (by unfold MT; omega) (k := k) (by omega)
  have e2 := backoff_Wait.eq G (n := 2) (by unfold MT; omega) (k := k) (by omega)
  have e3 := backoff_Total.eq G (n := 4) (by unfold MT; omega) (k := k) (by omega)
  have e4 := backoff_Left.eq G (n := 1) (by omega) (by omega)
  unfold usufructlaw11_awake.f
  rw [show (0 : Int) = ((0 : Nat) : Int) from rfl, e0]
  simp only [Option.bind_some]
  rw [if_pos (by decide +kernel), show (1 : Int) = ((1 : Nat) : Int) from rfl, e1]
  simp only [Option.bind_some]
  rw [if_pos (by decide +kernel), show (backoff_Wait.f k 3 2 3 10 2) = some (wt 2 3 10 2) from e2]
  simp only [Option.bind_some]
  rw [if_pos (by decide +kernel), show (backoff_Total.f k 3 2 3 10 4) = some (tot 2 3 10 4) from e3]
  simp only [Option.bind_some]
  rw [if_pos (by decide +kernel), show (backoff_Left.f 3 2 3 10 ((1 : Nat) : Int)) = some (3 + 1 - 1) from e4]
  rfl
theorem usufructref11_Good.eq (R B F C : Int) : usufructref11_Good.f R B F C = some (goodPlan R B F C) := by
  unfold usufructref11_Good.f goodPlan MT
  by_cases h1 : 0 ≤ R
  · rw [if_pos h1]
    by_cases h2 : R ≤ 1000
    · rw [if_pos h2]
      by_cases h3 : 1 ≤ B
      · rw [if_pos h3]
        by_cases h7 : B ≤ 1099511627776
        · rw [if_pos h7]
          by_cases h4 : 1 ≤ F
          · rw [if_pos h4]
            by_cases h5 : F ≤ 16
            · rw [if_pos h5]
              by_cases h6 : B ≤ C
              · rw [if_pos h6]; simp [h1, h2, h3, h4, h5, h6]
              · rw [if_neg h6]; simp [h6]
            · rw [if_neg h5]; simp [h5]
          · rw [if_neg h4]; simp [h4]
        · rw [if_neg h7]
          by_cases h6 : B ≤ C
          · simp [h6]; intros; omega
          · simp [h6]
      · rw [if_neg h3]; simp [h3]
    · rw [if_neg h2]; simp [h2]
  · rw [if_neg h1]; simp [h1]
end Go.Proofs.Ytiohhfjocmibdaa.Q
