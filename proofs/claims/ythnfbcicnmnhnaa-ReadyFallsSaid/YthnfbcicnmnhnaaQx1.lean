-- written for this claim by a program of the session
import Derived.Test.YthnfbcicnmnhnaaQx0
namespace Go.Proofs.Ythnfbcicnmnhnaa.Q
open Go.RowKit Go.Proofs.YthnfbcicnmnhnaaW.PrintWords Go.Proofs.YthnfbcicnmnhnaaW.PrintLast Go.Proofs.YthnfbcicnmnhnaaW.PrintMore
attribute [local go_sem] max2_int min2_int max_two min_two max_three min_three max_four min_four   -- for this text's walks alone
set_option linter.unusedVariables false
set_option linter.unusedSimpArgs false

-- NOT PRINTED: function 7 (readyq_New)

-- NOT PRINTED: function 21 (readyq_row_Len)

-- NOT PRINTED: function 12 (readyq_Queue_Len)

/-! ### tick_Good: function 19 -/
def tick_Good.f (a0 : Int) : Option (Bool) := if a0 ≥ 0 then (some (decide (a0 ≤ 1099511627776))) else (some false)
set_option maxHeartbeats 8000000 in
set_option maxRecDepth 100000 in
theorem tick_Good.calls (a0 : Int) (r : Bool) (w : World) (h : tick_Good.f a0 = some r) :
    Calls Try.prog 19 #[.int .i64 a0] w fun e w' => e = .returned (.bool r) ∧ Drawn0 w w' := by
  have H : (if a0 ≥ 0 then (some (decide (a0 ≤ 1099511627776))) else (some false)) = some r := h
  clear h
  by_cases c2 : a0 ≥ 0
  · rw [if_pos c2] at H
    have c2b0 : decide (0 ≤ a0) = true := decide_eq_true c2
    clear c2
    obtain rfl := Option.some.inj H
    go_enter Try.func19, Try.ntmps19
    go_wp2
    go_ret
    exact ⟨by first | rfl | (simp; done) | (simp [*]; done), by repeat (first | exact Drawn0.refl _ | apply Drawn0.step)⟩
  · rw [if_neg c2] at H
    have c2b0 : decide (0 ≤ a0) = false := decide_eq_false c2
    clear c2
    obtain rfl := Option.some.inj H
    go_enter Try.func19, Try.ntmps19
    go_wp2
    go_ret
    exact ⟨by first | rfl | (simp; done) | (simp [*]; done), by repeat (first | exact Drawn0.refl _ | apply Drawn0.step)⟩

/-- THE ONE PURE STATEMENT of tick_Good: yours. -/
def tick_Good.Pure : Prop := ∀ (a0 : Int), (Lit.int .i64 a0).wf = true → tick_Good.f a0 = some true
theorem tick_Good.walk (P : tick_Good.Pure) (a0 : Int) (w : World) (w0 : (Lit.int .i64 a0).wf = true) :
    Calls Try.prog 19 #[.int .i64 a0] w fun e w' => e = .returned (.bool true) ∧ Below w.heap.size w w' := by
  have h := P a0 w0
  refine (tick_Good.calls a0 true w h).mono ?_
  rintro e w' ⟨rfl, hd⟩
  exact ⟨rfl, hd.below⟩

-- NOT PRINTED: function 26 (heap_up)

-- NOT PRINTED: function 20 (heap_Push)

-- NOT PRINTED: function 8 (readyq_Queue_Put)

-- NOT PRINTED: function 9 (readyq_Queue_First)

-- NOT PRINTED: function 6 (usufructlaw07_awake)

-- NOT PRINTED: function 3 (usufructlaw07_ReadyAges)

-- NOT PRINTED: function 10 (readyq_Queue_Weight)

-- NOT PRINTED: function 27 (heap_down)

-- NOT PRINTED: function 22 (heap_Remove)

-- NOT PRINTED: function 16 (readyq_Queue_Remove)

-- NOT PRINTED: function 11 (readyq_Queue_Take)

-- NOT PRINTED: function 4 (usufructlaw07_ReadyFalls)

end Go.Proofs.Ythnfbcicnmnhnaa.Q
