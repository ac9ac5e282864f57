-- written for this claim by a program of the session
import Derived.Test.YtdamiipeijnpnaaQx0
namespace Go.Proofs.Ytdamiipeijnpnaa.Q
open Go.RowKit Go.Proofs.YtdamiipeijnpnaaW.PrintWords Go.Proofs.YtdamiipeijnpnaaW.PrintLast Go.Proofs.YtdamiipeijnpnaaW.PrintMore
attribute [local go_sem] max2_int min2_int max_two min_two max_three min_three max_four min_four   -- for this text's walks alone
set_option linter.unusedVariables false
set_option linter.unusedSimpArgs false

/-! ### record_back: function 46 -/
def record_back.f (l0 : List Int) : Option (Int) := if 0 < (l0.length : Int) then (if 1 < (l0.length : Int) then (if 2 < (l0.length : Int) then (if 3 < (l0.length : Int) then (some (Go.bits .or .u32 (Go.bits .or .u32 (Go.bits .or .u32 ((((rd l0 0) % 4294967296) * 16777216) % 4294967296) ((((rd l0 1) % 4294967296) * 65536) % 4294967296)) ((((rd l0 2) % 4294967296) * 256) % 4294967296)) ((rd l0 3) % 4294967296))) else (none)) else (none)) else (none)) else (none)
set_option maxHeartbeats 8000000 in
set_option maxRecDepth 100000 in
theorem record_back.calls (A0 : Option Addr) (c0 : Nat) (l0 : List Int) (r : Int) (w : World) (hr0 : Kd.C (Kd.int .u8) w A0 l0.length l0) (hc0 : l0.length ≤ c0) (h : record_back.f l0 = some r) :
    Calls Try.prog 46 #[.slice A0 l0.length c0] w fun e w' => e = .returned (.int .u32 r) ∧ Drawn0 w w' := by
  have HR0 := Aside0.mk hr0
  have HC0 := Aside0.mk hc0
  clear hr0 hc0
  have H : (if 0 < (l0.length : Int) then (if 1 < (l0.length : Int) then (if 2 < (l0.length : Int) then (if 3 < (l0.length : Int) then (some (Go.bits .or .u32 (Go.bits .or .u32 (Go.bits .or .u32 ((((rd l0 0) % 4294967296) * 16777216) % 4294967296) ((((rd l0 1) % 4294967296) * 65536) % 4294967296)) ((((rd l0 2) % 4294967296) * 256) % 4294967296)) ((rd l0 3) % 4294967296))) else (none)) else (none)) else (none)) else (none)) = some r := h
  clear h
  by_cases c2 : 0 < (l0.length : Int)
  · rw [if_pos c2] at H
    have c2b0 : decide (0 < (l0.length : Int)) = true := decide_eq_true c2
    have c2b1 : decide (0 < l0.length) = true := decide_eq_true (by omega)
    clear c2
    by_cases c3 : 1 < (l0.length : Int)
    · rw [if_pos c3] at H
      have c3b0 : decide (1 < (l0.length : Int)) = true := decide_eq_true c3
      have c3b1 : decide (1 < l0.length) = true := decide_eq_true (by omega)
      clear c3
      by_cases c4 : 2 < (l0.length : Int)
      · rw [if_pos c4] at H
        have c4b0 : decide (2 < (l0.length : Int)) = true := decide_eq_true c4
        have c4b1 : decide (2 < l0.length) = true := decide_eq_true (by omega)
        clear c4
        by_cases c5 : 3 < (l0.length : Int)
        · rw [if_pos c5] at H
          have c5b0 : decide (3 < (l0.length : Int)) = true := decide_eq_true c5
          have c5b1 : decide (3 < l0.length) = true := decide_eq_true (by omega)
          clear c5
          obtain rfl := Option.some.inj H
          have p396 : 0 ≤ (0 : Int) := (by omega)
          have q396 : 0 < (l0.length : Int) := of_decide_eq_true (by first | (with_reducible assumption) | assumption)
          obtain ⟨ad396, e396, hx396_0⟩ := Kd.at_int HR0.out 0 p396 q396
          cases e396
          have qi396 : (0 < l0.length) = True := eq_true (by omega)
          (try rw [show ((0 : Int)).toNat = 0 from rfl] at hx396_0)
          (try rw [Addr.add_zero'] at hx396_0)
          replace p396 := eq_true p396
          replace q396 := eq_true q396
          have p397 : 0 ≤ (1 : Int) := (by omega)
          have q397 : 1 < (l0.length : Int) := of_decide_eq_true (by first | (with_reducible assumption) | assumption)
          obtain ⟨ad397, e397, hx397_0⟩ := Kd.at_int HR0.out 1 p397 q397
          obtain rfl : ad396 = ad397 := (by injection e397)
          (try simp only [show (1 : Int).toNat = 1 from rfl, Nat.reduceMul, Nat.reduceEqDiff, Go.Addr.add, ↓reduceIte] at hx397_0)
          have qi397 : (1 < l0.length) = True := eq_true (by omega)
          (try rw [show ((1 : Int)).toNat = 1 from rfl] at hx397_0)
          replace p397 := eq_true p397
          replace q397 := eq_true q397
          have p398 : 0 ≤ (2 : Int) := (by omega)
          have q398 : 2 < (l0.length : Int) := of_decide_eq_true (by first | (with_reducible assumption) | assumption)
          obtain ⟨ad398, e398, hx398_0⟩ := Kd.at_int HR0.out 2 p398 q398
          obtain rfl : ad396 = ad398 := (by injection e398)
          (try simp only [show (2 : Int).toNat = 2 from rfl, Nat.reduceMul, Nat.reduceEqDiff, Go.Addr.add, ↓reduceIte] at hx398_0)
          have qi398 : (2 < l0.length) = True := eq_true (by omega)
          (try rw [show ((2 : Int)).toNat = 2 from rfl] at hx398_0)
          replace p398 := eq_true p398
          replace q398 := eq_true q398
          have p399 : 0 ≤ (3 : Int) := (by omega)
          have q399 : 3 < (l0.length : Int) := of_decide_eq_true (by first | (with_reducible assumption) | assumption)
          obtain ⟨ad399, e399, hx399_0⟩ := Kd.at_int HR0.out 3 p399 q399
          obtain rfl : ad396 = ad399 := (by injection e399)
          (try simp only [show (3 : Int).toNat = 3 from rfl, Nat.reduceMul, Nat.reduceEqDiff, Go.Addr.add, ↓reduceIte] at hx399_0)
          have qi399 : (3 < l0.length) = True := eq_true (by omega)
          (try rw [show ((3 : Int)).toNat = 3 from rfl] at hx399_0)
          replace p399 := eq_true p399
          replace q399 := eq_true q399
          go_enter Try.func46, Try.ntmps46
          go_wp2
          repeat (go_quiet (fail); try go_wp2)
          go_ret
          exact ⟨by first | rfl | (simp; done) | (simp [*]; done), by repeat (first | exact Drawn0.refl _ | apply Drawn0.step)⟩
        · rw [if_neg c5] at H
          exact absurd H (by simp)
      · rw [if_neg c4] at H
        exact absurd H (by simp)
    · rw [if_neg c3] at H
      exact absurd H (by simp)
  · rw [if_neg c2] at H
    exact absurd H (by simp)

end Go.Proofs.Ytdamiipeijnpnaa.Q
