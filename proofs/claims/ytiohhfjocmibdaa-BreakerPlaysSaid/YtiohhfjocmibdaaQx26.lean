-- written for this claim by a program of the session
import Derived.Test.YtiohhfjocmibdaaQx0
import Derived.Test.YtiohhfjocmibdaaQx15
import Derived.Test.YtiohhfjocmibdaaQx17
import Derived.Test.YtiohhfjocmibdaaQx18
import Derived.Test.YtiohhfjocmibdaaQx19
import Derived.Test.YtiohhfjocmibdaaQx21
import Derived.Test.YtiohhfjocmibdaaQx22
import Derived.Test.YtiohhfjocmibdaaQx23
import Derived.Test.YtiohhfjocmibdaaQx24
import Derived.Test.YtiohhfjocmibdaaQx25
import Derived.Test.YtiohhfjocmibdaaGBreakerNew
namespace Go.Proofs.Ytiohhfjocmibdaa.Q
open Go.RowKit Go.Proofs.YtiohhfjocmibdaaW.PrintWords Go.Proofs.YtiohhfjocmibdaaW.PrintLast Go.Proofs.YtiohhfjocmibdaaW.PrintMore
attribute [local go_sem] max2_int min2_int max_two min_two max_three min_three max_four min_four   -- for this text's walks alone
set_option linter.unusedVariables false
set_option linter.unusedSimpArgs false

/-! ### usufructlaw10_BreakerPlays: function 8 -/
mutual
def usufructlaw10_BreakerPlays.j0 : Nat → Int → Int → Int → List (S40) → Bool → Int → Int → Int → Int → Int → Int → Int → Option (Bool)
  | 0, _, _, _, _, _, _, _, _, _, _, _, _ => none
  | k + 1, x0, x1, x2, x3, x45, x393000, x393001, x393002, x393003, x393004, x393005, x393006 => if x45 = true then (some false) else (usufructlaw10_BreakerPlays.l0 k x0 x1 x2 x3 0 x393000 x393001 x393002 x393003 x393004 x393005 x393006 false 0 0 0)
def usufructlaw10_BreakerPlays.l0 : Nat → Int → Int → Int → List (S40) → Int → Int → Int → Int → Int → Int → Int → Int → Bool → Int → Int → Int → Option (Bool)
  | 0, _, _, _, _, _, _, _, _, _, _, _, _, _, _, _, _ => none
  | k + 1, x0, x1, x2, x3, x11, x393000, x393001, x393002, x393003, x393004, x393005, x393006, x394000, x394001, x394002, x394003 => if x11 < (x3.length : Int) then (if 0 ≤ x11 then ((breaker_Breaker_State.f x393000 x393001 x393002 x393003 x393004 x393005 x393006 ((rd_T40 x3 x11).f1)).bind fun bt395 => ((usufructref10_Kind.f x394000 x394001 x394002 x394003 ((rd_T40 x3 x11).f1)).bind fun t403 => (if bt395.1 = t403 then ((breaker_Breaker_May.f bt395.2.1 bt395.2.2.1 bt395.2.2.2.1 bt395.2.2.2.2.1 bt395.2.2.2.2.2.1 bt395.2.2.2.2.2.2.1 bt395.2.2.2.2.2.2.2 ((rd_T40 x3 x11).f1)).bind fun bt404 => ((usufructref10_May.f x394000 x394001 x394002 x394003 x2 ((rd_T40 x3 x11).f1)).bind fun t412 => (usufructlaw10_BreakerPlays.j2 k x0 x1 x2 x3 x11 ((rd_T40 x3 x11).f1) (bt404.1 != t412) bt404.2.1 bt404.2.2.1 bt404.2.2.2.1 bt404.2.2.2.2.1 bt404.2.2.2.2.2.1 bt404.2.2.2.2.2.2.1 bt404.2.2.2.2.2.2.2 x394000 x394001 x394002 x394003))) else (usufructlaw10_BreakerPlays.j2 k x0 x1 x2 x3 x11 ((rd_T40 x3 x11).f1) true bt395.2.1 bt395.2.2.1 bt395.2.2.2.1 bt395.2.2.2.2.1 bt395.2.2.2.2.2.1 bt395.2.2.2.2.2.2.1 bt395.2.2.2.2.2.2.2 x394000 x394001 x394002 x394003)))) else (none)) else (some true)
def usufructlaw10_BreakerPlays.j2 : Nat → Int → Int → Int → List (S40) → Int → Int → Bool → Int → Int → Int → Int → Int → Int → Int → Bool → Int → Int → Int → Option (Bool)
  | 0, _, _, _, _, _, _, _, _, _, _, _, _, _, _, _, _, _, _ => none
  | k + 1, x0, x1, x2, x3, x11, x12, x78, x393000, x393001, x393002, x393003, x393004, x393005, x393006, x394000, x394001, x394002, x394003 => if x78 = true then (some false) else (if 0 ≤ x11 then (if x11 < (x3.length : Int) then (if ((rd_T40 x3 x11).f0) = 0 then (usufructlaw10_BreakerPlays.j3 k x0 x1 x2 x3 x11 x12 ((rd_T40 x3 x11).f0) (((rd_T40 x3 x11).f0) == 0) x393000 x393001 x393002 x393003 x393004 x393005 x393006 x394000 x394001 x394002 x394003) else (usufructlaw10_BreakerPlays.j3 k x0 x1 x2 x3 x11 x12 ((rd_T40 x3 x11).f0) (((rd_T40 x3 x11).f0) == 1) x393000 x393001 x393002 x393003 x393004 x393005 x393006 x394000 x394001 x394002 x394003)) else (none)) else (none))
def usufructlaw10_BreakerPlays.j5 : Nat → Int → Int → Int → List (S40) → Int → Int → Int → Int → Int → Int → Int → Int → Int → Bool → Int → Int → Int → Option (Bool)
  | 0, _, _, _, _, _, _, _, _, _, _, _, _, _, _, _, _, _ => none
  | k + 1, x0, x1, x2, x3, x11, x12, x393000, x393001, x393002, x393003, x393004, x393005, x393006, x394000, x394001, x394002, x394003 => (breaker_Breaker_State.f x393000 x393001 x393002 x393003 x393004 x393005 x393006 x12).bind fun bt452 => ((usufructref10_Kind.f x394000 x394001 x394002 x394003 x12).bind fun t460 => (if bt452.1 = t460 then ((breaker_Breaker_Until.f bt452.2.1 bt452.2.2.1 bt452.2.2.2.1 bt452.2.2.2.2.1 bt452.2.2.2.2.2.1 bt452.2.2.2.2.2.2.1 bt452.2.2.2.2.2.2.2).bind fun bt461 => (if bt461.1 = x394002 then ((breaker_Breaker_Out.f bt461.2.1 bt461.2.2.1 bt461.2.2.2.1 bt461.2.2.2.2.1 bt461.2.2.2.2.2.1 bt461.2.2.2.2.2.2.1 bt461.2.2.2.2.2.2.2).bind fun bt469 => (if bt469.1 = x394003 then (usufructlaw10_BreakerPlays.l0 k x0 x1 x2 x3 (wrap64 (x11 + 1)) bt469.2.1 bt469.2.2.1 bt469.2.2.2.1 bt469.2.2.2.2.1 bt469.2.2.2.2.2.1 bt469.2.2.2.2.2.2.1 bt469.2.2.2.2.2.2.2 x394000 x394001 x394002 x394003) else (some false))) else (some false))) else (some false)))
def usufructlaw10_BreakerPlays.j3 : Nat → Int → Int → Int → List (S40) → Int → Int → Int → Bool → Int → Int → Int → Int → Int → Int → Int → Bool → Int → Int → Int → Option (Bool)
  | 0, _, _, _, _, _, _, _, _, _, _, _, _, _, _, _, _, _, _, _ => none
  | k + 1, x0, x1, x2, x3, x11, x12, x83, x84, x393000, x393001, x393002, x393003, x393004, x393005, x393006, x394000, x394001, x394002, x394003 => if x84 = true then ((usufructref10_Send.f x394000 x394001 x394002 x394003 x2 x12).bind fun bt414 => ((breaker_Breaker_Send.f x393000 x393001 x393002 x393003 x393004 x393005 x393006 x12).bind fun bt420 => (if (bt420.1 != bt414.2.2.2.2) = true then (some false) else (usufructlaw10_BreakerPlays.j5 k x0 x1 x2 x3 x11 x12 bt420.2.1 bt420.2.2.1 bt420.2.2.2.1 bt420.2.2.2.2.1 bt420.2.2.2.2.2.1 bt420.2.2.2.2.2.2.1 bt420.2.2.2.2.2.2.2 bt414.1 bt414.2.1 bt414.2.2.1 bt414.2.2.2.1)))) else (if x83 = 2 then (usufructlaw10_BreakerPlays.j4 k x0 x1 x2 x3 x11 x12 x83 (x83 == 2) x393000 x393001 x393002 x393003 x393004 x393005 x393006 x394000 x394001 x394002 x394003) else (usufructlaw10_BreakerPlays.j4 k x0 x1 x2 x3 x11 x12 x83 (x83 == 3) x393000 x393001 x393002 x393003 x393004 x393005 x393006 x394000 x394001 x394002 x394003))
def usufructlaw10_BreakerPlays.j4 : Nat → Int → Int → Int → List (S40) → Int → Int → Int → Bool → Int → Int → Int → Int → Int → Int → Int → Bool → Int → Int → Int → Option (Bool)
  | 0, _, _, _, _, _, _, _, _, _, _, _, _, _, _, _, _, _, _, _ => none
  | k + 1, x0, x1, x2, x3, x11, x12, x83, x100, x393000, x393001, x393002, x393003, x393004, x393005, x393006, x394000, x394001, x394002, x394003 => if x100 = true then (if 0 ≤ x11 then (if x11 < (x3.length : Int) then ((breaker_Breaker_Done.f x393000 x393001 x393002 x393003 x393004 x393005 x393006 x12 (((rd_T40 x3 x11).f0) == 2)).bind fun bt429 => ((usufructref10_Done.f x394000 x394001 x394002 x394003 x0 x1 x12 (((rd_T40 x3 x11).f0) == 2)).bind fun bt437 => (usufructlaw10_BreakerPlays.j5 k x0 x1 x2 x3 x11 x12 bt429.1 bt429.2.1 bt429.2.2.1 bt429.2.2.2.1 bt429.2.2.2.2.1 bt429.2.2.2.2.2.1 bt429.2.2.2.2.2.2 bt437.1 bt437.2.1 bt437.2.2.1 bt437.2.2.2))) else (none)) else (none)) else (if x83 = 4 then ((breaker_Breaker_Lost.f x393000 x393001 x393002 x393003 x393004 x393005 x393006 x12).bind fun bt441 => ((usufructref10_Lost.f x394000 x394001 x394002 x394003 x12).bind fun bt448 => (usufructlaw10_BreakerPlays.j5 k x0 x1 x2 x3 x11 x12 bt441.1 bt441.2.1 bt441.2.2.1 bt441.2.2.2.1 bt441.2.2.2.2.1 bt441.2.2.2.2.2.1 bt441.2.2.2.2.2.2 bt448.1 bt448.2.1 bt448.2.2.1 bt448.2.2.2))) else (usufructlaw10_BreakerPlays.j5 k x0 x1 x2 x3 x11 x12 x393000 x393001 x393002 x393003 x393004 x393005 x393006 x394000 x394001 x394002 x394003))
end
def usufructlaw10_BreakerPlays.f (k : Nat) (a0 : Int) (a1 : Int) (a2 : Int) (l3 : List (S40)) : Option (Bool) := (usufructlaw10_awake.f).bind fun t384 => (if t384 = true then (if (l3.length : Int) > 60 then (some true) else ((breaker_New.f a0 a1 a2).bind fun bt385 => (if a0 < 1 then (usufructlaw10_BreakerPlays.j0 k a0 a1 a2 l3 true bt385.1 bt385.2.1 bt385.2.2.1 bt385.2.2.2.1 bt385.2.2.2.2.1 bt385.2.2.2.2.2.1 bt385.2.2.2.2.2.2) else (if a0 > 1000 then (usufructlaw10_BreakerPlays.j0 k a0 a1 a2 l3 true bt385.1 bt385.2.1 bt385.2.2.1 bt385.2.2.2.1 bt385.2.2.2.2.1 bt385.2.2.2.2.2.1 bt385.2.2.2.2.2.2) else (if a1 < 0 then (usufructlaw10_BreakerPlays.j0 k a0 a1 a2 l3 true bt385.1 bt385.2.1 bt385.2.2.1 bt385.2.2.2.1 bt385.2.2.2.2.1 bt385.2.2.2.2.2.1 bt385.2.2.2.2.2.2) else (if a1 > 1099511627776 then (usufructlaw10_BreakerPlays.j0 k a0 a1 a2 l3 true bt385.1 bt385.2.1 bt385.2.2.1 bt385.2.2.2.1 bt385.2.2.2.2.1 bt385.2.2.2.2.2.1 bt385.2.2.2.2.2.2) else (if a2 < 1 then (usufructlaw10_BreakerPlays.j0 k a0 a1 a2 l3 true bt385.1 bt385.2.1 bt385.2.2.1 bt385.2.2.2.1 bt385.2.2.2.2.1 bt385.2.2.2.2.2.1 bt385.2.2.2.2.2.2) else (usufructlaw10_BreakerPlays.j0 k a0 a1 a2 l3 (decide (a2 > 1000)) bt385.1 bt385.2.1 bt385.2.2.1 bt385.2.2.2.1 bt385.2.2.2.2.1 bt385.2.2.2.2.2.1 bt385.2.2.2.2.2.2)))))))) else (some false))
theorem usufructlaw10_BreakerPlays.mono_l : ∀ k, (∀ y0 y1 y2 y3 y4 y5 y6 y7 y8 y9 y10 y11, LeO (usufructlaw10_BreakerPlays.j0 k y0 y1 y2 y3 y4 y5 y6 y7 y8 y9 y10 y11) (usufructlaw10_BreakerPlays.j0 (k + 1) y0 y1 y2 y3 y4 y5 y6 y7 y8 y9 y10 y11)) ∧ (∀ y0 y1 y2 y3 y4 y5 y6 y7 y8 y9 y10 y11 y12 y13 y14 y15, LeO (usufructlaw10_BreakerPlays.l0 k y0 y1 y2 y3 y4 y5 y6 y7 y8 y9 y10 y11 y12 y13 y14 y15) (usufructlaw10_BreakerPlays.l0 (k + 1) y0 y1 y2 y3 y4 y5 y6 y7 y8 y9 y10 y11 y12 y13 y14 y15)) ∧ (∀ y0 y1 y2 y3 y4 y5 y6 y7 y8 y9 y10 y11 y12 y13 y14 y15 y16 y17, LeO (usufructlaw10_BreakerPlays.j2 k y0 y1 y2 y3 y4 y5 y6 y7 y8 y9 y10 y11 y12 y13 y14 y15 y16 y17) (usufructlaw10_BreakerPlays.j2 (k + 1) y0 y1 y2 y3 y4 y5 y6 y7 y8 y9 y10 y11 y12 y13 y14 y15 y16 y17)) ∧ (∀ y0 y1 y2 y3 y4 y5 y6 y7 y8 y9 y10 y11 y12 y13 y14 y15 y16, LeO (usufructlaw10_BreakerPlays.j5 k y0 y1 y2 y3 y4 y5 y6 y7 y8 y9 y10 y11 y12 y13 y14 y15 y16) (usufructlaw10_BreakerPlays.j5 (k + 1) y0 y1 y2 y3 y4 y5 y6 y7 y8 y9 y10 y11 y12 y13 y14 y15 y16)) ∧ (∀ y0 y1 y2 y3 y4 y5 y6 y7 y8 y9 y10 y11 y12 y13 y14 y15 y16 y17 y18, LeO (usufructlaw10_BreakerPlays.j3 k y0 y1 y2 y3 y4 y5 y6 y7 y8 y9 y10 y11 y12 y13 y14 y15 y16 y17 y18) (usufructlaw10_BreakerPlays.j3 (k + 1) y0 y1 y2 y3 y4 y5 y6 y7 y8 y9 y10 y11 y12 y13 y14 y15 y16 y17 y18)) ∧ (∀ y0 y1 y2 y3 y4 y5 y6 y7 y8 y9 y10 y11 y12 y13 y14 y15 y16 y17 y18, LeO (usufructlaw10_BreakerPlays.j4 k y0 y1 y2 y3 y4 y5 y6 y7 y8 y9 y10 y11 y12 y13 y14 y15 y16 y17 y18) (usufructlaw10_BreakerPlays.j4 (k + 1) y0 y1 y2 y3 y4 y5 y6 y7 y8 y9 y10 y11 y12 y13 y14 y15 y16 y17 y18))
  | 0 => ⟨fun _ _ _ _ _ _ _ _ _ _ _ _ r h => by simp [usufructlaw10_BreakerPlays.j0] at h, fun _ _ _ _ _ _ _ _ _ _ _ _ _ _ _ _ r h => by simp [usufructlaw10_BreakerPlays.l0] at h, fun _ _ _ _ _ _ _ _ _ _ _ _ _ _ _ _ _ _ r h => by simp [usufructlaw10_BreakerPlays.j2] at h, fun _ _ _ _ _ _ _ _ _ _ _ _ _ _ _ _ _ r h => by simp [usufructlaw10_BreakerPlays.j5] at h, fun _ _ _ _ _ _ _ _ _ _ _ _ _ _ _ _ _ _ _ r h => by simp [usufructlaw10_BreakerPlays.j3] at h, fun _ _ _ _ _ _ _ _ _ _ _ _ _ _ _ _ _ _ _ r h => by simp [usufructlaw10_BreakerPlays.j4] at h⟩
  | k + 1 => by
    obtain ⟨ih0, ih1, ih2, ih3, ih4, ih5⟩ := usufructlaw10_BreakerPlays.mono_l k
    refine ⟨?_, ?_, ?_, ?_, ?_, ?_⟩
    · intro y0 y1 y2 y3 y4 y5 y6 y7 y8 y9 y10 y11
      unfold usufructlaw10_BreakerPlays.j0
      repeat' first
      | (with_reducible exact ih0 _ _ _ _ _ _ _ _ _ _ _ _)
      | (with_reducible exact ih1 _ _ _ _ _ _ _ _ _ _ _ _ _ _ _ _)
      | (with_reducible exact ih2 _ _ _ _ _ _ _ _ _ _ _ _ _ _ _ _ _ _)
      | (with_reducible exact ih3 _ _ _ _ _ _ _ _ _ _ _ _ _ _ _ _ _)
      | (with_reducible exact ih4 _ _ _ _ _ _ _ _ _ _ _ _ _ _ _ _ _ _ _)
      | (with_reducible exact ih5 _ _ _ _ _ _ _ _ _ _ _ _ _ _ _ _ _ _ _)
      | (with_reducible exact LeO.refl _)
      | (with_reducible exact LeO.none _)
      | (with_reducible refine LeO.ite ?_ ?_)
      | (with_reducible refine LeO.bind ?_ (fun _ => ?_))
      | exact ih0 _ _ _ _ _ _ _ _ _ _ _ _
      | exact ih1 _ _ _ _ _ _ _ _ _ _ _ _ _ _ _ _
      | exact ih2 _ _ _ _ _ _ _ _ _ _ _ _ _ _ _ _ _ _
      | exact ih3 _ _ _ _ _ _ _ _ _ _ _ _ _ _ _ _ _
      | exact ih4 _ _ _ _ _ _ _ _ _ _ _ _ _ _ _ _ _ _ _
      | exact ih5 _ _ _ _ _ _ _ _ _ _ _ _ _ _ _ _ _ _ _
      | exact LeO.none _
      | refine LeO.ite ?_ ?_
      | refine LeO.bind ?_ (fun _ => ?_)
    · intro y0 y1 y2 y3 y4 y5 y6 y7 y8 y9 y10 y11 y12 y13 y14 y15
      unfold usufructlaw10_BreakerPlays.l0
      repeat' first
      | (with_reducible exact ih0 _ _ _ _ _ _ _ _ _ _ _ _)
      | (with_reducible exact ih1 _ _ _ _ _ _ _ _ _ _ _ _ _ _ _ _)
      | (with_reducible exact ih2 _ _ _ _ _ _ _ _ _ _ _ _ _ _ _ _ _ _)
      | (with_reducible exact ih3 _ _ _ _ _ _ _ _ _ _ _ _ _ _ _ _ _)
      | (with_reducible exact ih4 _ _ _ _ _ _ _ _ _ _ _ _ _ _ _ _ _ _ _)
      | (with_reducible exact ih5 _ _ _ _ _ _ _ _ _ _ _ _ _ _ _ _ _ _ _)
      | (with_reducible exact LeO.refl _)
      | (with_reducible exact LeO.none _)
      | (with_reducible refine LeO.ite ?_ ?_)
      | (with_reducible refine LeO.bind ?_ (fun _ => ?_))
      | exact ih0 _ _ _ _ _ _ _ _ _ _ _ _
      | exact ih1 _ _ _ _ _ _ _ _ _ _ _ _ _ _ _ _
      | exact ih2 _ _ _ _ _ _ _ _ _ _ _ _ _ _ _ _ _ _
      | exact ih3 _ _ _ _ _ _ _ _ _ _ _ _ _ _ _ _ _
      | exact ih4 _ _ _ _ _ _ _ _ _ _ _ _ _ _ _ _ _ _ _
      | exact ih5 _ _ _ _ _ _ _ _ _ _ _ _ _ _ _ _ _ _ _
      | exact LeO.none _
      | refine LeO.ite ?_ ?_
      | refine LeO.bind ?_ (fun _ => ?_)
    · intro y0 y1 y2 y3 y4 y5 y6 y7 y8 y9 y10 y11 y12 y13 y14 y15 y16 y17
      unfold usufructlaw10_BreakerPlays.j2
      repeat' first
      | (with_reducible exact ih0 _ _ _ _ _ _ _ _ _ _ _ _)
      | (with_reducible exact ih1 _ _ _ _ _ _ _ _ _ _ _ _ _ _ _ _)
      | (with_reducible exact ih2 _ _ _ _ _ _ _ _ _ _ _ _ _ _ _ _ _ _)
      | (with_reducible exact ih3 _ _ _ _ _ _ _ _ _ _ _ _ _ _ _ _ _)
      | (with_reducible exact ih4 _ _ _ _ _ _ _ _ _ _ _ _ _ _ _ _ _ _ _)
      | (with_reducible exact ih5 _ _ _ _ _ _ _ _ _ _ _ _ _ _ _ _ _ _ _)
      | (with_reducible exact LeO.refl _)
      | (with_reducible exact LeO.none _)
      | (with_reducible refine LeO.ite ?_ ?_)
      | (with_reducible refine LeO.bind ?_ (fun _ => ?_))
      | exact ih0 _ _ _ _ _ _ _ _ _ _ _ _
      | exact ih1 _ _ _ _ _ _ _ _ _ _ _ _ _ _ _ _
      | exact ih2 _ _ _ _ _ _ _ _ _ _ _ _ _ _ _ _ _ _
      | exact ih3 _ _ _ _ _ _ _ _ _ _ _ _ _ _ _ _ _
      | exact ih4 _ _ _ _ _ _ _ _ _ _ _ _ _ _ _ _ _ _ _
      | exact ih5 _ _ _ _ _ _ _ _ _ _ _ _ _ _ _ _ _ _ _
      | exact LeO.none _
      | refine LeO.ite ?_ ?_
      | refine LeO.bind ?_ (fun _ => ?_)
    · intro y0 y1 y2 y3 y4 y5 y6 y7 y8 y9 y10 y11 y12 y13 y14 y15 y16
      unfold usufructlaw10_BreakerPlays.j5
      repeat' first
      | (with_reducible exact ih0 _ _ _ _ _ _ _ _ _ _ _ _)
      | (with_reducible exact ih1 _ _ _ _ _ _ _ _ _ _ _ _ _ _ _ _)
      | (with_reducible exact ih2 _ _ _ _ _ _ _ _ _ _ _ _ _ _ _ _ _ _)
      | (with_reducible exact ih3 _ _ _ _ _ _ _ _ _ _ _ _ _ _ _ _ _)
      | (with_reducible exact ih4 _ _ _ _ _ _ _ _ _ _ _ _ _ _ _ _ _ _ _)
      | (with_reducible exact ih5 _ _ _ _ _ _ _ _ _ _ _ _ _ _ _ _ _ _ _)
      | (with_reducible exact LeO.refl _)
      | (with_reducible exact LeO.none _)
      | (with_reducible refine LeO.ite ?_ ?_)
      | (with_reducible refine LeO.bind ?_ (fun _ => ?_))
      | exact ih0 _ _ _ _ _ _ _ _ _ _ _ _
      | exact ih1 _ _ _ _ _ _ _ _ _ _ _ _ _ _ _ _
      | exact ih2 _ _ _ _ _ _ _ _ _ _ _ _ _ _ _ _ _ _
      | exact ih3 _ _ _ _ _ _ _ _ _ _ _ _ _ _ _ _ _
      | exact ih4 _ _ _ _ _ _ _ _ _ _ _ _ _ _ _ _ _ _ _
      | exact ih5 _ _ _ _ _ _ _ _ _ _ _ _ _ _ _ _ _ _ _
      | exact LeO.none _
      | refine LeO.ite ?_ ?_
      | refine LeO.bind ?_ (fun _ => ?_)
    · intro y0 y1 y2 y3 y4 y5 y6 y7 y8 y9 y10 y11 y12 y13 y14 y15 y16 y17 y18
      unfold usufructlaw10_BreakerPlays.j3
      repeat' first
      | (with_reducible exact ih0 _ _ _ _ _ _ _ _ _ _ _ _)
      | (with_reducible exact ih1 _ _ _ _ _ _ _ _ _ _ _ _ _ _ _ _)
      | (with_reducible exact ih2 _ _ _ _ _ _ _ _ _ _ _ _ _ _ _ _ _ _)
      | (with_reducible exact ih3 _ _ _ _ _ _ _ _ _ _ _ _ _ _ _ _ _)
      | (with_reducible exact ih4 _ _ _ _ _ _ _ _ _ _ _ _ _ _ _ _ _ _ _)
      | (with_reducible exact ih5 _ _ _ _ _ _ _ _ _ _ _ _ _ _ _ _ _ _ _)
      | (with_reducible exact LeO.refl _)
      | (with_reducible exact LeO.none _)
      | (with_reducible refine LeO.ite ?_ ?_)
      | (with_reducible refine LeO.bind ?_ (fun _ => ?_))
      | exact ih0 _ _ _ _ _ _ _ _ _ _ _ _
      | exact ih1 _ _ _ _ _ _ _ _ _ _ _ _ _ _ _ _
      | exact ih2 _ _ _ _ _ _ _ _ _ _ _ _ _ _ _ _ _ _
      | exact ih3 _ _ _ _ _ _ _ _ _ _ _ _ _ _ _ _ _
      | exact ih4 _ _ _ _ _ _ _ _ _ _ _ _ _ _ _ _ _ _ _
      | exact ih5 _ _ _ _ _ _ _ _ _ _ _ _ _ _ _ _ _ _ _
      | exact LeO.none _
      | refine LeO.ite ?_ ?_
      | refine LeO.bind ?_ (fun _ => ?_)
    · intro y0 y1 y2 y3 y4 y5 y6 y7 y8 y9 y10 y11 y12 y13 y14 y15 y16 y17 y18
      unfold usufructlaw10_BreakerPlays.j4
      repeat' first
      | (with_reducible exact ih0 _ _ _ _ _ _ _ _ _ _ _ _)
      | (with_reducible exact ih1 _ _ _ _ _ _ _ _ _ _ _ _ _ _ _ _)
      | (with_reducible exact ih2 _ _ _ _ _ _ _ _ _ _ _ _ _ _ _ _ _ _)
      | (with_reducible exact ih3 _ _ _ _ _ _ _ _ _ _ _ _ _ _ _ _ _)
      | (with_reducible exact ih4 _ _ _ _ _ _ _ _ _ _ _ _ _ _ _ _ _ _ _)
      | (with_reducible exact ih5 _ _ _ _ _ _ _ _ _ _ _ _ _ _ _ _ _ _ _)
      | (with_reducible exact LeO.refl _)
      | (with_reducible exact LeO.none _)
      | (with_reducible refine LeO.ite ?_ ?_)
      | (with_reducible refine LeO.bind ?_ (fun _ => ?_))
      | exact ih0 _ _ _ _ _ _ _ _ _ _ _ _
      | exact ih1 _ _ _ _ _ _ _ _ _ _ _ _ _ _ _ _
      | exact ih2 _ _ _ _ _ _ _ _ _ _ _ _ _ _ _ _ _ _
      | exact ih3 _ _ _ _ _ _ _ _ _ _ _ _ _ _ _ _ _
      | exact ih4 _ _ _ _ _ _ _ _ _ _ _ _ _ _ _ _ _ _ _
      | exact ih5 _ _ _ _ _ _ _ _ _ _ _ _ _ _ _ _ _ _ _
      | exact LeO.none _
      | refine LeO.ite ?_ ?_
      | refine LeO.bind ?_ (fun _ => ?_)
theorem usufructlaw10_BreakerPlays.mono : ∀ a0 a1 a2 a3 k, LeO (usufructlaw10_BreakerPlays.f k a0 a1 a2 a3) (usufructlaw10_BreakerPlays.f (k + 1) a0 a1 a2 a3) := by
  intro a0 a1 a2 a3 k
  obtain ⟨ih0, ih1, ih2, ih3, ih4, ih5⟩ := usufructlaw10_BreakerPlays.mono_l k
  unfold usufructlaw10_BreakerPlays.f
  repeat' first
      | (with_reducible exact ih0 _ _ _ _ _ _ _ _ _ _ _ _)
      | (with_reducible exact ih1 _ _ _ _ _ _ _ _ _ _ _ _ _ _ _ _)
      | (with_reducible exact ih2 _ _ _ _ _ _ _ _ _ _ _ _ _ _ _ _ _ _)
      | (with_reducible exact ih3 _ _ _ _ _ _ _ _ _ _ _ _ _ _ _ _ _)
      | (with_reducible exact ih4 _ _ _ _ _ _ _ _ _ _ _ _ _ _ _ _ _ _ _)
      | (with_reducible exact ih5 _ _ _ _ _ _ _ _ _ _ _ _ _ _ _ _ _ _ _)
      | (with_reducible exact LeO.refl _)
      | (with_reducible exact LeO.none _)
      | (with_reducible refine LeO.ite ?_ ?_)
      | (with_reducible refine LeO.bind ?_ (fun _ => ?_))
      | exact ih0 _ _ _ _ _ _ _ _ _ _ _ _
      | exact ih1 _ _ _ _ _ _ _ _ _ _ _ _ _ _ _ _
      | exact ih2 _ _ _ _ _ _ _ _ _ _ _ _ _ _ _ _ _ _
      | exact ih3 _ _ _ _ _ _ _ _ _ _ _ _ _ _ _ _ _
      | exact ih4 _ _ _ _ _ _ _ _ _ _ _ _ _ _ _ _ _ _ _
      | exact ih5 _ _ _ _ _ _ _ _ _ _ _ _ _ _ _ _ _ _ _
      | exact LeO.none _
      | refine LeO.ite ?_ ?_
      | refine LeO.bind ?_ (fun _ => ?_)
def usufructlaw10_BreakerPlays.T15 : Bool × List (List Nat × List Nat) := (true, [([], []), ([], []), ([0, 1], [0, 1]), ([], []), ([], []), ([3, 4, 2], [3, 4]), ([2, 5], [2, 5]), ([6, 5], [6]), ([7], [7]), ([7], [7]), ([8, 9, 7, 7], [7, 8, 9]), ([7], [7]), ([7], [7]), ([7], [7]), ([11, 12, 13, 10, 7], [7, 11, 12, 13]), ([10, 14, 7], [7, 10, 14]), ([7, 15], [7, 15])])
def usufructlaw10_BreakerPlays.B15 : List Nat := [0, 0, 3, 0, 0, 31, 63, 127, 255, 255, 1023, 255, 255, 255, 16383, 32767, 65535]
theorem usufructlaw10_BreakerPlays.tab15 : rtab .any (opsOf Try.f8 15) = usufructlaw10_BreakerPlays.T15 := by kernel_rfl
theorem usufructlaw10_BreakerPlays.bits15 : waitsOk usufructlaw10_BreakerPlays.T15.2 usufructlaw10_BreakerPlays.B15 = true := by kernel_rfl
def usufructlaw10_BreakerPlays.T27 : Bool × List (List Nat × List Nat) := (true, [([], []), ([], []), ([], []), ([], []), ([], []), ([], []), ([4, 5], [4, 5]), ([6], [6]), ([7], [7]), ([8], [8]), ([0, 1, 2, 3, 9], [0, 1, 2, 3, 9]), ([10, 10, 0, 1, 2, 3, 4, 5, 6, 7, 8, 9, 10], [10])])
def usufructlaw10_BreakerPlays.B27 : List Nat := [0, 0, 0, 0, 0, 0, 48, 112, 240, 496, 1023, 2047]
theorem usufructlaw10_BreakerPlays.tab27 : rtab .any (opsOf Try.f8 27) = usufructlaw10_BreakerPlays.T27 := by kernel_rfl
theorem usufructlaw10_BreakerPlays.bits27 : waitsOk usufructlaw10_BreakerPlays.T27.2 usufructlaw10_BreakerPlays.B27 = true := by kernel_rfl
def usufructlaw10_BreakerPlays.T31 : Bool × List (List Nat × List Nat) := (true, [([], []), ([], []), ([0, 1], [0, 1]), ([], []), ([], []), ([3, 4, 2], [3, 4]), ([2, 5], [2, 5]), ([6, 5], [6]), ([7], [7]), ([8, 7, 7], [7, 8]), ([7], [7]), ([10, 7], [7, 10]), ([9, 11, 7], [7, 9, 11]), ([7, 12], [7, 12]), ([13, 9], [13]), ([14], [14]), ([15, 14, 14], [14, 15]), ([14], [14]), ([17, 14], [14, 17]), ([16, 18, 14], [14, 16, 18]), ([14, 19], [14, 19])])
def usufructlaw10_BreakerPlays.B31 : List Nat := [0, 0, 3, 0, 0, 31, 63, 127, 255, 511, 255, 1279, 4095, 8191, 16383, 32767, 65535, 32767, 163839, 524287, 1048575]
theorem usufructlaw10_BreakerPlays.tab31 : rtab .any (opsOf Try.f8 31) = usufructlaw10_BreakerPlays.T31 := by kernel_rfl
theorem usufructlaw10_BreakerPlays.bits31 : waitsOk usufructlaw10_BreakerPlays.T31.2 usufructlaw10_BreakerPlays.B31 = true := by kernel_rfl
namespace usufructlaw10_BreakerPlays
def b_ (n k : Nat) : Array Bool := ((List.range n).map fun i => k.testBit i).toArray
theorem sa_ {α : Type} {l : List α} {i : Nat} {a : α} : l.toArray.setIfInBounds i a = (l.set i a).toArray := List.setIfInBounds_toArray l i a
theorem sz_ {α : Type} {a b : α} {l : List α} : (a :: l).set 0 b = b :: l := rfl
theorem ss_ {α : Type} {a b : α} {l : List α} {n : Nat} : (a :: l).set (n + 1) b = a :: l.set n b := rfl
end usufructlaw10_BreakerPlays
open usufructlaw10_BreakerPlays in
set_option maxHeartbeats 8000000 in
set_option maxRecDepth 100000 in
theorem usufructlaw10_BreakerPlays.calls (k : Nat) (a0 : Int) (a1 : Int) (a2 : Int) (A3 : Option Addr) (c3 : Nat) (l3 : List (S40)) (r : Bool) (w : World) (hr3 : Kd.C k40 w A3 l3.length l3) (hc3 : l3.length ≤ c3) (h : usufructlaw10_BreakerPlays.f k a0 a1 a2 l3 = some r) :
    Calls Try.prog 8 #[.int .i64 a0, .int .i64 a1, .int .i64 a2, .slice A3 l3.length c3] w fun e w' => e = .returned (.bool r) ∧ Below w.heap.size w w' := by
  have hu38 := Try.underlying38
  have HR3 := Aside0.mk hr3
  have HC3 := Aside0.mk hc3
  clear hr3 hc3
  have HB := Aside0.mk (Below.refl w.heap.size w)
  have H : ((usufructlaw10_awake.f).bind fun t384 => (if t384 = true then (if (l3.length : Int) > 60 then (some true) else ((breaker_New.f a0 a1 a2).bind fun bt385 => (if a0 < 1 then (usufructlaw10_BreakerPlays.j0 k a0 a1 a2 l3 true bt385.1 bt385.2.1 bt385.2.2.1 bt385.2.2.2.1 bt385.2.2.2.2.1 bt385.2.2.2.2.2.1 bt385.2.2.2.2.2.2) else (if a0 > 1000 then (usufructlaw10_BreakerPlays.j0 k a0 a1 a2 l3 true bt385.1 bt385.2.1 bt385.2.2.1 bt385.2.2.2.1 bt385.2.2.2.2.1 bt385.2.2.2.2.2.1 bt385.2.2.2.2.2.2) else (if a1 < 0 then (usufructlaw10_BreakerPlays.j0 k a0 a1 a2 l3 true bt385.1 bt385.2.1 bt385.2.2.1 bt385.2.2.2.1 bt385.2.2.2.2.1 bt385.2.2.2.2.2.1 bt385.2.2.2.2.2.2) else (if a1 > 1099511627776 then (usufructlaw10_BreakerPlays.j0 k a0 a1 a2 l3 true bt385.1 bt385.2.1 bt385.2.2.1 bt385.2.2.2.1 bt385.2.2.2.2.1 bt385.2.2.2.2.2.1 bt385.2.2.2.2.2.2) else (if a2 < 1 then (usufructlaw10_BreakerPlays.j0 k a0 a1 a2 l3 true bt385.1 bt385.2.1 bt385.2.2.1 bt385.2.2.2.1 bt385.2.2.2.2.1 bt385.2.2.2.2.2.1 bt385.2.2.2.2.2.2) else (usufructlaw10_BreakerPlays.j0 k a0 a1 a2 l3 (decide (a2 > 1000)) bt385.1 bt385.2.1 bt385.2.2.1 bt385.2.2.2.1 bt385.2.2.2.2.1 bt385.2.2.2.2.2.1 bt385.2.2.2.2.2.2)))))))) else (some false))) = some r := h
  clear h
  replace H := Option.bind_eq_some_iff.mp H
  obtain ⟨t384, A50, H⟩ := H
  replace H : (if t384 = true then (if (l3.length : Int) > 60 then (some true) else ((breaker_New.f a0 a1 a2).bind fun bt385 => (if a0 < 1 then (usufructlaw10_BreakerPlays.j0 k a0 a1 a2 l3 true bt385.1 bt385.2.1 bt385.2.2.1 bt385.2.2.2.1 bt385.2.2.2.2.1 bt385.2.2.2.2.2.1 bt385.2.2.2.2.2.2) else (if a0 > 1000 then (usufructlaw10_BreakerPlays.j0 k a0 a1 a2 l3 true bt385.1 bt385.2.1 bt385.2.2.1 bt385.2.2.2.1 bt385.2.2.2.2.1 bt385.2.2.2.2.2.1 bt385.2.2.2.2.2.2) else (if a1 < 0 then (usufructlaw10_BreakerPlays.j0 k a0 a1 a2 l3 true bt385.1 bt385.2.1 bt385.2.2.1 bt385.2.2.2.1 bt385.2.2.2.2.1 bt385.2.2.2.2.2.1 bt385.2.2.2.2.2.2) else (if a1 > 1099511627776 then (usufructlaw10_BreakerPlays.j0 k a0 a1 a2 l3 true bt385.1 bt385.2.1 bt385.2.2.1 bt385.2.2.2.1 bt385.2.2.2.2.1 bt385.2.2.2.2.2.1 bt385.2.2.2.2.2.2) else (if a2 < 1 then (usufructlaw10_BreakerPlays.j0 k a0 a1 a2 l3 true bt385.1 bt385.2.1 bt385.2.2.1 bt385.2.2.2.1 bt385.2.2.2.2.1 bt385.2.2.2.2.2.1 bt385.2.2.2.2.2.2) else (usufructlaw10_BreakerPlays.j0 k a0 a1 a2 l3 (decide (a2 > 1000)) bt385.1 bt385.2.1 bt385.2.2.1 bt385.2.2.2.1 bt385.2.2.2.2.1 bt385.2.2.2.2.2.1 bt385.2.2.2.2.2.2)))))))) else (some false)) = some r := H
  have A5 := Aside0.mk A50
  clear A50
  by_cases c6 : t384 = true
  · subst c6
    have H1 : (if (l3.length : Int) > 60 then (some true) else ((breaker_New.f a0 a1 a2).bind fun bt385 => (if a0 < 1 then (usufructlaw10_BreakerPlays.j0 k a0 a1 a2 l3 true bt385.1 bt385.2.1 bt385.2.2.1 bt385.2.2.2.1 bt385.2.2.2.2.1 bt385.2.2.2.2.2.1 bt385.2.2.2.2.2.2) else (if a0 > 1000 then (usufructlaw10_BreakerPlays.j0 k a0 a1 a2 l3 true bt385.1 bt385.2.1 bt385.2.2.1 bt385.2.2.2.1 bt385.2.2.2.2.1 bt385.2.2.2.2.2.1 bt385.2.2.2.2.2.2) else (if a1 < 0 then (usufructlaw10_BreakerPlays.j0 k a0 a1 a2 l3 true bt385.1 bt385.2.1 bt385.2.2.1 bt385.2.2.2.1 bt385.2.2.2.2.1 bt385.2.2.2.2.2.1 bt385.2.2.2.2.2.2) else (if a1 > 1099511627776 then (usufructlaw10_BreakerPlays.j0 k a0 a1 a2 l3 true bt385.1 bt385.2.1 bt385.2.2.1 bt385.2.2.2.1 bt385.2.2.2.2.1 bt385.2.2.2.2.2.1 bt385.2.2.2.2.2.2) else (if a2 < 1 then (usufructlaw10_BreakerPlays.j0 k a0 a1 a2 l3 true bt385.1 bt385.2.1 bt385.2.2.1 bt385.2.2.2.1 bt385.2.2.2.2.1 bt385.2.2.2.2.2.1 bt385.2.2.2.2.2.2) else (usufructlaw10_BreakerPlays.j0 k a0 a1 a2 l3 (decide (a2 > 1000)) bt385.1 bt385.2.1 bt385.2.2.1 bt385.2.2.2.1 bt385.2.2.2.2.1 bt385.2.2.2.2.2.1 bt385.2.2.2.2.2.2)))))))) = some r := by rw [if_pos rfl] at H; exact H
    clear H
    have H := H1
    clear H1
    by_cases c7 : (l3.length : Int) > 60
    · rw [if_pos c7] at H
      have c7b0 : decide (60 < (l3.length : Int)) = true := decide_eq_true c7
      have c7b1 : decide (60 < l3.length) = true := decide_eq_true (by omega)
      clear c7
      obtain rfl := Option.some.inj H
      go_enter Try.func8, Try.ntmps8
      go_wp2_with (first | ((with_reducible refine gate_callee (f := 25) rfl ?_); refine goesL_ (some 15) rfl rfl Try.func25 (by kernel_rfl) rfl #[] rfl (by (try simp only [List.map_toArray, List.map_cons, List.map_nil]); first | done | rfl | (simp only [List.length_drop, List.length_take]; rfl)) ?_; (with_reducible refine (usufructlaw10_awake.calls  true _ A5.out).mono ?_); rintro e w8 ⟨rfl, hb⟩; refine ⟨_, rfl, ?_⟩; have n0_ := Aside0.mk (below_step (by repeat (first | (with_reducible first | exact HB.out | apply below_alloc | apply pw_below_drewN | apply below_drew1) | exact HB.out)) hb); clear HB; have HB := n0_; clear n0_; (try clear hb); (try clear hb2); (try clear hk); (try clear hi)))
      go_ret
      exact ⟨by first | rfl | (simp [errW_none, errW_some] <;> rfl) | (simp [*, errW_none, errW_some] <;> rfl), by repeat (first | (with_reducible first | exact HB.out | apply below_alloc | apply pw_below_drewN | apply below_drew1) | exact HB.out)⟩
    · rw [if_neg c7] at H
      have c7b0 : decide (60 < (l3.length : Int)) = false := decide_eq_false c7
      have c7b1 : decide (60 < l3.length) = false := decide_eq_false (by omega)
      clear c7
      replace H := Option.bind_eq_some_iff.mp H
      obtain ⟨⟨t385, t386, t387, t388, t389, t390, t391⟩, A90, H⟩ := H
      replace H : (if a0 < 1 then (usufructlaw10_BreakerPlays.j0 k a0 a1 a2 l3 true t385 t386 t387 t388 t389 t390 t391) else (if a0 > 1000 then (usufructlaw10_BreakerPlays.j0 k a0 a1 a2 l3 true t385 t386 t387 t388 t389 t390 t391) else (if a1 < 0 then (usufructlaw10_BreakerPlays.j0 k a0 a1 a2 l3 true t385 t386 t387 t388 t389 t390 t391) else (if a1 > 1099511627776 then (usufructlaw10_BreakerPlays.j0 k a0 a1 a2 l3 true t385 t386 t387 t388 t389 t390 t391) else (if a2 < 1 then (usufructlaw10_BreakerPlays.j0 k a0 a1 a2 l3 true t385 t386 t387 t388 t389 t390 t391) else (usufructlaw10_BreakerPlays.j0 k a0 a1 a2 l3 (decide (a2 > 1000)) t385 t386 t387 t388 t389 t390 t391)))))) = some r := H
      have A9 := Aside0.mk A90
      clear A90
      have HC10 := Aside0.mk H
      clear H
      go_enter Try.func8, Try.ntmps8
      go_upto_region 6 with (first | ((with_reducible refine gate_callee (f := 25) rfl ?_); refine goesL_ (some 15) rfl rfl Try.func25 (by kernel_rfl) rfl #[] rfl (by (try simp only [List.map_toArray, List.map_cons, List.map_nil]); first | done | rfl | (simp only [List.length_drop, List.length_take]; rfl)) ?_; (with_reducible refine (usufructlaw10_awake.calls  true _ A5.out).mono ?_); rintro e w11 ⟨rfl, hb⟩; refine ⟨_, rfl, ?_⟩; have n0_ := Aside0.mk (below_step (by repeat (first | (with_reducible first | exact HB.out | apply below_alloc | apply pw_below_drewN | apply below_drew1) | exact HB.out)) hb); clear HB; have HB := n0_; clear n0_; (try clear hb); (try clear hb2); (try clear hk); (try clear hi)) | ((with_reducible refine gate_callee (f := 26) rfl ?_); refine goesL_ (some 23) rfl rfl Try.func26 (by kernel_rfl) rfl #[.int .i64 a0, .int .i64 a1, .int .i64 a2] rfl (by (try simp only [List.map_toArray, List.map_cons, List.map_nil]); first | done | rfl | (simp only [List.length_drop, List.length_take]; rfl)) ?_; (with_reducible refine (breaker_New.calls a0 a1 a2 t385 t386 t387 t388 t389 t390 t391 w _ ?side1 A9.out).mono ?_); (case side1 => repeat (first | (with_reducible first | exact HB.out | apply below_alloc | apply pw_below_drewN | apply below_drew1) | exact HB.out)); rintro e w12 ⟨g392, rfl, hi, hb, hb2⟩; refine ⟨_, rfl, ?_⟩; have n0_ := Aside0.mk (hb); have n1_ := Aside0.mk (hi); clear HB; have HB := n0_; have HI392 := n1_; clear n0_ n1_; (try clear hb); (try clear hb2); (try clear hk); (try clear hi)))
      (try simp only [Act.put, sa_, sz_, ss_])
      go_cut [45] (fun v45 wc => ∃ (kq : Nat) (x45_9 : Bool), v45 = .bool x45_9 ∧ Aside0 (usufructlaw10_BreakerPlays.j0 kq a0 a1 a2 l3 x45_9 t385 t386 t387 t388 t389 t390 t391 = some r) ∧ Aside0 (kq ≤ k) ∧ Aside0 (IsS57 w wc g392 t385 t386 t387 t388 t389 t390 t391) ∧ Aside0 (Below w.heap.size w wc))
      case first =>
        have H := HC10.out
        clear HC10
        by_cases c13 : a0 < 1
        · rw [if_pos c13] at H
          have c13b0 : decide (a0 < 1) = true := decide_eq_true c13
          clear c13
          (first | rw [c13b0] | (simp only [i64_w, i32_w]; rw [c13b0]) | skip)
          have H' := Aside0.mk H
          clear H
          go_wp2
          go_meet
          case rel => exact ⟨_, (true), (by first | rfl | (simp; done) | (simp [*]; done)), H', ⟨by first | omega | exact Nat.le_refl _⟩, ⟨by repeat (first | (with_reducible first | exact HI392.out | apply IsS57.alloc | apply IsS57.drewN | apply IsS57.drew | apply IsS57.set_0 | apply IsS57.set_1 | apply IsS57.set_2 | apply IsS57.set_3 | apply IsS57.set_4 | apply IsS57.set_5 | apply IsS57.set_6) | exact HI392.out)⟩, ⟨by repeat (first | (with_reducible first | exact HB.out | apply below_alloc | apply pw_below_drewN | apply below_drew1 | refine below_set ?_ (IsS57.ge HI392.out)) | exact HB.out)⟩⟩
        · rw [if_neg c13] at H
          have c13b0 : decide (a0 < 1) = false := decide_eq_false c13
          clear c13
          (first | rw [c13b0] | (simp only [i64_w, i32_w]; rw [c13b0]) | skip)
          by_cases c14 : a0 > 1000
          · rw [if_pos c14] at H
            have c14b0 : decide (1000 < a0) = true := decide_eq_true c14
            clear c14
            have H' := Aside0.mk H
            clear H
            go_wp2
            go_meet
            case rel => exact ⟨_, (true), (by first | rfl | (simp; done) | (simp [*]; done)), H', ⟨by first | omega | exact Nat.le_refl _⟩, ⟨by repeat (first | (with_reducible first | exact HI392.out | apply IsS57.alloc | apply IsS57.drewN | apply IsS57.drew | apply IsS57.set_0 | apply IsS57.set_1 | apply IsS57.set_2 | apply IsS57.set_3 | apply IsS57.set_4 | apply IsS57.set_5 | apply IsS57.set_6) | exact HI392.out)⟩, ⟨by repeat (first | (with_reducible first | exact HB.out | apply below_alloc | apply pw_below_drewN | apply below_drew1 | refine below_set ?_ (IsS57.ge HI392.out)) | exact HB.out)⟩⟩
          · rw [if_neg c14] at H
            have c14b0 : decide (1000 < a0) = false := decide_eq_false c14
            clear c14
            by_cases c15 : a1 < 0
            · rw [if_pos c15] at H
              have c15b0 : decide (a1 < 0) = true := decide_eq_true c15
              clear c15
              have H' := Aside0.mk H
              clear H
              go_wp2
              go_meet
              case rel => exact ⟨_, (true), (by first | rfl | (simp; done) | (simp [*]; done)), H', ⟨by first | omega | exact Nat.le_refl _⟩, ⟨by repeat (first | (with_reducible first | exact HI392.out | apply IsS57.alloc | apply IsS57.drewN | apply IsS57.drew | apply IsS57.set_0 | apply IsS57.set_1 | apply IsS57.set_2 | apply IsS57.set_3 | apply IsS57.set_4 | apply IsS57.set_5 | apply IsS57.set_6) | exact HI392.out)⟩, ⟨by repeat (first | (with_reducible first | exact HB.out | apply below_alloc | apply pw_below_drewN | apply below_drew1 | refine below_set ?_ (IsS57.ge HI392.out)) | exact HB.out)⟩⟩
            · rw [if_neg c15] at H
              have c15b0 : decide (a1 < 0) = false := decide_eq_false c15
              clear c15
              by_cases c16 : a1 > 1099511627776
              · rw [if_pos c16] at H
                have c16b0 : decide (1099511627776 < a1) = true := decide_eq_true c16
                clear c16
                have H' := Aside0.mk H
                clear H
                go_wp2
                go_meet
                case rel => exact ⟨_, (true), (by first | rfl | (simp; done) | (simp [*]; done)), H', ⟨by first | omega | exact Nat.le_refl _⟩, ⟨by repeat (first | (with_reducible first | exact HI392.out | apply IsS57.alloc | apply IsS57.drewN | apply IsS57.drew | apply IsS57.set_0 | apply IsS57.set_1 | apply IsS57.set_2 | apply IsS57.set_3 | apply IsS57.set_4 | apply IsS57.set_5 | apply IsS57.set_6) | exact HI392.out)⟩, ⟨by repeat (first | (with_reducible first | exact HB.out | apply below_alloc | apply pw_below_drewN | apply below_drew1 | refine below_set ?_ (IsS57.ge HI392.out)) | exact HB.out)⟩⟩
              · rw [if_neg c16] at H
                have c16b0 : decide (1099511627776 < a1) = false := decide_eq_false c16
                clear c16
                by_cases c17 : a2 < 1
                · rw [if_pos c17] at H
                  have c17b0 : decide (a2 < 1) = true := decide_eq_true c17
                  clear c17
                  have H' := Aside0.mk H
                  clear H
                  go_wp2
                  go_meet
                  case rel => exact ⟨_, (true), (by first | rfl | (simp; done) | (simp [*]; done)), H', ⟨by first | omega | exact Nat.le_refl _⟩, ⟨by repeat (first | (with_reducible first | exact HI392.out | apply IsS57.alloc | apply IsS57.drewN | apply IsS57.drew | apply IsS57.set_0 | apply IsS57.set_1 | apply IsS57.set_2 | apply IsS57.set_3 | apply IsS57.set_4 | apply IsS57.set_5 | apply IsS57.set_6) | exact HI392.out)⟩, ⟨by repeat (first | (with_reducible first | exact HB.out | apply below_alloc | apply pw_below_drewN | apply below_drew1 | refine below_set ?_ (IsS57.ge HI392.out)) | exact HB.out)⟩⟩
                · rw [if_neg c17] at H
                  have c17b0 : decide (a2 < 1) = false := decide_eq_false c17
                  clear c17
                  have H' := Aside0.mk H
                  clear H
                  go_wp2
                  go_meet
                  case rel => exact ⟨_, (decide (a2 > 1000)), (by first | rfl | (simp; done) | (simp [*]; done)), H', ⟨by first | omega | exact Nat.le_refl _⟩, ⟨by repeat (first | (with_reducible first | exact HI392.out | apply IsS57.alloc | apply IsS57.drewN | apply IsS57.drew | apply IsS57.set_0 | apply IsS57.set_1 | apply IsS57.set_2 | apply IsS57.set_3 | apply IsS57.set_4 | apply IsS57.set_5 | apply IsS57.set_6) | exact HI392.out)⟩, ⟨by repeat (first | (with_reducible first | exact HB.out | apply below_alloc | apply pw_below_drewN | apply below_drew1 | refine below_set ?_ (IsS57.ge HI392.out)) | exact HB.out)⟩⟩
      case rest =>
        clear HC10
        try clear c1
        try clear c2
        try clear p2
        try clear c3
        try clear c6
        try clear c7
        try clear c7b0
        try clear c7b1
        try clear c8
        try clear c13
        try clear c13b0
        try clear c14
        try clear c14b0
        try clear c15
        try clear c15b0
        try clear c16
        try clear c16b0
        try clear c17
        try clear c17b0
        obtain ⟨kq, x45_9, rfl, HA, HJ9, HI392, HB⟩ := hcut
        cases kq with
        | zero => exact absurd HA.out (by simp [usufructlaw10_BreakerPlays.j0])
        | succ kj9 =>
          have H := HA.out
          clear HA
          simp only [usufructlaw10_BreakerPlays.j0] at H
          by_cases c18 : x45_9 = true
          · subst c18
            have H1 : (some false) = some r := by rw [if_pos rfl] at H; exact H
            clear H
            have H := H1
            clear H1
            obtain rfl := Option.some.inj H
            go_wp2
            go_ret
            exact ⟨by first | rfl | (simp [errW_none, errW_some] <;> rfl) | (simp [*, errW_none, errW_some] <;> rfl), by repeat (first | (with_reducible first | exact HB.out | apply below_alloc | apply pw_below_drewN | apply below_drew1 | refine below_set ?_ (IsS57.ge HI392.out)) | exact HB.out)⟩
          · replace c18 := Bool.eq_false_iff.mpr c18
            subst c18
            have H1 : (usufructlaw10_BreakerPlays.l0 kj9 a0 a1 a2 l3 0 t385 t386 t387 t388 t389 t390 t391 false 0 0 0) = some r := by rw [if_neg (show ¬ (false = true) by decide)] at H; exact H
            clear H
            have H := H1
            clear H1
            have H' := Aside0.mk H
            clear H
            go_wp2_with (first | ((with_reducible refine gate_dst (N := 10) rfl ?_); refine box_event ?hg (N := 10) ?hd (cs := #[.bool false, .int .i64 0, .int .i64 0, .int .i64 0]) (t := 38) ?hr ?_; (case hd => rfl); (case hg => rfl); (case hr => first | (go_simp; done) | (go_simp; rfl)); intro gb393 hg w19 hbox hb; have n0_ := Aside0.mk (IsS57.below (by repeat (first | (with_reducible first | exact HI392.out | apply IsS57.alloc | apply IsS57.drewN | apply IsS57.drew | apply IsS57.set_0 | apply IsS57.set_1 | apply IsS57.set_2 | apply IsS57.set_3 | apply IsS57.set_4 | apply IsS57.set_5 | apply IsS57.set_6) | exact HI392.out)) hb); have n1_ := Aside0.mk (below_step (by repeat (first | (with_reducible first | exact HB.out | apply below_alloc | apply pw_below_drewN | apply below_drew1 | refine below_set ?_ (IsS57.ge HI392.out)) | exact HB.out)) hb); have n2_ := Aside0.mk (hbox); have n3_ := Aside0.mk ((by rw [hg]; exact (below_size (by repeat (first | (with_reducible first | exact HB.out | apply below_alloc | apply pw_below_drewN | apply below_drew1 | refine below_set ?_ (IsS57.ge HI392.out)) | exact HB.out))) : w.heap.size ≤ gb393)); have n4_ := Aside0.mk ((by rw [hg]; exact (below_size (by repeat (first | (with_reducible first | exact HB.out | apply below_alloc | apply pw_below_drewN | apply below_drew1 | refine below_set ?_ (IsS57.ge HI392.out)) | exact HB.out))) : w.heap.size ≤ gb393)); have n5_ := Aside0.mk ((by rw [hg]; exact Nat.ne_of_lt (IsS57.lt (show IsS57 w _ g392 t385 t386 t387 t388 t389 t390 t391 from by repeat (first | (with_reducible first | exact HI392.out | apply IsS57.alloc | apply IsS57.drewN | apply IsS57.drew | apply IsS57.set_0 | apply IsS57.set_1 | apply IsS57.set_2 | apply IsS57.set_3 | apply IsS57.set_4 | apply IsS57.set_5 | apply IsS57.set_6) | exact HI392.out))) : g392 ≠ gb393)); have n6_ := Aside0.mk ((by rw [hg]; exact Nat.ne_of_gt (IsS57.lt (show IsS57 w _ g392 t385 t386 t387 t388 t389 t390 t391 from by repeat (first | (with_reducible first | exact HI392.out | apply IsS57.alloc | apply IsS57.drewN | apply IsS57.drew | apply IsS57.set_0 | apply IsS57.set_1 | apply IsS57.set_2 | apply IsS57.set_3 | apply IsS57.set_4 | apply IsS57.set_5 | apply IsS57.set_6) | exact HI392.out))) : gb393 ≠ g392)); clear HI392; clear HB; have HI392 := n0_; have HB := n1_; have BK393 := n2_; have GW393 := n3_; have GE393 := n4_; have NB392_393 := n5_; have NB393_392 := n6_; clear n0_ n1_ n2_ n3_ n4_ n5_ n6_; clear hb hbox hg; have hnb20 := NB393_392.out; have hnc20 := NB392_393.out; have hcz21_0 : w19.cell? ⟨gb393, 0, none⟩ = some (.bool false) := (blk_cell BK393.out 0).trans rfl; have hcz21_1 : w19.cell? ⟨gb393, 1, none⟩ = some (.int .i64 0) := (blk_cell BK393.out 1).trans rfl; have hcz21_2 : w19.cell? ⟨gb393, 2, none⟩ = some (.int .i64 0) := (blk_cell BK393.out 2).trans rfl; have hcz21_3 : w19.cell? ⟨gb393, 3, none⟩ = some (.int .i64 0) := (blk_cell BK393.out 3).trans rfl; have hfz21_0 := blk_frozen BK393.out 0; have hfz21_1 := blk_frozen BK393.out 1; have hfz21_2 := blk_frozen BK393.out 2; have hfz21_3 := blk_frozen BK393.out 3))
            go_loopg [11] kj9 (fun kq v11 w' => ∃ (x11_2 : Int) (x393000_2 : Int) (x393001_2 : Int) (x393002_2 : Int) (x393003_2 : Int) (x393004_2 : Int) (x393005_2 : Int) (x393006_2 : Int) (x394000_2 : Bool) (x394001_2 : Int) (x394002_2 : Int) (x394003_2 : Int), v11 = .int .i64 x11_2 ∧ Aside0 (usufructlaw10_BreakerPlays.l0 kq a0 a1 a2 l3 x11_2 x393000_2 x393001_2 x393002_2 x393003_2 x393004_2 x393005_2 x393006_2 x394000_2 x394001_2 x394002_2 x394003_2 = some r) ∧ Aside0 (kq ≤ kj9) ∧ Aside0 (w'.heap[gb393]? = some (.cells #[.bool x394000_2, .int .i64 x394001_2, .int .i64 x394002_2, .int .i64 x394003_2] 38 (0, 0))) ∧ Aside0 (IsS57 w w' g392 x393000_2 x393001_2 x393002_2 x393003_2 x393004_2 x393005_2 x393006_2) ∧ Aside0 (Below w.heap.size w w'))
            case atStart => exact ⟨(0), (t385), (t386), (t387), (t388), (t389), (t390), (t391), (false), (0), (0), (0), (by first | rfl | (simp; done) | (simp [*]; done)), H', ⟨Nat.le_refl _⟩, ⟨by (with_reducible repeat (first | refine blk_drewN ?_ _ | refine blk_drew ?_ | refine blk_alloc ?_ _)); refine blk_put (cs := #[.bool false, .int .i64 0, .int .i64 0, .int .i64 0]) ?_ 3 _ rfl; (with_reducible repeat (first | refine blk_drewN ?_ _ | refine blk_drew ?_ | refine blk_alloc ?_ _)); refine blk_put (cs := #[.bool false, .int .i64 0, .int .i64 0, .int .i64 0]) ?_ 2 _ rfl; (with_reducible repeat (first | refine blk_drewN ?_ _ | refine blk_drew ?_ | refine blk_alloc ?_ _)); refine blk_put (cs := #[.bool false, .int .i64 0, .int .i64 0, .int .i64 0]) ?_ 1 _ rfl; (with_reducible repeat (first | refine blk_drewN ?_ _ | refine blk_drew ?_ | refine blk_alloc ?_ _)); refine blk_put (cs := #[.bool false, .int .i64 0, .int .i64 0, .int .i64 0]) ?_ 0 _ rfl; (with_reducible repeat (first | refine blk_drewN ?_ _ | refine blk_drew ?_ | refine blk_alloc ?_ _)); exact BK393.out⟩, ⟨by repeat (first | (with_reducible first | exact HI392.out | apply IsS57.alloc | apply IsS57.drewN | apply IsS57.drew | apply IsS57.set_0 | apply IsS57.set_1 | apply IsS57.set_2 | apply IsS57.set_3 | apply IsS57.set_4 | apply IsS57.set_5 | apply IsS57.set_6 | refine IsS57.far ?_ NB392_393.out _) | exact HI392.out)⟩, ⟨by repeat (first | (with_reducible first | exact HB.out | apply below_alloc | apply pw_below_drewN | apply below_drew1 | refine below_set ?_ (IsS57.ge HI392.out) | refine below_set ?_ GE393.out) | exact HB.out)⟩⟩
            case round =>
              clear H'
              try clear c1
              try clear c2
              try clear p2
              try clear c3
              try clear c6
              try clear c7
              try clear c7b0
              try clear c7b1
              try clear c8
              try clear c13
              try clear c13b0
              try clear c14
              try clear c14b0
              try clear c15
              try clear c15b0
              try clear c16
              try clear c16b0
              try clear c17
              try clear c17b0
              try clear c18
              try clear c20
              try clear hcz21_0
              try clear hcz21_1
              try clear hcz21_2
              try clear hcz21_3
              try clear hfz21_0
              try clear hfz21_1
              try clear hfz21_2
              try clear hfz21_3
              try clear p2
              obtain ⟨x11_2, x393000_2, x393001_2, x393002_2, x393003_2, x393004_2, x393005_2, x393006_2, x394000_2, x394001_2, x394002_2, x394003_2, rfl, HA, HK2, BK393, HI392, HB⟩ := hrel
              cases gk with
              | zero => exact absurd HA.out (by simp [usufructlaw10_BreakerPlays.l0])
              | succ k2 =>
                have H := HA.out
                clear HA
                simp only [usufructlaw10_BreakerPlays.l0] at H
                by_cases c22 : x11_2 < (l3.length : Int)
                · rw [if_pos c22] at H
                  have c22b0 : decide (x11_2 < (l3.length : Int)) = true := decide_eq_true c22
                  clear c22
                  by_cases c23 : 0 ≤ x11_2
                  · rw [if_pos c23] at H
                    have c23b0 : decide (0 ≤ x11_2) = true := decide_eq_true c23
                    clear c23
                    have HC24 := Aside0.mk H
                    clear H
                    have p394 : 0 ≤ (x11_2 : Int) := of_decide_eq_true (by first | (with_reducible assumption) | assumption)
                    have q394 : x11_2 < (l3.length : Int) := of_decide_eq_true (by first | (with_reducible assumption) | assumption)
                    obtain ⟨ad394, e394, hx394_0, hx394_1⟩ := at_T40 HR3.out x11_2 p394 q394
                    cases e394
                    replace hx394_0 := (HB.out.cell (World.block_lt_of_cell? w _ hx394_0)).trans hx394_0
                    replace hx394_1 := (HB.out.cell (World.block_lt_of_cell? w _ hx394_1)).trans hx394_1
                    replace p394 := eq_true p394
                    replace q394 := eq_true q394
                    go_upto_region 15 with (fail)
                    go_cut [78] (fun v78 wc => ∃ (kq : Nat) (x78_23 : Bool) (x393000_23 : Int) (x393001_23 : Int) (x393002_23 : Int) (x393003_23 : Int) (x393004_23 : Int) (x393005_23 : Int) (x393006_23 : Int), v78 = .bool x78_23 ∧ Aside0 (usufructlaw10_BreakerPlays.j2 kq a0 a1 a2 l3 x11_2 ((rd_T40 l3 x11_2).f1) x78_23 x393000_23 x393001_23 x393002_23 x393003_23 x393004_23 x393005_23 x393006_23 x394000_2 x394001_2 x394002_2 x394003_2 = some r) ∧ Aside0 (kq ≤ k2) ∧ Aside0 (wc.heap[gb393]? = some (.cells #[.bool x394000_2, .int .i64 x394001_2, .int .i64 x394002_2, .int .i64 x394003_2] 38 (0, 0))) ∧ Aside0 (IsS57 w wc g392 x393000_23 x393001_23 x393002_23 x393003_23 x393004_23 x393005_23 x393006_23) ∧ Aside0 (Below w.heap.size w wc))
                    case first =>
                      have H := HC24.out
                      clear HC24
                      replace H := Option.bind_eq_some_iff.mp H
                      obtain ⟨⟨t395, t396, t397, t398, t399, t400, t401, t402⟩, A250, H⟩ := H
                      replace H : ((usufructref10_Kind.f x394000_2 x394001_2 x394002_2 x394003_2 ((rd_T40 l3 x11_2).f1)).bind fun t403 => (if t395 = t403 then ((breaker_Breaker_May.f t396 t397 t398 t399 t400 t401 t402 ((rd_T40 l3 x11_2).f1)).bind fun bt404 => ((usufructref10_May.f x394000_2 x394001_2 x394002_2 x394003_2 a2 ((rd_T40 l3 x11_2).f1)).bind fun t412 => (usufructlaw10_BreakerPlays.j2 k2 a0 a1 a2 l3 x11_2 ((rd_T40 l3 x11_2).f1) (bt404.1 != t412) bt404.2.1 bt404.2.2.1 bt404.2.2.2.1 bt404.2.2.2.2.1 bt404.2.2.2.2.2.1 bt404.2.2.2.2.2.2.1 bt404.2.2.2.2.2.2.2 x394000_2 x394001_2 x394002_2 x394003_2))) else (usufructlaw10_BreakerPlays.j2 k2 a0 a1 a2 l3 x11_2 ((rd_T40 l3 x11_2).f1) true t396 t397 t398 t399 t400 t401 t402 x394000_2 x394001_2 x394002_2 x394003_2))) = some r := H
                      have A25 := Aside0.mk A250
                      clear A250
                      replace H := Option.bind_eq_some_iff.mp H
                      obtain ⟨t403, A260, H⟩ := H
                      replace H : (if t395 = t403 then ((breaker_Breaker_May.f t396 t397 t398 t399 t400 t401 t402 ((rd_T40 l3 x11_2).f1)).bind fun bt404 => ((usufructref10_May.f x394000_2 x394001_2 x394002_2 x394003_2 a2 ((rd_T40 l3 x11_2).f1)).bind fun t412 => (usufructlaw10_BreakerPlays.j2 k2 a0 a1 a2 l3 x11_2 ((rd_T40 l3 x11_2).f1) (bt404.1 != t412) bt404.2.1 bt404.2.2.1 bt404.2.2.2.1 bt404.2.2.2.2.1 bt404.2.2.2.2.2.1 bt404.2.2.2.2.2.2.1 bt404.2.2.2.2.2.2.2 x394000_2 x394001_2 x394002_2 x394003_2))) else (usufructlaw10_BreakerPlays.j2 k2 a0 a1 a2 l3 x11_2 ((rd_T40 l3 x11_2).f1) true t396 t397 t398 t399 t400 t401 t402 x394000_2 x394001_2 x394002_2 x394003_2)) = some r := H
                      have A26 := Aside0.mk A260
                      clear A260
                      by_cases c27 : t395 = t403
                      · rw [if_pos c27] at H
                        have c27b0 : (t395 == t403) = true := beq_iff_eq.mpr c27
                        have c27b1 : (t395 != t403) = false := bne_eq_false_iff_eq.mpr c27
                        clear c27
                        (first | rw [c27b0] | (simp only [i64_w, i32_w]; rw [c27b0]) | skip)
                        replace H := Option.bind_eq_some_iff.mp H
                        obtain ⟨⟨t404, t405, t406, t407, t408, t409, t410, t411⟩, A280, H⟩ := H
                        replace H : ((usufructref10_May.f x394000_2 x394001_2 x394002_2 x394003_2 a2 ((rd_T40 l3 x11_2).f1)).bind fun t412 => (usufructlaw10_BreakerPlays.j2 k2 a0 a1 a2 l3 x11_2 ((rd_T40 l3 x11_2).f1) (t404 != t412) t405 t406 t407 t408 t409 t410 t411 x394000_2 x394001_2 x394002_2 x394003_2)) = some r := H
                        have A28 := Aside0.mk A280
                        clear A280
                        replace H := Option.bind_eq_some_iff.mp H
                        obtain ⟨t412, A290, H⟩ := H
                        replace H : (usufructlaw10_BreakerPlays.j2 k2 a0 a1 a2 l3 x11_2 ((rd_T40 l3 x11_2).f1) (t404 != t412) t405 t406 t407 t408 t409 t410 t411 x394000_2 x394001_2 x394002_2 x394003_2) = some r := H
                        have A29 := Aside0.mk A290
                        clear A290
                        have H' := Aside0.mk H
                        clear H
                        try go_wp2
                        have n0_ := Aside0.mk (blk_drew BK393.out)
                        have n1_ := Aside0.mk (IsS57.drew HI392.out)
                        have n2_ := Aside0.mk (below_drew1 HB.out)
                        clear BK393
                        clear HI392
                        clear HB
                        have BK393 := n0_
                        have HI392 := n1_
                        have HB := n2_
                        clear n0_ n1_ n2_
                        refine start_ (n := 17) (S := fun w' => w'.cell? ⟨gb393, 0, none⟩ = some (.bool x394000_2) ∧ w'.cell? ⟨gb393, 1, none⟩ = some (.int .i64 x394001_2) ∧ w'.cell? ⟨gb393, 2, none⟩ = some (.int .i64 x394002_2) ∧ w'.cell? ⟨gb393, 3, none⟩ = some (.int .i64 x394003_2)) (ds := []) #[false, false, false, false, false, false, false, false, false, false, false, false, false, false, false, false, false] (by kernel_rfl) rfl rfl ⟨(blk_cell BK393.out 0).trans rfl, (blk_cell BK393.out 1).trans rfl, (blk_cell BK393.out 2).trans rfl, (blk_cell BK393.out 3).trans rfl⟩ (fun hHeld => ?_); refine with_tabW usufructlaw10_BreakerPlays.tab15 usufructlaw10_BreakerPlays.bits15 (fun HT_ HW_ => ?_)
                        generalize wr.drew = w30 at BK393 HI392 HB hHeld ⊢
                        refine pure_ (i := 0) (N := some 62) (v := ?_) (a' := ?_) (b_ 17 1) rfl rfl (any_of HT_.out (by kernel_rfl)) (fun _ _ _ h => h) (Or.inl ⟨by rfl, ?_⟩) ?_ ?_; rotate_left; (· intro w'; go_simp; with_reducible rfl); rotate_left; (· simp only [Act.put, sa_, sz_, ss_, i64_w, i32_w]; rfl)
                        refine pure_ (i := 1) (N := some 63) (v := ?_) (a' := ?_) (b_ 17 3) rfl rfl (any_of HT_.out (by kernel_rfl)) (fun _ _ _ h => h) (Or.inl ⟨by rfl, ?_⟩) ?_ ?_; rotate_left; (· intro w'; go_simp; with_reducible rfl); rotate_left; (· simp only [Act.put, sa_, sz_, ss_, i64_w, i32_w]; rfl)
                        refine pure_ (i := 4) (N := some 66) (v := ?_) (a' := ?_) (b_ 17 19) rfl rfl (any_of HT_.out (by kernel_rfl)) (fun _ _ _ h => h) (Or.inl ⟨by rfl, ?_⟩) ?_ ?_; rotate_left; (· intro w'; go_simp; with_reducible rfl); rotate_left; (· simp only [Act.put, sa_, sz_, ss_, i64_w, i32_w]; rfl)
                        refine take_ (i := 3) (N := some 65) (v := ?_) (a' := ?_) (b_ 17 27) rfl rfl (take_ofW HT_.out HW_.out (by kernel_rfl)) (fun _ _ _ h => h) (Or.inl ⟨by rfl, ?_⟩) hHeld ?_ ?_
                        rotate_left
                        · rintro w' ⟨s0, s1, s2, s3⟩
                          go_simp
                          with_reducible rfl
                        rotate_left
                        · simp only [Act.put, sa_, sz_, ss_, i64_w, i32_w]
                          rfl
                        refine one_ (i := 2) (N := some 64) (b_ 17 31) rfl rfl (one_of HT_.out (by kernel_rfl)) (by decide) (fun K hK => ?_)
                        refine goes_ Try.func27 (by kernel_rfl) rfl #[.pointer (some ⟨g392, 0, none⟩), .int .i64 ((rd_T40 l3 x11_2).f1)] (by rfl) rfl rfl (by (try simp only [List.map_toArray, List.map_cons, List.map_nil]); first | done | rfl | (simp only [List.length_drop, List.length_take]; rfl)) ?_
                        with_reducible refine (breaker_Breaker_State.calls g392 x393000_2 x393001_2 x393002_2 x393003_2 x393004_2 x393005_2 x393006_2 ((rd_T40 l3 x11_2).f1) t395 t396 t397 t398 t399 t400 t401 t402 w _ ?side1 ?side2 A25.out).mono ?_
                        (case side1 => repeat (first | (with_reducible first | exact HI392.out | apply IsS57.alloc | apply IsS57.drewN | apply IsS57.drew | apply IsS57.set_0 | apply IsS57.set_1 | apply IsS57.set_2 | apply IsS57.set_3 | apply IsS57.set_4 | apply IsS57.set_5 | apply IsS57.set_6 | refine IsS57.far ?_ NB392_393.out _) | exact HI392.out))
                        (case side2 => repeat (first | (with_reducible first | exact HB.out | apply below_alloc | apply pw_below_drewN | apply below_drew1 | refine below_set ?_ (IsS57.ge HI392.out) | refine below_set ?_ GE393.out) | exact HB.out))
                        rintro e w31 ⟨rfl, hi, hb, hk⟩
                        refine ⟨_, rfl, ?_⟩
                        have n0_ := Aside0.mk (KeepBut.blk hk (g' := gb393) (o := .cells #[.bool x394000_2, .int .i64 x394001_2, .int .i64 x394002_2, .int .i64 x394003_2] 38 (0, 0)) (by (with_reducible repeat (first | refine blk_drewN ?_ _ | refine blk_drew ?_ | refine blk_alloc ?_ _)); exact BK393.out) NB393_392.out (by simp))
                        have n1_ := Aside0.mk (hb)
                        have n2_ := Aside0.mk (hi)
                        clear BK393
                        clear HB
                        clear HI392
                        have BK393 := n0_
                        have HB := n1_
                        have HI392 := n2_
                        clear n0_ n1_ n2_
                        (try clear hb); (try clear hb2); (try clear hk); (try clear hi)
                        refine hK.out _ _ ⟨(blk_cell BK393.out 0).trans rfl, (blk_cell BK393.out 1).trans rfl, (blk_cell BK393.out 2).trans rfl, (blk_cell BK393.out 3).trans rfl⟩ (fun hHeld => ?_)
                        clear hK K
                        refine norm_ (a' := ?_) ?_ ?_
                        rotate_left
                        · show Act.put _ (some 64) _ = _
                          simp only [Act.put, sa_, sz_, ss_, i64_w, i32_w]
                          rfl
                        refine one_ (i := 5) (N := some 67) (b_ 17 63) rfl rfl (one_of HT_.out (by kernel_rfl)) (by decide) (fun K hK => ?_)
                        refine goes_ Try.func31 (by kernel_rfl) rfl #[.agg #[.bool x394000_2, .int .i64 x394001_2, .int .i64 x394002_2, .int .i64 x394003_2], .int .i64 ((rd_T40 l3 x11_2).f1)] (by rfl) rfl rfl (by (try simp only [List.map_toArray, List.map_cons, List.map_nil]); first | done | rfl | (simp only [List.length_drop, List.length_take]; rfl)) ?_
                        with_reducible refine (usufructref10_Kind.calls x394000_2 x394001_2 x394002_2 x394003_2 ((rd_T40 l3 x11_2).f1) t403 _ A26.out).mono ?_
                        rintro e w32 ⟨rfl, hb⟩
                        refine ⟨_, rfl, ?_⟩
                        have n0_ := Aside0.mk (blk_below (g := gb393) (o := .cells #[.bool x394000_2, .int .i64 x394001_2, .int .i64 x394002_2, .int .i64 x394003_2] 38 (0, 0)) (by (with_reducible repeat (first | refine blk_drewN ?_ _ | refine blk_drew ?_ | refine blk_alloc ?_ _)); exact BK393.out) hb)
                        have n1_ := Aside0.mk (IsS57.below (by repeat (first | (with_reducible first | exact HI392.out | apply IsS57.alloc | apply IsS57.drewN | apply IsS57.drew | apply IsS57.set_0 | apply IsS57.set_1 | apply IsS57.set_2 | apply IsS57.set_3 | apply IsS57.set_4 | apply IsS57.set_5 | apply IsS57.set_6 | refine IsS57.far ?_ NB392_393.out _) | exact HI392.out)) hb)
                        have n2_ := Aside0.mk (below_step (by repeat (first | (with_reducible first | exact HB.out | apply below_alloc | apply pw_below_drewN | apply below_drew1 | refine below_set ?_ (IsS57.ge HI392.out) | refine below_set ?_ GE393.out) | exact HB.out)) hb)
                        clear BK393
                        clear HI392
                        clear HB
                        have BK393 := n0_
                        have HI392 := n1_
                        have HB := n2_
                        clear n0_ n1_ n2_
                        (try clear hb); (try clear hb2); (try clear hk); (try clear hi)
                        refine hK.out _ _ ⟨(blk_cell BK393.out 0).trans rfl, (blk_cell BK393.out 1).trans rfl, (blk_cell BK393.out 2).trans rfl, (blk_cell BK393.out 3).trans rfl⟩ (fun hHeld => ?_)
                        clear hK K
                        refine norm_ (a' := ?_) ?_ ?_
                        rotate_left
                        · show Act.put _ (some 67) _ = _
                          simp only [Act.put, sa_, sz_, ss_, i64_w, i32_w]
                          rfl
                        refine pure_ (i := 6) (N := some 68) (v := ?_) (a' := ?_) (b_ 17 127) rfl rfl (any_of HT_.out (by kernel_rfl)) (fun _ _ _ h => h) (Or.inl ⟨by rfl, ?_⟩) ?_ ?_; rotate_left; (· intro w'; go_simp; with_reducible rfl); rotate_left; (· simp only [Act.put, sa_, sz_, ss_, i64_w, i32_w]; rfl)
                        refine pure_ (i := 7) (N := some 69) (v := ?_) (a' := ?_) (b_ 17 255) rfl rfl (any_of HT_.out (by kernel_rfl)) (fun _ _ _ h => h) (Or.inl ⟨by rfl, ?_⟩) ?_ ?_; rotate_left; (· intro w'; go_simp; with_reducible rfl); rotate_left; (· simp only [Act.put, sa_, sz_, ss_, i64_w, i32_w]; rfl)
                        refine pure_ (i := 8) (N := some 70) (v := ?_) (a' := ?_) (b_ 17 511) rfl rfl (any_of HT_.out (by kernel_rfl)) (fun _ _ _ h => h) (Or.inl ⟨by rfl, ?_⟩) ?_ ?_; rotate_left; (· intro w'; go_simp; with_reducible rfl); rotate_left; (· simp only [Act.put, sa_, sz_, ss_, i64_w, i32_w]; rfl)
                        refine pure_ (i := 9) (N := some 71) (v := ?_) (a' := ?_) (b_ 17 1023) rfl rfl (any_of HT_.out (by kernel_rfl)) (fun _ _ _ h => h) (Or.inl ⟨by rfl, ?_⟩) ?_ ?_; rotate_left; (· intro w'; go_simp; with_reducible rfl); rotate_left; (· simp only [Act.put, sa_, sz_, ss_, i64_w, i32_w]; rfl)
                        refine pure_ (i := 12) (N := some 74) (v := ?_) (a' := ?_) (b_ 17 5119) rfl rfl (any_of HT_.out (by kernel_rfl)) (fun _ _ _ h => h) (Or.inl ⟨by rfl, ?_⟩) ?_ ?_; rotate_left; (· intro w'; go_simp; with_reducible rfl); rotate_left; (· simp only [Act.put, sa_, sz_, ss_, i64_w, i32_w]; rfl)
                        refine pure_ (i := 13) (N := some 75) (v := ?_) (a' := ?_) (b_ 17 13311) rfl rfl (any_of HT_.out (by kernel_rfl)) (fun _ _ _ h => h) (Or.inl ⟨by rfl, ?_⟩) ?_ ?_; rotate_left; (· intro w'; go_simp; with_reducible rfl); rotate_left; (· simp only [Act.put, sa_, sz_, ss_, i64_w, i32_w]; rfl)
                        refine take_ (i := 11) (N := some 73) (v := ?_) (a' := ?_) (b_ 17 15359) rfl rfl (take_ofW HT_.out HW_.out (by kernel_rfl)) (fun _ _ _ h => h) (Or.inl ⟨by rfl, ?_⟩) hHeld ?_ ?_
                        rotate_left
                        · rintro w' ⟨s0, s1, s2, s3⟩
                          go_simp
                          with_reducible rfl
                        rotate_left
                        · simp only [Act.put, sa_, sz_, ss_, i64_w, i32_w]
                          rfl
                        refine one_ (i := 10) (N := some 72) (b_ 17 16383) rfl rfl (one_of HT_.out (by kernel_rfl)) (by decide) (fun K hK => ?_)
                        refine goes_ Try.func32 (by kernel_rfl) rfl #[.pointer (some ⟨g392, 0, none⟩), .int .i64 ((rd_T40 l3 x11_2).f1)] (by rfl) rfl rfl (by (try simp only [List.map_toArray, List.map_cons, List.map_nil]); first | done | rfl | (simp only [List.length_drop, List.length_take]; rfl)) ?_
                        with_reducible refine (breaker_Breaker_May.calls g392 t396 t397 t398 t399 t400 t401 t402 ((rd_T40 l3 x11_2).f1) t404 t405 t406 t407 t408 t409 t410 t411 w _ ?side1 ?side2 A28.out).mono ?_
                        (case side1 => repeat (first | (with_reducible first | exact HI392.out | apply IsS57.alloc | apply IsS57.drewN | apply IsS57.drew | apply IsS57.set_0 | apply IsS57.set_1 | apply IsS57.set_2 | apply IsS57.set_3 | apply IsS57.set_4 | apply IsS57.set_5 | apply IsS57.set_6 | refine IsS57.far ?_ NB392_393.out _) | exact HI392.out))
                        (case side2 => repeat (first | (with_reducible first | exact HB.out | apply below_alloc | apply pw_below_drewN | apply below_drew1 | refine below_set ?_ (IsS57.ge HI392.out) | refine below_set ?_ GE393.out) | exact HB.out))
                        rintro e w33 ⟨rfl, hi, hb, hk⟩
                        refine ⟨_, rfl, ?_⟩
                        have n0_ := Aside0.mk (KeepBut.blk hk (g' := gb393) (o := .cells #[.bool x394000_2, .int .i64 x394001_2, .int .i64 x394002_2, .int .i64 x394003_2] 38 (0, 0)) (by (with_reducible repeat (first | refine blk_drewN ?_ _ | refine blk_drew ?_ | refine blk_alloc ?_ _)); exact BK393.out) NB393_392.out (by simp))
                        have n1_ := Aside0.mk (hb)
                        have n2_ := Aside0.mk (hi)
                        clear BK393
                        clear HB
                        clear HI392
                        have BK393 := n0_
                        have HB := n1_
                        have HI392 := n2_
                        clear n0_ n1_ n2_
                        (try clear hb); (try clear hb2); (try clear hk); (try clear hi)
                        refine hK.out _ _ ⟨(blk_cell BK393.out 0).trans rfl, (blk_cell BK393.out 1).trans rfl, (blk_cell BK393.out 2).trans rfl, (blk_cell BK393.out 3).trans rfl⟩ (fun hHeld => ?_)
                        clear hK K
                        refine norm_ (a' := ?_) ?_ ?_
                        rotate_left
                        · show Act.put _ (some 72) _ = _
                          simp only [Act.put, sa_, sz_, ss_, i64_w, i32_w]
                          rfl
                        refine one_ (i := 14) (N := some 76) (b_ 17 32767) rfl rfl (one_of HT_.out (by kernel_rfl)) (by decide) (fun K hK => ?_)
                        refine goes_ Try.func33 (by kernel_rfl) rfl #[.agg #[.bool x394000_2, .int .i64 x394001_2, .int .i64 x394002_2, .int .i64 x394003_2], .int .i64 a2, .int .i64 ((rd_T40 l3 x11_2).f1)] (by rfl) rfl rfl (by (try simp only [List.map_toArray, List.map_cons, List.map_nil]); first | done | rfl | (simp only [List.length_drop, List.length_take]; rfl)) ?_
                        with_reducible refine (usufructref10_May.calls x394000_2 x394001_2 x394002_2 x394003_2 a2 ((rd_T40 l3 x11_2).f1) t412 _ A29.out).mono ?_
                        rintro e w34 ⟨rfl, hb⟩
                        refine ⟨_, rfl, ?_⟩
                        have n0_ := Aside0.mk (blk_below (g := gb393) (o := .cells #[.bool x394000_2, .int .i64 x394001_2, .int .i64 x394002_2, .int .i64 x394003_2] 38 (0, 0)) (by (with_reducible repeat (first | refine blk_drewN ?_ _ | refine blk_drew ?_ | refine blk_alloc ?_ _)); exact BK393.out) hb)
                        have n1_ := Aside0.mk (IsS57.below (by repeat (first | (with_reducible first | exact HI392.out | apply IsS57.alloc | apply IsS57.drewN | apply IsS57.drew | apply IsS57.set_0 | apply IsS57.set_1 | apply IsS57.set_2 | apply IsS57.set_3 | apply IsS57.set_4 | apply IsS57.set_5 | apply IsS57.set_6 | refine IsS57.far ?_ NB392_393.out _) | exact HI392.out)) hb)
                        have n2_ := Aside0.mk (below_step (by repeat (first | (with_reducible first | exact HB.out | apply below_alloc | apply pw_below_drewN | apply below_drew1 | refine below_set ?_ (IsS57.ge HI392.out) | refine below_set ?_ GE393.out) | exact HB.out)) hb)
                        clear BK393
                        clear HI392
                        clear HB
                        have BK393 := n0_
                        have HI392 := n1_
                        have HB := n2_
                        clear n0_ n1_ n2_
                        (try clear hb); (try clear hb2); (try clear hk); (try clear hi)
                        refine hK.out _ _ ⟨(blk_cell BK393.out 0).trans rfl, (blk_cell BK393.out 1).trans rfl, (blk_cell BK393.out 2).trans rfl, (blk_cell BK393.out 3).trans rfl⟩ (fun hHeld => ?_)
                        clear hK K
                        refine norm_ (a' := ?_) ?_ ?_
                        rotate_left
                        · show Act.put _ (some 76) _ = _
                          simp only [Act.put, sa_, sz_, ss_, i64_w, i32_w]
                          rfl
                        refine pure_ (i := 15) (N := some 77) (v := ?_) (a' := ?_) (b_ 17 65535) rfl rfl (any_of HT_.out (by kernel_rfl)) (fun _ _ _ h => h) (Or.inl ⟨by rfl, ?_⟩) ?_ ?_; rotate_left; (· intro w'; go_simp; with_reducible rfl); rotate_left; (· simp only [Act.put, sa_, sz_, ss_, i64_w, i32_w]; rfl)
                        refine pure_ (i := 16) (N := some 78) (v := ?_) (a' := ?_) (b_ 17 131071) rfl rfl (any_of HT_.out (by kernel_rfl)) (fun _ _ _ h => h) (Or.inl ⟨by rfl, ?_⟩) ?_ ?_; rotate_left; (· intro w'; go_simp; with_reducible rfl); rotate_left; (· simp only [Act.put, sa_, sz_, ss_, i64_w, i32_w]; rfl)
                        refine done_ (done_of HT_.out (by kernel_rfl)) ?_
                        try go_wp2
                        go_meet
                        case rel => exact ⟨_, ((t404 != t412)), (t405), (t406), (t407), (t408), (t409), (t410), (t411), (by first | rfl | (simp; done) | (simp [*]; done)), H', ⟨by have := HJ9.out; have := HK2.out; first | omega | exact Nat.le_refl _⟩, ⟨by (with_reducible repeat (first | refine blk_drewN ?_ _ | refine blk_drew ?_ | refine blk_alloc ?_ _)); exact BK393.out⟩, ⟨by repeat (first | (with_reducible first | exact HI392.out | apply IsS57.alloc | apply IsS57.drewN | apply IsS57.drew | apply IsS57.set_0 | apply IsS57.set_1 | apply IsS57.set_2 | apply IsS57.set_3 | apply IsS57.set_4 | apply IsS57.set_5 | apply IsS57.set_6 | refine IsS57.far ?_ NB392_393.out _) | exact HI392.out)⟩, ⟨by repeat (first | (with_reducible first | exact HB.out | apply below_alloc | apply pw_below_drewN | apply below_drew1 | refine below_set ?_ (IsS57.ge HI392.out) | refine below_set ?_ GE393.out) | exact HB.out)⟩⟩
                      · rw [if_neg c27] at H
                        have c27b0 : (t395 == t403) = false := beq_eq_false_iff_ne.mpr c27
                        have c27b1 : (t395 != t403) = true := bne_iff_ne.mpr c27
                        (first | rw [c27b0] | (simp only [i64_w, i32_w]; rw [c27b0]) | skip)
                        have H' := Aside0.mk H
                        clear H
                        try go_wp2
                        have n0_ := Aside0.mk (blk_drew BK393.out)
                        have n1_ := Aside0.mk (IsS57.drew HI392.out)
                        have n2_ := Aside0.mk (below_drew1 HB.out)
                        clear BK393
                        clear HI392
                        clear HB
                        have BK393 := n0_
                        have HI392 := n1_
                        have HB := n2_
                        clear n0_ n1_ n2_
                        refine start_ (n := 17) (S := fun w' => w'.cell? ⟨gb393, 0, none⟩ = some (.bool x394000_2) ∧ w'.cell? ⟨gb393, 1, none⟩ = some (.int .i64 x394001_2) ∧ w'.cell? ⟨gb393, 2, none⟩ = some (.int .i64 x394002_2) ∧ w'.cell? ⟨gb393, 3, none⟩ = some (.int .i64 x394003_2)) (ds := []) #[false, false, false, false, false, false, false, false, false, false, false, false, false, false, false, false, false] (by kernel_rfl) rfl rfl ⟨(blk_cell BK393.out 0).trans rfl, (blk_cell BK393.out 1).trans rfl, (blk_cell BK393.out 2).trans rfl, (blk_cell BK393.out 3).trans rfl⟩ (fun hHeld => ?_); refine with_tabW usufructlaw10_BreakerPlays.tab15 usufructlaw10_BreakerPlays.bits15 (fun HT_ HW_ => ?_)
                        generalize wr.drew = w35 at BK393 HI392 HB hHeld ⊢
                        refine pure_ (i := 0) (N := some 62) (v := ?_) (a' := ?_) (b_ 17 1) rfl rfl (any_of HT_.out (by kernel_rfl)) (fun _ _ _ h => h) (Or.inl ⟨by rfl, ?_⟩) ?_ ?_; rotate_left; (· intro w'; go_simp; with_reducible rfl); rotate_left; (· simp only [Act.put, sa_, sz_, ss_, i64_w, i32_w]; rfl)
                        refine pure_ (i := 1) (N := some 63) (v := ?_) (a' := ?_) (b_ 17 3) rfl rfl (any_of HT_.out (by kernel_rfl)) (fun _ _ _ h => h) (Or.inl ⟨by rfl, ?_⟩) ?_ ?_; rotate_left; (· intro w'; go_simp; with_reducible rfl); rotate_left; (· simp only [Act.put, sa_, sz_, ss_, i64_w, i32_w]; rfl)
                        refine pure_ (i := 4) (N := some 66) (v := ?_) (a' := ?_) (b_ 17 19) rfl rfl (any_of HT_.out (by kernel_rfl)) (fun _ _ _ h => h) (Or.inl ⟨by rfl, ?_⟩) ?_ ?_; rotate_left; (· intro w'; go_simp; with_reducible rfl); rotate_left; (· simp only [Act.put, sa_, sz_, ss_, i64_w, i32_w]; rfl)
                        refine take_ (i := 3) (N := some 65) (v := ?_) (a' := ?_) (b_ 17 27) rfl rfl (take_ofW HT_.out HW_.out (by kernel_rfl)) (fun _ _ _ h => h) (Or.inl ⟨by rfl, ?_⟩) hHeld ?_ ?_
                        rotate_left
                        · rintro w' ⟨s0, s1, s2, s3⟩
                          go_simp
                          with_reducible rfl
                        rotate_left
                        · simp only [Act.put, sa_, sz_, ss_, i64_w, i32_w]
                          rfl
                        refine one_ (i := 2) (N := some 64) (b_ 17 31) rfl rfl (one_of HT_.out (by kernel_rfl)) (by decide) (fun K hK => ?_)
                        refine goes_ Try.func27 (by kernel_rfl) rfl #[.pointer (some ⟨g392, 0, none⟩), .int .i64 ((rd_T40 l3 x11_2).f1)] (by rfl) rfl rfl (by (try simp only [List.map_toArray, List.map_cons, List.map_nil]); first | done | rfl | (simp only [List.length_drop, List.length_take]; rfl)) ?_
                        with_reducible refine (breaker_Breaker_State.calls g392 x393000_2 x393001_2 x393002_2 x393003_2 x393004_2 x393005_2 x393006_2 ((rd_T40 l3 x11_2).f1) t395 t396 t397 t398 t399 t400 t401 t402 w _ ?side1 ?side2 A25.out).mono ?_
                        (case side1 => repeat (first | (with_reducible first | exact HI392.out | apply IsS57.alloc | apply IsS57.drewN | apply IsS57.drew | apply IsS57.set_0 | apply IsS57.set_1 | apply IsS57.set_2 | apply IsS57.set_3 | apply IsS57.set_4 | apply IsS57.set_5 | apply IsS57.set_6 | refine IsS57.far ?_ NB392_393.out _) | exact HI392.out))
                        (case side2 => repeat (first | (with_reducible first | exact HB.out | apply below_alloc | apply pw_below_drewN | apply below_drew1 | refine below_set ?_ (IsS57.ge HI392.out) | refine below_set ?_ GE393.out) | exact HB.out))
                        rintro e w36 ⟨rfl, hi, hb, hk⟩
                        refine ⟨_, rfl, ?_⟩
                        have n0_ := Aside0.mk (KeepBut.blk hk (g' := gb393) (o := .cells #[.bool x394000_2, .int .i64 x394001_2, .int .i64 x394002_2, .int .i64 x394003_2] 38 (0, 0)) (by (with_reducible repeat (first | refine blk_drewN ?_ _ | refine blk_drew ?_ | refine blk_alloc ?_ _)); exact BK393.out) NB393_392.out (by simp))
                        have n1_ := Aside0.mk (hb)
                        have n2_ := Aside0.mk (hi)
                        clear BK393
                        clear HB
                        clear HI392
                        have BK393 := n0_
                        have HB := n1_
                        have HI392 := n2_
                        clear n0_ n1_ n2_
                        (try clear hb); (try clear hb2); (try clear hk); (try clear hi)
                        refine hK.out _ _ ⟨(blk_cell BK393.out 0).trans rfl, (blk_cell BK393.out 1).trans rfl, (blk_cell BK393.out 2).trans rfl, (blk_cell BK393.out 3).trans rfl⟩ (fun hHeld => ?_)
                        clear hK K
                        refine norm_ (a' := ?_) ?_ ?_
                        rotate_left
                        · show Act.put _ (some 64) _ = _
                          simp only [Act.put, sa_, sz_, ss_, i64_w, i32_w]
                          rfl
                        refine one_ (i := 5) (N := some 67) (b_ 17 63) rfl rfl (one_of HT_.out (by kernel_rfl)) (by decide) (fun K hK => ?_)
                        refine goes_ Try.func31 (by kernel_rfl) rfl #[.agg #[.bool x394000_2, .int .i64 x394001_2, .int .i64 x394002_2, .int .i64 x394003_2], .int .i64 ((rd_T40 l3 x11_2).f1)] (by rfl) rfl rfl (by (try simp only [List.map_toArray, List.map_cons, List.map_nil]); first | done | rfl | (simp only [List.length_drop, List.length_take]; rfl)) ?_
                        with_reducible refine (usufructref10_Kind.calls x394000_2 x394001_2 x394002_2 x394003_2 ((rd_T40 l3 x11_2).f1) t403 _ A26.out).mono ?_
                        rintro e w37 ⟨rfl, hb⟩
                        refine ⟨_, rfl, ?_⟩
                        have n0_ := Aside0.mk (blk_below (g := gb393) (o := .cells #[.bool x394000_2, .int .i64 x394001_2, .int .i64 x394002_2, .int .i64 x394003_2] 38 (0, 0)) (by (with_reducible repeat (first | refine blk_drewN ?_ _ | refine blk_drew ?_ | refine blk_alloc ?_ _)); exact BK393.out) hb)
                        have n1_ := Aside0.mk (IsS57.below (by repeat (first | (with_reducible first | exact HI392.out | apply IsS57.alloc | apply IsS57.drewN | apply IsS57.drew | apply IsS57.set_0 | apply IsS57.set_1 | apply IsS57.set_2 | apply IsS57.set_3 | apply IsS57.set_4 | apply IsS57.set_5 | apply IsS57.set_6 | refine IsS57.far ?_ NB392_393.out _) | exact HI392.out)) hb)
                        have n2_ := Aside0.mk (below_step (by repeat (first | (with_reducible first | exact HB.out | apply below_alloc | apply pw_below_drewN | apply below_drew1 | refine below_set ?_ (IsS57.ge HI392.out) | refine below_set ?_ GE393.out) | exact HB.out)) hb)
                        clear BK393
                        clear HI392
                        clear HB
                        have BK393 := n0_
                        have HI392 := n1_
                        have HB := n2_
                        clear n0_ n1_ n2_
                        (try clear hb); (try clear hb2); (try clear hk); (try clear hi)
                        refine hK.out _ _ ⟨(blk_cell BK393.out 0).trans rfl, (blk_cell BK393.out 1).trans rfl, (blk_cell BK393.out 2).trans rfl, (blk_cell BK393.out 3).trans rfl⟩ (fun hHeld => ?_)
                        clear hK K
                        refine norm_ (a' := ?_) ?_ ?_
                        rotate_left
                        · show Act.put _ (some 67) _ = _
                          simp only [Act.put, sa_, sz_, ss_, i64_w, i32_w]
                          rfl
                        refine pure_ (i := 6) (N := some 68) (v := ?_) (a' := ?_) (b_ 17 127) rfl rfl (any_of HT_.out (by kernel_rfl)) (fun _ _ _ h => h) (Or.inl ⟨by rfl, ?_⟩) ?_ ?_; rotate_left; (· intro w'; go_simp; with_reducible rfl); rotate_left; (· simp only [Act.put, sa_, sz_, ss_, i64_w, i32_w]; rfl)
                        refine pure_ (i := 7) (N := some 69) (v := ?_) (a' := ?_) (b_ 17 255) rfl rfl (any_of HT_.out (by kernel_rfl)) (fun _ _ _ h => h) (Or.inl ⟨by rfl, ?_⟩) ?_ ?_; rotate_left; (· intro w'; go_simp; with_reducible rfl); rotate_left; (· simp only [Act.put, sa_, sz_, ss_, i64_w, i32_w]; rfl)
                        refine pure_ (i := 8) (N := some 70) (v := undef) (a' := ?_) (b_ 17 511) rfl rfl (any_of HT_.out (by kernel_rfl)) (fun _ _ _ h => h) (Or.inr ⟨by rfl, rfl⟩) ?_ ?_
                        rotate_left
                        · simp only [Act.put, sa_, sz_, ss_, i64_w, i32_w]
                          rfl
                        refine pure_ (i := 9) (N := some 71) (v := undef) (a' := ?_) (b_ 17 1023) rfl rfl (any_of HT_.out (by kernel_rfl)) (fun _ _ _ h => h) (Or.inr ⟨by rfl, rfl⟩) ?_ ?_
                        rotate_left
                        · simp only [Act.put, sa_, sz_, ss_, i64_w, i32_w]
                          rfl
                        refine pure_ (i := 10) (N := some 72) (v := undef) (a' := ?_) (b_ 17 2047) rfl rfl (any_of HT_.out (by kernel_rfl)) (fun _ _ _ h => h) (Or.inr ⟨by rfl, rfl⟩) ?_ ?_
                        rotate_left
                        · simp only [Act.put, sa_, sz_, ss_, i64_w, i32_w]
                          rfl
                        refine pure_ (i := 11) (N := some 73) (v := undef) (a' := ?_) (b_ 17 4095) rfl rfl (any_of HT_.out (by kernel_rfl)) (fun _ _ _ h => h) (Or.inr ⟨by rfl, rfl⟩) ?_ ?_
                        rotate_left
                        · simp only [Act.put, sa_, sz_, ss_, i64_w, i32_w]
                          rfl
                        refine pure_ (i := 12) (N := some 74) (v := undef) (a' := ?_) (b_ 17 8191) rfl rfl (any_of HT_.out (by kernel_rfl)) (fun _ _ _ h => h) (Or.inr ⟨by rfl, rfl⟩) ?_ ?_
                        rotate_left
                        · simp only [Act.put, sa_, sz_, ss_, i64_w, i32_w]
                          rfl
                        refine pure_ (i := 13) (N := some 75) (v := undef) (a' := ?_) (b_ 17 16383) rfl rfl (any_of HT_.out (by kernel_rfl)) (fun _ _ _ h => h) (Or.inr ⟨by rfl, rfl⟩) ?_ ?_
                        rotate_left
                        · simp only [Act.put, sa_, sz_, ss_, i64_w, i32_w]
                          rfl
                        refine pure_ (i := 14) (N := some 76) (v := undef) (a' := ?_) (b_ 17 32767) rfl rfl (any_of HT_.out (by kernel_rfl)) (fun _ _ _ h => h) (Or.inr ⟨by rfl, rfl⟩) ?_ ?_
                        rotate_left
                        · simp only [Act.put, sa_, sz_, ss_, i64_w, i32_w]
                          rfl
                        refine pure_ (i := 15) (N := some 77) (v := undef) (a' := ?_) (b_ 17 65535) rfl rfl (any_of HT_.out (by kernel_rfl)) (fun _ _ _ h => h) (Or.inr ⟨by rfl, rfl⟩) ?_ ?_
                        rotate_left
                        · simp only [Act.put, sa_, sz_, ss_, i64_w, i32_w]
                          rfl
                        refine pure_ (i := 16) (N := some 78) (v := ?_) (a' := ?_) (b_ 17 131071) rfl rfl (any_of HT_.out (by kernel_rfl)) (fun _ _ _ h => h) (Or.inl ⟨by rfl, ?_⟩) ?_ ?_; rotate_left; (· intro w'; go_simp; with_reducible rfl); rotate_left; (· simp only [Act.put, sa_, sz_, ss_, i64_w, i32_w]; rfl)
                        refine done_ (done_of HT_.out (by kernel_rfl)) ?_
                        try go_wp2
                        go_meet
                        case rel => exact ⟨_, (true), (t396), (t397), (t398), (t399), (t400), (t401), (t402), (by first | rfl | (simp; done) | (simp [*]; done)), H', ⟨by have := HJ9.out; have := HK2.out; first | omega | exact Nat.le_refl _⟩, ⟨by (with_reducible repeat (first | refine blk_drewN ?_ _ | refine blk_drew ?_ | refine blk_alloc ?_ _)); exact BK393.out⟩, ⟨by repeat (first | (with_reducible first | exact HI392.out | apply IsS57.alloc | apply IsS57.drewN | apply IsS57.drew | apply IsS57.set_0 | apply IsS57.set_1 | apply IsS57.set_2 | apply IsS57.set_3 | apply IsS57.set_4 | apply IsS57.set_5 | apply IsS57.set_6 | refine IsS57.far ?_ NB392_393.out _) | exact HI392.out)⟩, ⟨by repeat (first | (with_reducible first | exact HB.out | apply below_alloc | apply pw_below_drewN | apply below_drew1 | refine below_set ?_ (IsS57.ge HI392.out) | refine below_set ?_ GE393.out) | exact HB.out)⟩⟩
                    case rest =>
                      clear HC24
                      try clear c1
                      try clear c2
                      try clear p2
                      try clear c3
                      try clear p3
                      try clear q3
                      try clear hx3
                      try clear c6
                      try clear c7
                      try clear c7b0
                      try clear c7b1
                      try clear c8
                      try clear c13
                      try clear c13b0
                      try clear c14
                      try clear c14b0
                      try clear c15
                      try clear c15b0
                      try clear c16
                      try clear c16b0
                      try clear c17
                      try clear c17b0
                      try clear c18
                      try clear c20
                      try clear c22
                      try clear c22b0
                      try clear c23
                      try clear c23b0
                      try clear c27
                      try clear c27b0
                      try clear c27b1
                      try clear c31
                      try clear c32
                      try clear c33
                      try clear hcz21_0
                      try clear hcz21_1
                      try clear hcz21_2
                      try clear hcz21_3
                      try clear hfz21_0
                      try clear hfz21_1
                      try clear hfz21_2
                      try clear hfz21_3
                      try clear hx394_0
                      try clear hx394_1
                      try clear p2
                      try clear p394
                      try clear q394
                      obtain ⟨kq, x78_23, x393000_23, x393001_23, x393002_23, x393003_23, x393004_23, x393005_23, x393006_23, rfl, HA, HJ23, BK393, HI392, HB⟩ := hcut
                      cases kq with
                      | zero => exact absurd HA.out (by simp [usufructlaw10_BreakerPlays.j2])
                      | succ kj23 =>
                        have H := HA.out
                        clear HA
                        simp only [usufructlaw10_BreakerPlays.j2] at H
                        by_cases c38 : x78_23 = true
                        · subst c38
                          have H1 : (some false) = some r := by rw [if_pos rfl] at H; exact H
                          clear H
                          have H := H1
                          clear H1
                          obtain rfl := Option.some.inj H
                          go_wp2
                          go_ret
                          exact ⟨by first | rfl | (simp [errW_none, errW_some] <;> rfl) | (simp [*, errW_none, errW_some] <;> rfl), by repeat (first | (with_reducible first | exact HB.out | apply below_alloc | apply pw_below_drewN | apply below_drew1 | refine below_set ?_ (IsS57.ge HI392.out) | refine below_set ?_ GE393.out) | exact HB.out)⟩
                        · replace c38 := Bool.eq_false_iff.mpr c38
                          subst c38
                          have H1 : (if 0 ≤ x11_2 then (if x11_2 < (l3.length : Int) then (if ((rd_T40 l3 x11_2).f0) = 0 then (usufructlaw10_BreakerPlays.j3 kj23 a0 a1 a2 l3 x11_2 ((rd_T40 l3 x11_2).f1) ((rd_T40 l3 x11_2).f0) (((rd_T40 l3 x11_2).f0) == 0) x393000_23 x393001_23 x393002_23 x393003_23 x393004_23 x393005_23 x393006_23 x394000_2 x394001_2 x394002_2 x394003_2) else (usufructlaw10_BreakerPlays.j3 kj23 a0 a1 a2 l3 x11_2 ((rd_T40 l3 x11_2).f1) ((rd_T40 l3 x11_2).f0) (((rd_T40 l3 x11_2).f0) == 1) x393000_23 x393001_23 x393002_23 x393003_23 x393004_23 x393005_23 x393006_23 x394000_2 x394001_2 x394002_2 x394003_2)) else (none)) else (none)) = some r := by rw [if_neg (show ¬ (false = true) by decide)] at H; exact H
                          clear H
                          have H := H1
                          clear H1
                          by_cases c39 : 0 ≤ x11_2
                          · rw [if_pos c39] at H
                            have c39b0 : decide (0 ≤ x11_2) = true := decide_eq_true c39
                            clear c39
                            by_cases c40 : x11_2 < (l3.length : Int)
                            · rw [if_pos c40] at H
                              have c40b0 : decide (x11_2 < (l3.length : Int)) = true := decide_eq_true c40
                              clear c40
                              have HC41 := Aside0.mk H
                              clear H
                              have p413 : 0 ≤ (x11_2 : Int) := of_decide_eq_true (by first | (with_reducible assumption) | assumption)
                              have q413 : x11_2 < (l3.length : Int) := of_decide_eq_true (by first | (with_reducible assumption) | assumption)
                              obtain ⟨ad413, e413, hx413_0, hx413_1⟩ := at_T40 HR3.out x11_2 p413 q413
                              obtain rfl : ad394 = ad413 := (by injection e413)
                              replace hx413_0 := (HB.out.cell (World.block_lt_of_cell? w _ hx413_0)).trans hx413_0
                              replace hx413_1 := (HB.out.cell (World.block_lt_of_cell? w _ hx413_1)).trans hx413_1
                              replace p413 := eq_true p413
                              replace q413 := eq_true q413
                              go_upto_block 2 with (fail)
                              go_cut [] (fun wc => ∃ (kq : Nat) (x393000_40 : Int) (x393001_40 : Int) (x393002_40 : Int) (x393003_40 : Int) (x393004_40 : Int) (x393005_40 : Int) (x393006_40 : Int) (x394000_40 : Bool) (x394001_40 : Int) (x394002_40 : Int) (x394003_40 : Int), Aside0 (usufructlaw10_BreakerPlays.j5 kq a0 a1 a2 l3 x11_2 ((rd_T40 l3 x11_2).f1) x393000_40 x393001_40 x393002_40 x393003_40 x393004_40 x393005_40 x393006_40 x394000_40 x394001_40 x394002_40 x394003_40 = some r) ∧ Aside0 (kq ≤ kj23) ∧ Aside0 (wc.heap[gb393]? = some (.cells #[.bool x394000_40, .int .i64 x394001_40, .int .i64 x394002_40, .int .i64 x394003_40] 38 (0, 0))) ∧ Aside0 (IsS57 w wc g392 x393000_40 x393001_40 x393002_40 x393003_40 x393004_40 x393005_40 x393006_40) ∧ Aside0 (Below w.heap.size w wc))
                              case first =>
                                have H := HC41.out
                                clear HC41
                                have HC42 := Aside0.mk H
                                clear H
                                go_upto_if 84 with (fail)
                                go_cut [84] (fun v84 wc => ∃ (kq : Nat) (x84_41 : Bool), v84 = .bool x84_41 ∧ Aside0 (usufructlaw10_BreakerPlays.j3 kq a0 a1 a2 l3 x11_2 ((rd_T40 l3 x11_2).f1) ((rd_T40 l3 x11_2).f0) x84_41 x393000_23 x393001_23 x393002_23 x393003_23 x393004_23 x393005_23 x393006_23 x394000_2 x394001_2 x394002_2 x394003_2 = some r) ∧ Aside0 (kq ≤ kj23) ∧ Aside0 (wc.heap[gb393]? = some (.cells #[.bool x394000_2, .int .i64 x394001_2, .int .i64 x394002_2, .int .i64 x394003_2] 38 (0, 0))) ∧ Aside0 (IsS57 w wc g392 x393000_23 x393001_23 x393002_23 x393003_23 x393004_23 x393005_23 x393006_23) ∧ Aside0 (Below w.heap.size w wc))
                                case first =>
                                  have H := HC42.out
                                  clear HC42
                                  by_cases c43 : ((rd_T40 l3 x11_2).f0) = 0
                                  · rw [if_pos c43] at H
                                    have c43b0 : (((rd_T40 l3 x11_2).f0) == 0) = true := beq_iff_eq.mpr c43
                                    have c43b1 : (((rd_T40 l3 x11_2).f0) != 0) = false := bne_eq_false_iff_eq.mpr c43
                                    clear c43
                                    (first | rw [c43b0] | (simp only [i64_w, i32_w]; rw [c43b0]) | skip)
                                    have H' := Aside0.mk H
                                    clear H
                                    go_wp2
                                    go_meet
                                    case rel => exact ⟨_, ((((rd_T40 l3 x11_2).f0) == 0)), (by first | rfl | (simp; done) | (simp [*]; done)), H', ⟨by have := HJ9.out; have := HK2.out; have := HJ23.out; first | omega | exact Nat.le_refl _⟩, ⟨by (with_reducible repeat (first | refine blk_drewN ?_ _ | refine blk_drew ?_ | refine blk_alloc ?_ _)); exact BK393.out⟩, ⟨by repeat (first | (with_reducible first | exact HI392.out | apply IsS57.alloc | apply IsS57.drewN | apply IsS57.drew | apply IsS57.set_0 | apply IsS57.set_1 | apply IsS57.set_2 | apply IsS57.set_3 | apply IsS57.set_4 | apply IsS57.set_5 | apply IsS57.set_6 | refine IsS57.far ?_ NB392_393.out _) | exact HI392.out)⟩, ⟨by repeat (first | (with_reducible first | exact HB.out | apply below_alloc | apply pw_below_drewN | apply below_drew1 | refine below_set ?_ (IsS57.ge HI392.out) | refine below_set ?_ GE393.out) | exact HB.out)⟩⟩
                                  · rw [if_neg c43] at H
                                    have c43b0 : (((rd_T40 l3 x11_2).f0) == 0) = false := beq_eq_false_iff_ne.mpr c43
                                    have c43b1 : (((rd_T40 l3 x11_2).f0) != 0) = true := bne_iff_ne.mpr c43
                                    (first | rw [c43b0] | (simp only [i64_w, i32_w]; rw [c43b0]) | skip)
                                    have H' := Aside0.mk H
                                    clear H
                                    go_wp2
                                    go_meet
                                    case rel => exact ⟨_, ((((rd_T40 l3 x11_2).f0) == 1)), (by first | rfl | (simp; done) | (simp [*]; done)), H', ⟨by have := HJ9.out; have := HK2.out; have := HJ23.out; first | omega | exact Nat.le_refl _⟩, ⟨by (with_reducible repeat (first | refine blk_drewN ?_ _ | refine blk_drew ?_ | refine blk_alloc ?_ _)); exact BK393.out⟩, ⟨by repeat (first | (with_reducible first | exact HI392.out | apply IsS57.alloc | apply IsS57.drewN | apply IsS57.drew | apply IsS57.set_0 | apply IsS57.set_1 | apply IsS57.set_2 | apply IsS57.set_3 | apply IsS57.set_4 | apply IsS57.set_5 | apply IsS57.set_6 | refine IsS57.far ?_ NB392_393.out _) | exact HI392.out)⟩, ⟨by repeat (first | (with_reducible first | exact HB.out | apply below_alloc | apply pw_below_drewN | apply below_drew1 | refine below_set ?_ (IsS57.ge HI392.out) | refine below_set ?_ GE393.out) | exact HB.out)⟩⟩
                                case rest =>
                                  clear HC42
                                  try clear c1
                                  try clear c2
                                  try clear p2
                                  try clear c3
                                  try clear p3
                                  try clear q3
                                  try clear hx3
                                  try clear c4
                                  try clear p4
                                  try clear q4
                                  try clear hx4
                                  try clear c6
                                  try clear c7
                                  try clear c7b0
                                  try clear c7b1
                                  try clear c8
                                  try clear c13
                                  try clear c13b0
                                  try clear c14
                                  try clear c14b0
                                  try clear c15
                                  try clear c15b0
                                  try clear c16
                                  try clear c16b0
                                  try clear c17
                                  try clear c17b0
                                  try clear c18
                                  try clear c20
                                  try clear c22
                                  try clear c22b0
                                  try clear c23
                                  try clear c23b0
                                  try clear c27
                                  try clear c27b0
                                  try clear c27b1
                                  try clear c31
                                  try clear c32
                                  try clear c33
                                  try clear c38
                                  try clear c39
                                  try clear c39b0
                                  try clear p39
                                  try clear q39
                                  try clear hx39
                                  try clear c40
                                  try clear c40b0
                                  try clear p41
                                  try clear q41
                                  try clear hx41
                                  try clear c43
                                  try clear c43b0
                                  try clear c43b1
                                  try clear hcz21_0
                                  try clear hcz21_1
                                  try clear hcz21_2
                                  try clear hcz21_3
                                  try clear hfz21_0
                                  try clear hfz21_1
                                  try clear hfz21_2
                                  try clear hfz21_3
                                  try clear hx394_0
                                  try clear hx394_1
                                  try clear hx413_0
                                  try clear hx413_1
                                  try clear p2
                                  try clear p3
                                  try clear p394
                                  try clear p413
                                  try clear q3
                                  try clear q394
                                  try clear q413
                                  obtain ⟨kq, x84_41, rfl, HA, HJ41, BK393, HI392, HB⟩ := hcut
                                  cases kq with
                                  | zero => exact absurd HA.out (by simp [usufructlaw10_BreakerPlays.j3])
                                  | succ kj41 =>
                                    have H := HA.out
                                    clear HA
                                    simp only [usufructlaw10_BreakerPlays.j3] at H
                                    by_cases c44 : x84_41 = true
                                    · subst c44
                                      have H1 : ((usufructref10_Send.f x394000_2 x394001_2 x394002_2 x394003_2 a2 ((rd_T40 l3 x11_2).f1)).bind fun bt414 => ((breaker_Breaker_Send.f x393000_23 x393001_23 x393002_23 x393003_23 x393004_23 x393005_23 x393006_23 ((rd_T40 l3 x11_2).f1)).bind fun bt420 => (if (bt420.1 != bt414.2.2.2.2) = true then (some false) else (usufructlaw10_BreakerPlays.j5 kj41 a0 a1 a2 l3 x11_2 ((rd_T40 l3 x11_2).f1) bt420.2.1 bt420.2.2.1 bt420.2.2.2.1 bt420.2.2.2.2.1 bt420.2.2.2.2.2.1 bt420.2.2.2.2.2.2.1 bt420.2.2.2.2.2.2.2 bt414.1 bt414.2.1 bt414.2.2.1 bt414.2.2.2.1)))) = some r := by rw [if_pos rfl] at H; exact H
                                      clear H
                                      have H := H1
                                      clear H1
                                      replace H := Option.bind_eq_some_iff.mp H
                                      obtain ⟨⟨t414, t415, t416, t417, t418⟩, A450, H⟩ := H
                                      replace H : ((breaker_Breaker_Send.f x393000_23 x393001_23 x393002_23 x393003_23 x393004_23 x393005_23 x393006_23 ((rd_T40 l3 x11_2).f1)).bind fun bt420 => (if (bt420.1 != t418) = true then (some false) else (usufructlaw10_BreakerPlays.j5 kj41 a0 a1 a2 l3 x11_2 ((rd_T40 l3 x11_2).f1) bt420.2.1 bt420.2.2.1 bt420.2.2.2.1 bt420.2.2.2.2.1 bt420.2.2.2.2.2.1 bt420.2.2.2.2.2.2.1 bt420.2.2.2.2.2.2.2 t414 t415 t416 t417))) = some r := H
                                      have A45 := Aside0.mk A450
                                      clear A450
                                      replace H := Option.bind_eq_some_iff.mp H
                                      obtain ⟨⟨t420, t421, t422, t423, t424, t425, t426, t427⟩, A460, H⟩ := H
                                      replace H : (if (t420 != t418) = true then (some false) else (usufructlaw10_BreakerPlays.j5 kj41 a0 a1 a2 l3 x11_2 ((rd_T40 l3 x11_2).f1) t421 t422 t423 t424 t425 t426 t427 t414 t415 t416 t417)) = some r := H
                                      have A46 := Aside0.mk A460
                                      clear A460
                                      by_cases c47 : (t420 != t418) = true
                                      · rw [if_pos c47] at H
                                        have c47b0 : (t420 != t418) = true := c47
                                        (try (have c47b1 : decide (t420 = t418) = false := by simpa using c47))
                                        (try (have c47b2 : (t420 == t418) = false := by simpa using c47))
                                        (try (have c47b3 : ¬ (t420 = t418) := by simpa using c47))
                                        clear c47
                                        obtain rfl := Option.some.inj H
                                        have hnb48 := NB393_392.out
                                        have hnc48 := NB392_393.out
                                        have hcz49_0 : wc.cell? ⟨gb393, 0, none⟩ = some (.bool x394000_2) := (blk_cell BK393.out 0).trans rfl
                                        have hcz49_1 : wc.cell? ⟨gb393, 1, none⟩ = some (.int .i64 x394001_2) := (blk_cell BK393.out 1).trans rfl
                                        have hcz49_2 : wc.cell? ⟨gb393, 2, none⟩ = some (.int .i64 x394002_2) := (blk_cell BK393.out 2).trans rfl
                                        have hcz49_3 : wc.cell? ⟨gb393, 3, none⟩ = some (.int .i64 x394003_2) := (blk_cell BK393.out 3).trans rfl
                                        have hfz49_0 := blk_frozen BK393.out 0
                                        have hfz49_1 := blk_frozen BK393.out 1
                                        have hfz49_2 := blk_frozen BK393.out 2
                                        have hfz49_3 := blk_frozen BK393.out 3
                                        go_wp2_with (first | ((with_reducible refine gate_callee (f := 34) rfl ?_); refine goesL_ (some 91) rfl rfl Try.func34 (by kernel_rfl) rfl #[.agg #[.bool x394000_2, .int .i64 x394001_2, .int .i64 x394002_2, .int .i64 x394003_2], .int .i64 a2, .int .i64 ((rd_T40 l3 x11_2).f1)] rfl (by (try simp only [List.map_toArray, List.map_cons, List.map_nil]); first | done | rfl | (simp only [List.length_drop, List.length_take]; rfl)) ?_; (with_reducible refine (usufructref10_Send.calls x394000_2 x394001_2 x394002_2 x394003_2 a2 ((rd_T40 l3 x11_2).f1) t414 t415 t416 t417 t418 _ A45.out).mono ?_); rintro e w50 ⟨rfl, hb⟩; refine ⟨_, rfl, ?_⟩; have n0_ := Aside0.mk (blk_below (g := gb393) (o := .cells #[.bool x394000_2, .int .i64 x394001_2, .int .i64 x394002_2, .int .i64 x394003_2] 38 (0, 0)) (by (with_reducible repeat (first | refine blk_drewN ?_ _ | refine blk_drew ?_ | refine blk_alloc ?_ _)); exact BK393.out) hb); have n1_ := Aside0.mk (IsS57.below (by repeat (first | (with_reducible first | exact HI392.out | apply IsS57.alloc | apply IsS57.drewN | apply IsS57.drew | apply IsS57.set_0 | apply IsS57.set_1 | apply IsS57.set_2 | apply IsS57.set_3 | apply IsS57.set_4 | apply IsS57.set_5 | apply IsS57.set_6 | refine IsS57.far ?_ NB392_393.out _) | exact HI392.out)) hb); have n2_ := Aside0.mk (below_step (by repeat (first | (with_reducible first | exact HB.out | apply below_alloc | apply pw_below_drewN | apply below_drew1 | refine below_set ?_ (IsS57.ge HI392.out) | refine below_set ?_ GE393.out) | exact HB.out)) hb); clear BK393; clear HI392; clear HB; have BK393 := n0_; have HI392 := n1_; have HB := n2_; clear n0_ n1_ n2_; (try clear hb); (try clear hb2); (try clear hk); (try clear hi)) | ((with_reducible refine gate_dst (N := 13) rfl ?_); refine box_event ?hg (N := 13) ?hd (cs := #[.bool false, .int .i64 0, .int .i64 0, .int .i64 0]) (t := 38) ?hr ?_; (case hd => rfl); (case hg => rfl); (case hr => first | (go_simp; done) | (go_simp; rfl)); intro gb419 hg w51 hbox hb; have n0_ := Aside0.mk (blk_below (g := gb393) (o := .cells #[.bool x394000_2, .int .i64 x394001_2, .int .i64 x394002_2, .int .i64 x394003_2] 38 (0, 0)) (by (with_reducible repeat (first | refine blk_drewN ?_ _ | refine blk_drew ?_ | refine blk_alloc ?_ _)); exact BK393.out) hb); have n1_ := Aside0.mk (IsS57.below (by repeat (first | (with_reducible first | exact HI392.out | apply IsS57.alloc | apply IsS57.drewN | apply IsS57.drew | apply IsS57.set_0 | apply IsS57.set_1 | apply IsS57.set_2 | apply IsS57.set_3 | apply IsS57.set_4 | apply IsS57.set_5 | apply IsS57.set_6 | refine IsS57.far ?_ NB392_393.out _) | exact HI392.out)) hb); have n2_ := Aside0.mk (below_step (by repeat (first | (with_reducible first | exact HB.out | apply below_alloc | apply pw_below_drewN | apply below_drew1 | refine below_set ?_ (IsS57.ge HI392.out) | refine below_set ?_ GE393.out) | exact HB.out)) hb); have n3_ := Aside0.mk (hbox); have n4_ := Aside0.mk ((by rw [hg]; exact (below_size (by repeat (first | (with_reducible first | exact HB.out | apply below_alloc | apply pw_below_drewN | apply below_drew1 | refine below_set ?_ (IsS57.ge HI392.out) | refine below_set ?_ GE393.out) | exact HB.out))) : w.heap.size ≤ gb419)); have n5_ := Aside0.mk ((by rw [hg]; exact (below_size (by repeat (first | (with_reducible first | exact HB.out | apply below_alloc | apply pw_below_drewN | apply below_drew1 | refine below_set ?_ (IsS57.ge HI392.out) | refine below_set ?_ GE393.out) | exact HB.out))) : w.heap.size ≤ gb419)); have n6_ := Aside0.mk ((by rw [hg]; exact Nat.ne_of_lt (blk_lt (g := gb393) (o := .cells #[.bool x394000_2, .int .i64 x394001_2, .int .i64 x394002_2, .int .i64 x394003_2] 38 (0, 0)) (by (with_reducible repeat (first | refine blk_drewN ?_ _ | refine blk_drew ?_ | refine blk_alloc ?_ _)); exact BK393.out)) : gb393 ≠ gb419)); have n7_ := Aside0.mk ((by rw [hg]; exact Nat.ne_of_gt (blk_lt (g := gb393) (o := .cells #[.bool x394000_2, .int .i64 x394001_2, .int .i64 x394002_2, .int .i64 x394003_2] 38 (0, 0)) (by (with_reducible repeat (first | refine blk_drewN ?_ _ | refine blk_drew ?_ | refine blk_alloc ?_ _)); exact BK393.out)) : gb419 ≠ gb393)); have n8_ := Aside0.mk ((by rw [hg]; exact Nat.ne_of_lt (IsS57.lt (show IsS57 w _ g392 x393000_23 x393001_23 x393002_23 x393003_23 x393004_23 x393005_23 x393006_23 from by repeat (first | (with_reducible first | exact HI392.out | apply IsS57.alloc | apply IsS57.drewN | apply IsS57.drew | apply IsS57.set_0 | apply IsS57.set_1 | apply IsS57.set_2 | apply IsS57.set_3 | apply IsS57.set_4 | apply IsS57.set_5 | apply IsS57.set_6 | refine IsS57.far ?_ NB392_393.out _) | exact HI392.out))) : g392 ≠ gb419)); have n9_ := Aside0.mk ((by rw [hg]; exact Nat.ne_of_gt (IsS57.lt (show IsS57 w _ g392 x393000_23 x393001_23 x393002_23 x393003_23 x393004_23 x393005_23 x393006_23 from by repeat (first | (with_reducible first | exact HI392.out | apply IsS57.alloc | apply IsS57.drewN | apply IsS57.drew | apply IsS57.set_0 | apply IsS57.set_1 | apply IsS57.set_2 | apply IsS57.set_3 | apply IsS57.set_4 | apply IsS57.set_5 | apply IsS57.set_6 | refine IsS57.far ?_ NB392_393.out _) | exact HI392.out))) : gb419 ≠ g392)); clear BK393; clear HI392; clear HB; have BK393 := n0_; have HI392 := n1_; have HB := n2_; have BK419 := n3_; have GW419 := n4_; have GE419 := n5_; have NB393_419 := n6_; have NB419_393 := n7_; have NB392_419 := n8_; have NB419_392 := n9_; clear n0_ n1_ n2_ n3_ n4_ n5_ n6_ n7_ n8_ n9_; clear hb hbox hg; have hnb52 := NB419_393.out; have hnc52 := NB393_419.out; have hnb53 := NB419_392.out; have hnc53 := NB392_419.out; have hcz54_0 : w51.cell? ⟨gb419, 0, none⟩ = some (.bool false) := (blk_cell BK419.out 0).trans rfl; have hcz54_1 : w51.cell? ⟨gb419, 1, none⟩ = some (.int .i64 0) := (blk_cell BK419.out 1).trans rfl; have hcz54_2 : w51.cell? ⟨gb419, 2, none⟩ = some (.int .i64 0) := (blk_cell BK419.out 2).trans rfl; have hcz54_3 : w51.cell? ⟨gb419, 3, none⟩ = some (.int .i64 0) := (blk_cell BK419.out 3).trans rfl; have hfz54_0 := blk_frozen BK419.out 0; have hfz54_1 := blk_frozen BK419.out 1; have hfz54_2 := blk_frozen BK419.out 2; have hfz54_3 := blk_frozen BK419.out 3; have hcz55_0 : w51.cell? ⟨gb393, 0, none⟩ = some (.bool x394000_2) := (blk_cell BK393.out 0).trans rfl; have hcz55_1 : w51.cell? ⟨gb393, 1, none⟩ = some (.int .i64 x394001_2) := (blk_cell BK393.out 1).trans rfl; have hcz55_2 : w51.cell? ⟨gb393, 2, none⟩ = some (.int .i64 x394002_2) := (blk_cell BK393.out 2).trans rfl; have hcz55_3 : w51.cell? ⟨gb393, 3, none⟩ = some (.int .i64 x394003_2) := (blk_cell BK393.out 3).trans rfl; have hfz55_0 := blk_frozen BK393.out 0; have hfz55_1 := blk_frozen BK393.out 1; have hfz55_2 := blk_frozen BK393.out 2; have hfz55_3 := blk_frozen BK393.out 3) | ((with_reducible refine gate_callee (f := 30) rfl ?_); refine goesL_ (some 97) rfl rfl Try.func30 (by kernel_rfl) rfl #[.pointer (some ⟨g392, 0, none⟩), .int .i64 ((rd_T40 l3 x11_2).f1)] rfl (by (try simp only [List.map_toArray, List.map_cons, List.map_nil]); first | done | rfl | (simp only [List.length_drop, List.length_take]; rfl)) ?_; (with_reducible refine (breaker_Breaker_Send.calls g392 x393000_23 x393001_23 x393002_23 x393003_23 x393004_23 x393005_23 x393006_23 ((rd_T40 l3 x11_2).f1) t420 t421 t422 t423 t424 t425 t426 t427 w _ ?side1 ?side2 A46.out).mono ?_); (case side1 => repeat (first | (with_reducible first | exact HI392.out | apply IsS57.alloc | apply IsS57.drewN | apply IsS57.drew | apply IsS57.set_0 | apply IsS57.set_1 | apply IsS57.set_2 | apply IsS57.set_3 | apply IsS57.set_4 | apply IsS57.set_5 | apply IsS57.set_6 | refine IsS57.far ?_ NB392_393.out _ | refine IsS57.far ?_ NB392_419.out _) | exact HI392.out)); (case side2 => repeat (first | (with_reducible first | exact HB.out | apply below_alloc | apply pw_below_drewN | apply below_drew1 | refine below_set ?_ (IsS57.ge HI392.out) | refine below_set ?_ GE393.out | refine below_set ?_ GE419.out) | exact HB.out)); rintro e w56 ⟨rfl, hi, hb, hk⟩; refine ⟨_, rfl, ?_⟩; have n0_ := Aside0.mk (KeepBut.blk hk (g' := gb393) (o := .cells #[.bool t414, .int .i64 t415, .int .i64 t416, .int .i64 t417] 38 (0, 0)) (by (with_reducible repeat (first | refine blk_drewN ?_ _ | refine blk_drew ?_ | refine blk_alloc ?_ _)); refine blk_put (cs := #[.bool t414, .int .i64 t415, .int .i64 t416, .int .i64 x394003_2]) ?_ 3 _ rfl; (with_reducible repeat (first | refine blk_drewN ?_ _ | refine blk_drew ?_ | refine blk_alloc ?_ _)); refine blk_put (cs := #[.bool t414, .int .i64 t415, .int .i64 x394002_2, .int .i64 x394003_2]) ?_ 2 _ rfl; (with_reducible repeat (first | refine blk_drewN ?_ _ | refine blk_drew ?_ | refine blk_alloc ?_ _)); refine blk_put (cs := #[.bool t414, .int .i64 x394001_2, .int .i64 x394002_2, .int .i64 x394003_2]) ?_ 1 _ rfl; (with_reducible repeat (first | refine blk_drewN ?_ _ | refine blk_drew ?_ | refine blk_alloc ?_ _)); refine blk_put (cs := #[.bool x394000_2, .int .i64 x394001_2, .int .i64 x394002_2, .int .i64 x394003_2]) ?_ 0 _ rfl; (with_reducible repeat (first | refine blk_drewN ?_ _ | refine blk_drew ?_ | refine blk_alloc ?_ _)); refine blk_far ?_ NB393_419.out _; (with_reducible repeat (first | refine blk_drewN ?_ _ | refine blk_drew ?_ | refine blk_alloc ?_ _)); refine blk_far ?_ NB393_419.out _; (with_reducible repeat (first | refine blk_drewN ?_ _ | refine blk_drew ?_ | refine blk_alloc ?_ _)); refine blk_far ?_ NB393_419.out _; (with_reducible repeat (first | refine blk_drewN ?_ _ | refine blk_drew ?_ | refine blk_alloc ?_ _)); refine blk_far ?_ NB393_419.out _; (with_reducible repeat (first | refine blk_drewN ?_ _ | refine blk_drew ?_ | refine blk_alloc ?_ _)); exact BK393.out) NB393_392.out (by simp)); have n1_ := Aside0.mk (KeepBut.blk hk (g' := gb419) (o := .cells #[.bool t414, .int .i64 t415, .int .i64 t416, .int .i64 t417] 38 (0, 0)) (by (with_reducible repeat (first | refine blk_drewN ?_ _ | refine blk_drew ?_ | refine blk_alloc ?_ _)); refine blk_far ?_ NB419_393.out _; (with_reducible repeat (first | refine blk_drewN ?_ _ | refine blk_drew ?_ | refine blk_alloc ?_ _)); refine blk_far ?_ NB419_393.out _; (with_reducible repeat (first | refine blk_drewN ?_ _ | refine blk_drew ?_ | refine blk_alloc ?_ _)); refine blk_far ?_ NB419_393.out _; (with_reducible repeat (first | refine blk_drewN ?_ _ | refine blk_drew ?_ | refine blk_alloc ?_ _)); refine blk_far ?_ NB419_393.out _; (with_reducible repeat (first | refine blk_drewN ?_ _ | refine blk_drew ?_ | refine blk_alloc ?_ _)); refine blk_put (cs := #[.bool t414, .int .i64 t415, .int .i64 t416, .int .i64 0]) ?_ 3 _ rfl; (with_reducible repeat (first | refine blk_drewN ?_ _ | refine blk_drew ?_ | refine blk_alloc ?_ _)); refine blk_put (cs := #[.bool t414, .int .i64 t415, .int .i64 0, .int .i64 0]) ?_ 2 _ rfl; (with_reducible repeat (first | refine blk_drewN ?_ _ | refine blk_drew ?_ | refine blk_alloc ?_ _)); refine blk_put (cs := #[.bool t414, .int .i64 0, .int .i64 0, .int .i64 0]) ?_ 1 _ rfl; (with_reducible repeat (first | refine blk_drewN ?_ _ | refine blk_drew ?_ | refine blk_alloc ?_ _)); refine blk_put (cs := #[.bool false, .int .i64 0, .int .i64 0, .int .i64 0]) ?_ 0 _ rfl; (with_reducible repeat (first | refine blk_drewN ?_ _ | refine blk_drew ?_ | refine blk_alloc ?_ _)); exact BK419.out) NB419_392.out (by simp)); have n2_ := Aside0.mk (hb); have n3_ := Aside0.mk (hi); clear BK393; clear BK419; clear HB; clear HI392; have BK393 := n0_; have BK419 := n1_; have HB := n2_; have HI392 := n3_; clear n0_ n1_ n2_ n3_; (try clear hb); (try clear hb2); (try clear hk); (try clear hi)))
                                        go_ret
                                        exact ⟨by first | rfl | (simp [errW_none, errW_some] <;> rfl) | (simp [*, errW_none, errW_some] <;> rfl), by repeat (first | (with_reducible first | exact HB.out | apply below_alloc | apply pw_below_drewN | apply below_drew1 | refine below_set ?_ (IsS57.ge HI392.out) | refine below_set ?_ GE393.out | refine below_set ?_ GE419.out) | exact HB.out)⟩
                                      · rw [if_neg c47] at H
                                        have c47b0 : (t420 != t418) = false := by simpa using c47
                                        (try (have c47b1 : decide (t420 = t418) = true := by simpa using c47))
                                        (try (have c47b2 : (t420 == t418) = true := by simpa using c47))
                                        clear c47
                                        have H' := Aside0.mk H
                                        clear H
                                        have hnb57 := NB393_392.out
                                        have hnc57 := NB392_393.out
                                        have hcz58_0 : wc.cell? ⟨gb393, 0, none⟩ = some (.bool x394000_2) := (blk_cell BK393.out 0).trans rfl
                                        have hcz58_1 : wc.cell? ⟨gb393, 1, none⟩ = some (.int .i64 x394001_2) := (blk_cell BK393.out 1).trans rfl
                                        have hcz58_2 : wc.cell? ⟨gb393, 2, none⟩ = some (.int .i64 x394002_2) := (blk_cell BK393.out 2).trans rfl
                                        have hcz58_3 : wc.cell? ⟨gb393, 3, none⟩ = some (.int .i64 x394003_2) := (blk_cell BK393.out 3).trans rfl
                                        have hfz58_0 := blk_frozen BK393.out 0
                                        have hfz58_1 := blk_frozen BK393.out 1
                                        have hfz58_2 := blk_frozen BK393.out 2
                                        have hfz58_3 := blk_frozen BK393.out 3
                                        go_wp2_with (first | ((with_reducible refine gate_callee (f := 34) rfl ?_); refine goesL_ (some 91) rfl rfl Try.func34 (by kernel_rfl) rfl #[.agg #[.bool x394000_2, .int .i64 x394001_2, .int .i64 x394002_2, .int .i64 x394003_2], .int .i64 a2, .int .i64 ((rd_T40 l3 x11_2).f1)] rfl (by (try simp only [List.map_toArray, List.map_cons, List.map_nil]); first | done | rfl | (simp only [List.length_drop, List.length_take]; rfl)) ?_; (with_reducible refine (usufructref10_Send.calls x394000_2 x394001_2 x394002_2 x394003_2 a2 ((rd_T40 l3 x11_2).f1) t414 t415 t416 t417 t418 _ A45.out).mono ?_); rintro e w59 ⟨rfl, hb⟩; refine ⟨_, rfl, ?_⟩; have n0_ := Aside0.mk (blk_below (g := gb393) (o := .cells #[.bool x394000_2, .int .i64 x394001_2, .int .i64 x394002_2, .int .i64 x394003_2] 38 (0, 0)) (by (with_reducible repeat (first | refine blk_drewN ?_ _ | refine blk_drew ?_ | refine blk_alloc ?_ _)); exact BK393.out) hb); have n1_ := Aside0.mk (IsS57.below (by repeat (first | (with_reducible first | exact HI392.out | apply IsS57.alloc | apply IsS57.drewN | apply IsS57.drew | apply IsS57.set_0 | apply IsS57.set_1 | apply IsS57.set_2 | apply IsS57.set_3 | apply IsS57.set_4 | apply IsS57.set_5 | apply IsS57.set_6 | refine IsS57.far ?_ NB392_393.out _) | exact HI392.out)) hb); have n2_ := Aside0.mk (below_step (by repeat (first | (with_reducible first | exact HB.out | apply below_alloc | apply pw_below_drewN | apply below_drew1 | refine below_set ?_ (IsS57.ge HI392.out) | refine below_set ?_ GE393.out) | exact HB.out)) hb); clear BK393; clear HI392; clear HB; have BK393 := n0_; have HI392 := n1_; have HB := n2_; clear n0_ n1_ n2_; (try clear hb); (try clear hb2); (try clear hk); (try clear hi)) | ((with_reducible refine gate_dst (N := 13) rfl ?_); refine box_event ?hg (N := 13) ?hd (cs := #[.bool false, .int .i64 0, .int .i64 0, .int .i64 0]) (t := 38) ?hr ?_; (case hd => rfl); (case hg => rfl); (case hr => first | (go_simp; done) | (go_simp; rfl)); intro gb419 hg w60 hbox hb; have n0_ := Aside0.mk (blk_below (g := gb393) (o := .cells #[.bool x394000_2, .int .i64 x394001_2, .int .i64 x394002_2, .int .i64 x394003_2] 38 (0, 0)) (by (with_reducible repeat (first | refine blk_drewN ?_ _ | refine blk_drew ?_ | refine blk_alloc ?_ _)); exact BK393.out) hb); have n1_ := Aside0.mk (IsS57.below (by repeat (first | (with_reducible first | exact HI392.out | apply IsS57.alloc | apply IsS57.drewN | apply IsS57.drew | apply IsS57.set_0 | apply IsS57.set_1 | apply IsS57.set_2 | apply IsS57.set_3 | apply IsS57.set_4 | apply IsS57.set_5 | apply IsS57.set_6 | refine IsS57.far ?_ NB392_393.out _) | exact HI392.out)) hb); have n2_ := Aside0.mk (below_step (by repeat (first | (with_reducible first | exact HB.out | apply below_alloc | apply pw_below_drewN | apply below_drew1 | refine below_set ?_ (IsS57.ge HI392.out) | refine below_set ?_ GE393.out) | exact HB.out)) hb); have n3_ := Aside0.mk (hbox); have n4_ := Aside0.mk ((by rw [hg]; exact (below_size (by repeat (first | (with_reducible first | exact HB.out | apply below_alloc | apply pw_below_drewN | apply below_drew1 | refine below_set ?_ (IsS57.ge HI392.out) | refine below_set ?_ GE393.out) | exact HB.out))) : w.heap.size ≤ gb419)); have n5_ := Aside0.mk ((by rw [hg]; exact (below_size (by repeat (first | (with_reducible first | exact HB.out | apply below_alloc | apply pw_below_drewN | apply below_drew1 | refine below_set ?_ (IsS57.ge HI392.out) | refine below_set ?_ GE393.out) | exact HB.out))) : w.heap.size ≤ gb419)); have n6_ := Aside0.mk ((by rw [hg]; exact Nat.ne_of_lt (blk_lt (g := gb393) (o := .cells #[.bool x394000_2, .int .i64 x394001_2, .int .i64 x394002_2, .int .i64 x394003_2] 38 (0, 0)) (by (with_reducible repeat (first | refine blk_drewN ?_ _ | refine blk_drew ?_ | refine blk_alloc ?_ _)); exact BK393.out)) : gb393 ≠ gb419)); have n7_ := Aside0.mk ((by rw [hg]; exact Nat.ne_of_gt (blk_lt (g := gb393) (o := .cells #[.bool x394000_2, .int .i64 x394001_2, .int .i64 x394002_2, .int .i64 x394003_2] 38 (0, 0)) (by (with_reducible repeat (first | refine blk_drewN ?_ _ | refine blk_drew ?_ | refine blk_alloc ?_ _)); exact BK393.out)) : gb419 ≠ gb393)); have n8_ := Aside0.mk ((by rw [hg]; exact Nat.ne_of_lt (IsS57.lt (show IsS57 w _ g392 x393000_23 x393001_23 x393002_23 x393003_23 x393004_23 x393005_23 x393006_23 from by repeat (first | (with_reducible first | exact HI392.out | apply IsS57.alloc | apply IsS57.drewN | apply IsS57.drew | apply IsS57.set_0 | apply IsS57.set_1 | apply IsS57.set_2 | apply IsS57.set_3 | apply IsS57.set_4 | apply IsS57.set_5 | apply IsS57.set_6 | refine IsS57.far ?_ NB392_393.out _) | exact HI392.out))) : g392 ≠ gb419)); have n9_ := Aside0.mk ((by rw [hg]; exact Nat.ne_of_gt (IsS57.lt (show IsS57 w _ g392 x393000_23 x393001_23 x393002_23 x393003_23 x393004_23 x393005_23 x393006_23 from by repeat (first | (with_reducible first | exact HI392.out | apply IsS57.alloc | apply IsS57.drewN | apply IsS57.drew | apply IsS57.set_0 | apply IsS57.set_1 | apply IsS57.set_2 | apply IsS57.set_3 | apply IsS57.set_4 | apply IsS57.set_5 | apply IsS57.set_6 | refine IsS57.far ?_ NB392_393.out _) | exact HI392.out))) : gb419 ≠ g392)); clear BK393; clear HI392; clear HB; have BK393 := n0_; have HI392 := n1_; have HB := n2_; have BK419 := n3_; have GW419 := n4_; have GE419 := n5_; have NB393_419 := n6_; have NB419_393 := n7_; have NB392_419 := n8_; have NB419_392 := n9_; clear n0_ n1_ n2_ n3_ n4_ n5_ n6_ n7_ n8_ n9_; clear hb hbox hg; have hnb61 := NB419_393.out; have hnc61 := NB393_419.out; have hnb62 := NB419_392.out; have hnc62 := NB392_419.out; have hcz63_0 : w60.cell? ⟨gb419, 0, none⟩ = some (.bool false) := (blk_cell BK419.out 0).trans rfl; have hcz63_1 : w60.cell? ⟨gb419, 1, none⟩ = some (.int .i64 0) := (blk_cell BK419.out 1).trans rfl; have hcz63_2 : w60.cell? ⟨gb419, 2, none⟩ = some (.int .i64 0) := (blk_cell BK419.out 2).trans rfl; have hcz63_3 : w60.cell? ⟨gb419, 3, none⟩ = some (.int .i64 0) := (blk_cell BK419.out 3).trans rfl; have hfz63_0 := blk_frozen BK419.out 0; have hfz63_1 := blk_frozen BK419.out 1; have hfz63_2 := blk_frozen BK419.out 2; have hfz63_3 := blk_frozen BK419.out 3; have hcz64_0 : w60.cell? ⟨gb393, 0, none⟩ = some (.bool x394000_2) := (blk_cell BK393.out 0).trans rfl; have hcz64_1 : w60.cell? ⟨gb393, 1, none⟩ = some (.int .i64 x394001_2) := (blk_cell BK393.out 1).trans rfl; have hcz64_2 : w60.cell? ⟨gb393, 2, none⟩ = some (.int .i64 x394002_2) := (blk_cell BK393.out 2).trans rfl; have hcz64_3 : w60.cell? ⟨gb393, 3, none⟩ = some (.int .i64 x394003_2) := (blk_cell BK393.out 3).trans rfl; have hfz64_0 := blk_frozen BK393.out 0; have hfz64_1 := blk_frozen BK393.out 1; have hfz64_2 := blk_frozen BK393.out 2; have hfz64_3 := blk_frozen BK393.out 3) | ((with_reducible refine gate_callee (f := 30) rfl ?_); refine goesL_ (some 97) rfl rfl Try.func30 (by kernel_rfl) rfl #[.pointer (some ⟨g392, 0, none⟩), .int .i64 ((rd_T40 l3 x11_2).f1)] rfl (by (try simp only [List.map_toArray, List.map_cons, List.map_nil]); first | done | rfl | (simp only [List.length_drop, List.length_take]; rfl)) ?_; (with_reducible refine (breaker_Breaker_Send.calls g392 x393000_23 x393001_23 x393002_23 x393003_23 x393004_23 x393005_23 x393006_23 ((rd_T40 l3 x11_2).f1) t420 t421 t422 t423 t424 t425 t426 t427 w _ ?side1 ?side2 A46.out).mono ?_); (case side1 => repeat (first | (with_reducible first | exact HI392.out | apply IsS57.alloc | apply IsS57.drewN | apply IsS57.drew | apply IsS57.set_0 | apply IsS57.set_1 | apply IsS57.set_2 | apply IsS57.set_3 | apply IsS57.set_4 | apply IsS57.set_5 | apply IsS57.set_6 | refine IsS57.far ?_ NB392_393.out _ | refine IsS57.far ?_ NB392_419.out _) | exact HI392.out)); (case side2 => repeat (first | (with_reducible first | exact HB.out | apply below_alloc | apply pw_below_drewN | apply below_drew1 | refine below_set ?_ (IsS57.ge HI392.out) | refine below_set ?_ GE393.out | refine below_set ?_ GE419.out) | exact HB.out)); rintro e w65 ⟨rfl, hi, hb, hk⟩; refine ⟨_, rfl, ?_⟩; have n0_ := Aside0.mk (KeepBut.blk hk (g' := gb393) (o := .cells #[.bool t414, .int .i64 t415, .int .i64 t416, .int .i64 t417] 38 (0, 0)) (by (with_reducible repeat (first | refine blk_drewN ?_ _ | refine blk_drew ?_ | refine blk_alloc ?_ _)); refine blk_put (cs := #[.bool t414, .int .i64 t415, .int .i64 t416, .int .i64 x394003_2]) ?_ 3 _ rfl; (with_reducible repeat (first | refine blk_drewN ?_ _ | refine blk_drew ?_ | refine blk_alloc ?_ _)); refine blk_put (cs := #[.bool t414, .int .i64 t415, .int .i64 x394002_2, .int .i64 x394003_2]) ?_ 2 _ rfl; (with_reducible repeat (first | refine blk_drewN ?_ _ | refine blk_drew ?_ | refine blk_alloc ?_ _)); refine blk_put (cs := #[.bool t414, .int .i64 x394001_2, .int .i64 x394002_2, .int .i64 x394003_2]) ?_ 1 _ rfl; (with_reducible repeat (first | refine blk_drewN ?_ _ | refine blk_drew ?_ | refine blk_alloc ?_ _)); refine blk_put (cs := #[.bool x394000_2, .int .i64 x394001_2, .int .i64 x394002_2, .int .i64 x394003_2]) ?_ 0 _ rfl; (with_reducible repeat (first | refine blk_drewN ?_ _ | refine blk_drew ?_ | refine blk_alloc ?_ _)); refine blk_far ?_ NB393_419.out _; (with_reducible repeat (first | refine blk_drewN ?_ _ | refine blk_drew ?_ | refine blk_alloc ?_ _)); refine blk_far ?_ NB393_419.out _; (with_reducible repeat (first | refine blk_drewN ?_ _ | refine blk_drew ?_ | refine blk_alloc ?_ _)); refine blk_far ?_ NB393_419.out _; (with_reducible repeat (first | refine blk_drewN ?_ _ | refine blk_drew ?_ | refine blk_alloc ?_ _)); refine blk_far ?_ NB393_419.out _; (with_reducible repeat (first | refine blk_drewN ?_ _ | refine blk_drew ?_ | refine blk_alloc ?_ _)); exact BK393.out) NB393_392.out (by simp)); have n1_ := Aside0.mk (KeepBut.blk hk (g' := gb419) (o := .cells #[.bool t414, .int .i64 t415, .int .i64 t416, .int .i64 t417] 38 (0, 0)) (by (with_reducible repeat (first | refine blk_drewN ?_ _ | refine blk_drew ?_ | refine blk_alloc ?_ _)); refine blk_far ?_ NB419_393.out _; (with_reducible repeat (first | refine blk_drewN ?_ _ | refine blk_drew ?_ | refine blk_alloc ?_ _)); refine blk_far ?_ NB419_393.out _; (with_reducible repeat (first | refine blk_drewN ?_ _ | refine blk_drew ?_ | refine blk_alloc ?_ _)); refine blk_far ?_ NB419_393.out _; (with_reducible repeat (first | refine blk_drewN ?_ _ | refine blk_drew ?_ | refine blk_alloc ?_ _)); refine blk_far ?_ NB419_393.out _; (with_reducible repeat (first | refine blk_drewN ?_ _ | refine blk_drew ?_ | refine blk_alloc ?_ _)); refine blk_put (cs := #[.bool t414, .int .i64 t415, .int .i64 t416, .int .i64 0]) ?_ 3 _ rfl; (with_reducible repeat (first | refine blk_drewN ?_ _ | refine blk_drew ?_ | refine blk_alloc ?_ _)); refine blk_put (cs := #[.bool t414, .int .i64 t415, .int .i64 0, .int .i64 0]) ?_ 2 _ rfl; (with_reducible repeat (first | refine blk_drewN ?_ _ | refine blk_drew ?_ | refine blk_alloc ?_ _)); refine blk_put (cs := #[.bool t414, .int .i64 0, .int .i64 0, .int .i64 0]) ?_ 1 _ rfl; (with_reducible repeat (first | refine blk_drewN ?_ _ | refine blk_drew ?_ | refine blk_alloc ?_ _)); refine blk_put (cs := #[.bool false, .int .i64 0, .int .i64 0, .int .i64 0]) ?_ 0 _ rfl; (with_reducible repeat (first | refine blk_drewN ?_ _ | refine blk_drew ?_ | refine blk_alloc ?_ _)); exact BK419.out) NB419_392.out (by simp)); have n2_ := Aside0.mk (hb); have n3_ := Aside0.mk (hi); clear BK393; clear BK419; clear HB; clear HI392; have BK393 := n0_; have BK419 := n1_; have HB := n2_; have HI392 := n3_; clear n0_ n1_ n2_ n3_; (try clear hb); (try clear hb2); (try clear hk); (try clear hi)))
                                        go_meet
                                        case rel => exact ⟨_, (t421), (t422), (t423), (t424), (t425), (t426), (t427), (t414), (t415), (t416), (t417), H', ⟨by have := HJ9.out; have := HK2.out; have := HJ23.out; have := HJ41.out; first | omega | exact Nat.le_refl _⟩, ⟨by (with_reducible repeat (first | refine blk_drewN ?_ _ | refine blk_drew ?_ | refine blk_alloc ?_ _)); exact BK393.out⟩, ⟨by repeat (first | (with_reducible first | exact HI392.out | apply IsS57.alloc | apply IsS57.drewN | apply IsS57.drew | apply IsS57.set_0 | apply IsS57.set_1 | apply IsS57.set_2 | apply IsS57.set_3 | apply IsS57.set_4 | apply IsS57.set_5 | apply IsS57.set_6 | refine IsS57.far ?_ NB392_393.out _ | refine IsS57.far ?_ NB392_419.out _) | exact HI392.out)⟩, ⟨by repeat (first | (with_reducible first | exact HB.out | apply below_alloc | apply pw_below_drewN | apply below_drew1 | refine below_set ?_ (IsS57.ge HI392.out) | refine below_set ?_ GE393.out | refine below_set ?_ GE419.out) | exact HB.out)⟩⟩
                                    · replace c44 := Bool.eq_false_iff.mpr c44
                                      subst c44
                                      have H1 : (if ((rd_T40 l3 x11_2).f0) = 2 then (usufructlaw10_BreakerPlays.j4 kj41 a0 a1 a2 l3 x11_2 ((rd_T40 l3 x11_2).f1) ((rd_T40 l3 x11_2).f0) (((rd_T40 l3 x11_2).f0) == 2) x393000_23 x393001_23 x393002_23 x393003_23 x393004_23 x393005_23 x393006_23 x394000_2 x394001_2 x394002_2 x394003_2) else (usufructlaw10_BreakerPlays.j4 kj41 a0 a1 a2 l3 x11_2 ((rd_T40 l3 x11_2).f1) ((rd_T40 l3 x11_2).f0) (((rd_T40 l3 x11_2).f0) == 3) x393000_23 x393001_23 x393002_23 x393003_23 x393004_23 x393005_23 x393006_23 x394000_2 x394001_2 x394002_2 x394003_2)) = some r := by rw [if_neg (show ¬ (false = true) by decide)] at H; exact H
                                      clear H
                                      have H := H1
                                      clear H1
                                      have HC66 := Aside0.mk H
                                      clear H
                                      go_upto_if 100 with (fail)
                                      go_cut [100] (fun v100 wc => ∃ (kq : Nat) (x100_65 : Bool), v100 = .bool x100_65 ∧ Aside0 (usufructlaw10_BreakerPlays.j4 kq a0 a1 a2 l3 x11_2 ((rd_T40 l3 x11_2).f1) ((rd_T40 l3 x11_2).f0) x100_65 x393000_23 x393001_23 x393002_23 x393003_23 x393004_23 x393005_23 x393006_23 x394000_2 x394001_2 x394002_2 x394003_2 = some r) ∧ Aside0 (kq ≤ kj41) ∧ Aside0 (wc.heap[gb393]? = some (.cells #[.bool x394000_2, .int .i64 x394001_2, .int .i64 x394002_2, .int .i64 x394003_2] 38 (0, 0))) ∧ Aside0 (IsS57 w wc g392 x393000_23 x393001_23 x393002_23 x393003_23 x393004_23 x393005_23 x393006_23) ∧ Aside0 (Below w.heap.size w wc))
                                      case first =>
                                        have H := HC66.out
                                        clear HC66
                                        by_cases c67 : ((rd_T40 l3 x11_2).f0) = 2
                                        · rw [if_pos c67] at H
                                          have c67b0 : (((rd_T40 l3 x11_2).f0) == 2) = true := beq_iff_eq.mpr c67
                                          have c67b1 : (((rd_T40 l3 x11_2).f0) != 2) = false := bne_eq_false_iff_eq.mpr c67
                                          clear c67
                                          (first | rw [c67b0] | (simp only [i64_w, i32_w]; rw [c67b0]) | skip)
                                          have H' := Aside0.mk H
                                          clear H
                                          go_wp2
                                          go_meet
                                          case rel => exact ⟨_, ((((rd_T40 l3 x11_2).f0) == 2)), (by first | rfl | (simp; done) | (simp [*]; done)), H', ⟨by have := HJ9.out; have := HK2.out; have := HJ23.out; have := HJ41.out; first | omega | exact Nat.le_refl _⟩, ⟨by (with_reducible repeat (first | refine blk_drewN ?_ _ | refine blk_drew ?_ | refine blk_alloc ?_ _)); exact BK393.out⟩, ⟨by repeat (first | (with_reducible first | exact HI392.out | apply IsS57.alloc | apply IsS57.drewN | apply IsS57.drew | apply IsS57.set_0 | apply IsS57.set_1 | apply IsS57.set_2 | apply IsS57.set_3 | apply IsS57.set_4 | apply IsS57.set_5 | apply IsS57.set_6 | refine IsS57.far ?_ NB392_393.out _) | exact HI392.out)⟩, ⟨by repeat (first | (with_reducible first | exact HB.out | apply below_alloc | apply pw_below_drewN | apply below_drew1 | refine below_set ?_ (IsS57.ge HI392.out) | refine below_set ?_ GE393.out) | exact HB.out)⟩⟩
                                        · rw [if_neg c67] at H
                                          have c67b0 : (((rd_T40 l3 x11_2).f0) == 2) = false := beq_eq_false_iff_ne.mpr c67
                                          have c67b1 : (((rd_T40 l3 x11_2).f0) != 2) = true := bne_iff_ne.mpr c67
                                          (first | rw [c67b0] | (simp only [i64_w, i32_w]; rw [c67b0]) | skip)
                                          have H' := Aside0.mk H
                                          clear H
                                          go_wp2
                                          go_meet
                                          case rel => exact ⟨_, ((((rd_T40 l3 x11_2).f0) == 3)), (by first | rfl | (simp; done) | (simp [*]; done)), H', ⟨by have := HJ9.out; have := HK2.out; have := HJ23.out; have := HJ41.out; first | omega | exact Nat.le_refl _⟩, ⟨by (with_reducible repeat (first | refine blk_drewN ?_ _ | refine blk_drew ?_ | refine blk_alloc ?_ _)); exact BK393.out⟩, ⟨by repeat (first | (with_reducible first | exact HI392.out | apply IsS57.alloc | apply IsS57.drewN | apply IsS57.drew | apply IsS57.set_0 | apply IsS57.set_1 | apply IsS57.set_2 | apply IsS57.set_3 | apply IsS57.set_4 | apply IsS57.set_5 | apply IsS57.set_6 | refine IsS57.far ?_ NB392_393.out _) | exact HI392.out)⟩, ⟨by repeat (first | (with_reducible first | exact HB.out | apply below_alloc | apply pw_below_drewN | apply below_drew1 | refine below_set ?_ (IsS57.ge HI392.out) | refine below_set ?_ GE393.out) | exact HB.out)⟩⟩
                                      case rest =>
                                        clear HC66
                                        try clear c1
                                        try clear c2
                                        try clear p2
                                        try clear c3
                                        try clear p3
                                        try clear q3
                                        try clear hx3
                                        try clear c4
                                        try clear p4
                                        try clear q4
                                        try clear hx4
                                        try clear c5
                                        try clear c6
                                        try clear c7
                                        try clear c7b0
                                        try clear c7b1
                                        try clear c8
                                        try clear c13
                                        try clear c13b0
                                        try clear c14
                                        try clear c14b0
                                        try clear c15
                                        try clear c15b0
                                        try clear c16
                                        try clear c16b0
                                        try clear c17
                                        try clear c17b0
                                        try clear c18
                                        try clear c20
                                        try clear c22
                                        try clear c22b0
                                        try clear c23
                                        try clear c23b0
                                        try clear c27
                                        try clear c27b0
                                        try clear c27b1
                                        try clear c30
                                        try clear c31
                                        try clear c32
                                        try clear c33
                                        try clear c34
                                        try clear c38
                                        try clear c39
                                        try clear c39b0
                                        try clear p39
                                        try clear q39
                                        try clear hx39
                                        try clear c40
                                        try clear c40b0
                                        try clear p41
                                        try clear q41
                                        try clear hx41
                                        try clear c43
                                        try clear c43b0
                                        try clear c43b1
                                        try clear c44
                                        try clear c47
                                        try clear c47b0
                                        try clear c47b1
                                        try clear c47b2
                                        try clear c48
                                        try clear c52
                                        try clear c53
                                        try clear c57
                                        try clear c61
                                        try clear c62
                                        try clear c67
                                        try clear c67b0
                                        try clear c67b1
                                        try clear hcz21_0
                                        try clear hcz21_1
                                        try clear hcz21_2
                                        try clear hcz21_3
                                        try clear hcz49_0
                                        try clear hcz49_1
                                        try clear hcz49_2
                                        try clear hcz49_3
                                        try clear hcz54_0
                                        try clear hcz54_1
                                        try clear hcz54_2
                                        try clear hcz54_3
                                        try clear hcz55_0
                                        try clear hcz55_1
                                        try clear hcz55_2
                                        try clear hcz55_3
                                        try clear hcz58_0
                                        try clear hcz58_1
                                        try clear hcz58_2
                                        try clear hcz58_3
                                        try clear hcz63_0
                                        try clear hcz63_1
                                        try clear hcz63_2
                                        try clear hcz63_3
                                        try clear hcz64_0
                                        try clear hcz64_1
                                        try clear hcz64_2
                                        try clear hcz64_3
                                        try clear hfz21_0
                                        try clear hfz21_1
                                        try clear hfz21_2
                                        try clear hfz21_3
                                        try clear hfz49_0
                                        try clear hfz49_1
                                        try clear hfz49_2
                                        try clear hfz49_3
                                        try clear hfz54_0
                                        try clear hfz54_1
                                        try clear hfz54_2
                                        try clear hfz54_3
                                        try clear hfz55_0
                                        try clear hfz55_1
                                        try clear hfz55_2
                                        try clear hfz55_3
                                        try clear hfz58_0
                                        try clear hfz58_1
                                        try clear hfz58_2
                                        try clear hfz58_3
                                        try clear hfz63_0
                                        try clear hfz63_1
                                        try clear hfz63_2
                                        try clear hfz63_3
                                        try clear hfz64_0
                                        try clear hfz64_1
                                        try clear hfz64_2
                                        try clear hfz64_3
                                        try clear hx394_0
                                        try clear hx394_1
                                        try clear hx413_0
                                        try clear hx413_1
                                        try clear p2
                                        try clear p3
                                        try clear p39
                                        try clear p394
                                        try clear p4
                                        try clear p41
                                        try clear p413
                                        try clear q3
                                        try clear q39
                                        try clear q394
                                        try clear q4
                                        try clear q41
                                        try clear q413
                                        obtain ⟨kq, x100_65, rfl, HA, HJ65, BK393, HI392, HB⟩ := hcut
                                        cases kq with
                                        | zero => exact absurd HA.out (by simp [usufructlaw10_BreakerPlays.j4])
                                        | succ kj65 =>
                                          have H := HA.out
                                          clear HA
                                          simp only [usufructlaw10_BreakerPlays.j4] at H
                                          by_cases c68 : x100_65 = true
                                          · subst c68
                                            have H1 : (if 0 ≤ x11_2 then (if x11_2 < (l3.length : Int) then ((breaker_Breaker_Done.f x393000_23 x393001_23 x393002_23 x393003_23 x393004_23 x393005_23 x393006_23 ((rd_T40 l3 x11_2).f1) (((rd_T40 l3 x11_2).f0) == 2)).bind fun bt429 => ((usufructref10_Done.f x394000_2 x394001_2 x394002_2 x394003_2 a0 a1 ((rd_T40 l3 x11_2).f1) (((rd_T40 l3 x11_2).f0) == 2)).bind fun bt437 => (usufructlaw10_BreakerPlays.j5 kj65 a0 a1 a2 l3 x11_2 ((rd_T40 l3 x11_2).f1) bt429.1 bt429.2.1 bt429.2.2.1 bt429.2.2.2.1 bt429.2.2.2.2.1 bt429.2.2.2.2.2.1 bt429.2.2.2.2.2.2 bt437.1 bt437.2.1 bt437.2.2.1 bt437.2.2.2))) else (none)) else (none)) = some r := by rw [if_pos rfl] at H; exact H
                                            clear H
                                            have H := H1
                                            clear H1
                                            by_cases c69 : 0 ≤ x11_2
                                            · rw [if_pos c69] at H
                                              have c69b0 : decide (0 ≤ x11_2) = true := decide_eq_true c69
                                              clear c69
                                              by_cases c70 : x11_2 < (l3.length : Int)
                                              · rw [if_pos c70] at H
                                                have c70b0 : decide (x11_2 < (l3.length : Int)) = true := decide_eq_true c70
                                                clear c70
                                                replace H := Option.bind_eq_some_iff.mp H
                                                obtain ⟨⟨t429, t430, t431, t432, t433, t434, t435⟩, A710, H⟩ := H
                                                replace H : ((usufructref10_Done.f x394000_2 x394001_2 x394002_2 x394003_2 a0 a1 ((rd_T40 l3 x11_2).f1) (((rd_T40 l3 x11_2).f0) == 2)).bind fun bt437 => (usufructlaw10_BreakerPlays.j5 kj65 a0 a1 a2 l3 x11_2 ((rd_T40 l3 x11_2).f1) t429 t430 t431 t432 t433 t434 t435 bt437.1 bt437.2.1 bt437.2.2.1 bt437.2.2.2)) = some r := H
                                                have A71 := Aside0.mk A710
                                                clear A710
                                                replace H := Option.bind_eq_some_iff.mp H
                                                obtain ⟨⟨t437, t438, t439, t440⟩, A720, H⟩ := H
                                                replace H : (usufructlaw10_BreakerPlays.j5 kj65 a0 a1 a2 l3 x11_2 ((rd_T40 l3 x11_2).f1) t429 t430 t431 t432 t433 t434 t435 t437 t438 t439 t440) = some r := H
                                                have A72 := Aside0.mk A720
                                                clear A720
                                                have H' := Aside0.mk H
                                                clear H
                                                have p428 : 0 ≤ (x11_2 : Int) := of_decide_eq_true (by first | (with_reducible assumption) | assumption)
                                                have q428 : x11_2 < (l3.length : Int) := of_decide_eq_true (by first | (with_reducible assumption) | assumption)
                                                obtain ⟨ad428, e428, hx428_0, hx428_1⟩ := at_T40 HR3.out x11_2 p428 q428
                                                obtain rfl : ad394 = ad428 := (by injection e428)
                                                replace hx428_0 := (HB.out.cell (World.block_lt_of_cell? w _ hx428_0)).trans hx428_0
                                                replace hx428_1 := (HB.out.cell (World.block_lt_of_cell? w _ hx428_1)).trans hx428_1
                                                replace p428 := eq_true p428
                                                replace q428 := eq_true q428
                                                try go_wp2_with (first | ((with_reducible refine gate_callee (f := 28) rfl ?_); refine goesL_ (some 111) rfl rfl Try.func28 (by kernel_rfl) rfl #[.pointer (some ⟨g392, 0, none⟩), .int .i64 ((rd_T40 l3 x11_2).f1), .bool (((rd_T40 l3 x11_2).f0) == 2)] rfl (by (try simp only [List.map_toArray, List.map_cons, List.map_nil]); first | done | rfl | (simp only [List.length_drop, List.length_take]; rfl)) ?_; (with_reducible refine (breaker_Breaker_Done.calls g392 x393000_23 x393001_23 x393002_23 x393003_23 x393004_23 x393005_23 x393006_23 ((rd_T40 l3 x11_2).f1) (((rd_T40 l3 x11_2).f0) == 2) t429 t430 t431 t432 t433 t434 t435 w _ ?side1 ?side2 A71.out).mono ?_); (case side1 => repeat (first | (with_reducible first | exact HI392.out | apply IsS57.alloc | apply IsS57.drewN | apply IsS57.drew | apply IsS57.set_0 | apply IsS57.set_1 | apply IsS57.set_2 | apply IsS57.set_3 | apply IsS57.set_4 | apply IsS57.set_5 | apply IsS57.set_6 | refine IsS57.far ?_ NB392_393.out _) | exact HI392.out)); (case side2 => repeat (first | (with_reducible first | exact HB.out | apply below_alloc | apply pw_below_drewN | apply below_drew1 | refine below_set ?_ (IsS57.ge HI392.out) | refine below_set ?_ GE393.out) | exact HB.out)); rintro e w73 ⟨rfl, hi, hb, hk⟩; refine ⟨_, rfl, ?_⟩; have n0_ := Aside0.mk (KeepBut.blk hk (g' := gb393) (o := .cells #[.bool x394000_2, .int .i64 x394001_2, .int .i64 x394002_2, .int .i64 x394003_2] 38 (0, 0)) (by (with_reducible repeat (first | refine blk_drewN ?_ _ | refine blk_drew ?_ | refine blk_alloc ?_ _)); exact BK393.out) NB393_392.out (by simp)); have n1_ := Aside0.mk (hb); have n2_ := Aside0.mk (hi); clear BK393; clear HB; clear HI392; have BK393 := n0_; have HB := n1_; have HI392 := n2_; clear n0_ n1_ n2_; (try clear hb); (try clear hb2); (try clear hk); (try clear hi)))
                                                have n0_ := Aside0.mk (blk_drew BK393.out)
                                                have n1_ := Aside0.mk (IsS57.drew HI392.out)
                                                have n2_ := Aside0.mk (below_drew1 HB.out)
                                                clear BK393
                                                clear HI392
                                                clear HB
                                                have BK393 := n0_
                                                have HI392 := n1_
                                                have HB := n2_
                                                clear n0_ n1_ n2_
                                                have p436 : 0 ≤ (x11_2 : Int) := of_decide_eq_true (by first | (with_reducible assumption) | assumption)
                                                have q436 : x11_2 < (l3.length : Int) := of_decide_eq_true (by first | (with_reducible assumption) | assumption)
                                                obtain ⟨ad436, e436, hx436_0, hx436_1⟩ := at_T40 HR3.out x11_2 p436 q436
                                                have hw436_1 := hx436_1
                                                have hw436_0 := hx436_0
                                                obtain rfl : ad394 = ad436 := (by injection e436)
                                                replace hx436_0 := (HB.out.cell (World.block_lt_of_cell? w _ hx436_0)).trans hx436_0
                                                replace hx436_1 := (HB.out.cell (World.block_lt_of_cell? w _ hx436_1)).trans hx436_1
                                                replace p436 := eq_true p436
                                                replace q436 := eq_true q436
                                                refine start_ (n := 12) (S := fun w' => w'.cell? ⟨gb393, 0, none⟩ = some (.bool x394000_2) ∧ w'.cell? ⟨gb393, 1, none⟩ = some (.int .i64 x394001_2) ∧ w'.cell? ⟨gb393, 2, none⟩ = some (.int .i64 x394002_2) ∧ w'.cell? ⟨gb393, 3, none⟩ = some (.int .i64 x394003_2) ∧ w'.cell? (ad394.add ((x11_2).toNat * 2)) = some (.int .i64 ((rd_T40 l3 x11_2).f0)) ∧ w'.cell? ⟨(ad394.add ((x11_2).toNat * 2)).block, (ad394.add ((x11_2).toNat * 2)).off + 1, none⟩ = some (.int .i64 ((rd_T40 l3 x11_2).f1))) (ds := [11]) #[false, false, false, false, false, false, false, false, false, false, false, false] (by kernel_rfl) rfl rfl ⟨(blk_cell BK393.out 0).trans rfl, (blk_cell BK393.out 1).trans rfl, (blk_cell BK393.out 2).trans rfl, (blk_cell BK393.out 3).trans rfl, ((HB.out.cell (World.block_lt_of_cell? w _ hw436_0)).trans hw436_0), ((HB.out.cell (World.block_lt_of_cell? w _ hw436_1)).trans hw436_1)⟩ (fun hHeld => ?_); refine with_tabW usufructlaw10_BreakerPlays.tab27 usufructlaw10_BreakerPlays.bits27 (fun HT_ HW_ => ?_)
                                                generalize w73.drew = w74 at BK393 HI392 HB hx436_0 hx436_1 hHeld ⊢
                                                refine pure_ (i := 1) (N := some 113) (v := ?_) (a' := ?_) (b_ 12 2) rfl rfl (any_of HT_.out (by kernel_rfl)) (fun _ _ _ h => h) (Or.inl ⟨by rfl, ?_⟩) ?_ ?_; rotate_left; (· intro w'; go_simp; with_reducible rfl); rotate_left; (· simp only [Act.put, sa_, sz_, ss_, i64_w, i32_w]; rfl)
                                                refine pure_ (i := 2) (N := some 114) (v := ?_) (a' := ?_) (b_ 12 6) rfl rfl (any_of HT_.out (by kernel_rfl)) (fun _ _ _ h => h) (Or.inl ⟨by rfl, ?_⟩) ?_ ?_; rotate_left; (· intro w'; go_simp; with_reducible rfl); rotate_left; (· simp only [Act.put, sa_, sz_, ss_, i64_w, i32_w]; rfl)
                                                refine pure_ (i := 3) (N := some 115) (v := ?_) (a' := ?_) (b_ 12 14) rfl rfl (any_of HT_.out (by kernel_rfl)) (fun _ _ _ h => h) (Or.inl ⟨by rfl, ?_⟩) ?_ ?_; rotate_left; (· intro w'; go_simp; with_reducible rfl); rotate_left; (· simp only [Act.put, sa_, sz_, ss_, i64_w, i32_w]; rfl)
                                                refine pure_ (i := 4) (N := some 116) (v := ?_) (a' := ?_) (b_ 12 30) rfl rfl (any_of HT_.out (by kernel_rfl)) (fun _ _ _ h => h) (Or.inl ⟨by rfl, ?_⟩) ?_ ?_; rotate_left; (· intro w'; go_simp; with_reducible rfl); rotate_left; (· simp only [Act.put, sa_, sz_, ss_, i64_w, i32_w]; rfl)
                                                refine pure_ (i := 5) (N := some 117) (v := ?_) (a' := ?_) (b_ 12 62) rfl rfl (any_of HT_.out (by kernel_rfl)) (fun _ _ _ h => h) (Or.inl ⟨by rfl, ?_⟩) ?_ ?_; rotate_left; (· intro w'; go_simp; with_reducible rfl); rotate_left; (· simp only [Act.put, sa_, sz_, ss_, i64_w, i32_w]; rfl)
                                                refine pure_ (i := 6) (N := some 118) (v := ?_) (a' := ?_) (b_ 12 126) rfl rfl (any_of HT_.out (by kernel_rfl)) (fun _ _ _ h => h) (Or.inl ⟨by rfl, ?_⟩) ?_ ?_; rotate_left; (· intro w'; go_simp; with_reducible rfl); rotate_left; (· simp only [Act.put, sa_, sz_, ss_, i64_w, i32_w]; rfl)
                                                refine pure_ (i := 7) (N := some 119) (v := ?_) (a' := ?_) (b_ 12 254) rfl rfl (any_of HT_.out (by kernel_rfl)) (fun _ _ _ h => h) (Or.inl ⟨by rfl, ?_⟩) ?_ ?_; rotate_left; (· intro w'; go_simp; with_reducible rfl); rotate_left; (· simp only [Act.put, sa_, sz_, ss_, i64_w, i32_w]; rfl)
                                                refine take_ (i := 0) (N := some 112) (v := ?_) (a' := ?_) (b_ 12 255) rfl rfl (take_ofW HT_.out HW_.out (by kernel_rfl)) (fun _ _ _ h => h) (Or.inl ⟨by rfl, ?_⟩) hHeld ?_ ?_
                                                rotate_left
                                                · rintro w' ⟨s0, s1, s2, s3, s4, s5⟩
                                                  go_simp
                                                  with_reducible rfl
                                                rotate_left
                                                · simp only [Act.put, sa_, sz_, ss_, i64_w, i32_w]
                                                  rfl
                                                refine take_ (i := 8) (N := some 120) (v := ?_) (a' := ?_) (b_ 12 511) rfl rfl (take_ofW HT_.out HW_.out (by kernel_rfl)) (fun _ _ _ h => h) (Or.inl ⟨by rfl, ?_⟩) hHeld ?_ ?_
                                                rotate_left
                                                · rintro w' ⟨s0, s1, s2, s3, s4, s5⟩
                                                  go_simp
                                                  with_reducible rfl
                                                rotate_left
                                                · simp only [Act.put, sa_, sz_, ss_, i64_w, i32_w]
                                                  rfl
                                                refine pure_ (i := 9) (N := some 121) (v := ?_) (a' := ?_) (b_ 12 1023) rfl rfl (any_of HT_.out (by kernel_rfl)) (fun _ _ _ h => h) (Or.inl ⟨by rfl, ?_⟩) ?_ ?_; rotate_left; (· intro w'; go_simp; with_reducible rfl); rotate_left; (· simp only [Act.put, sa_, sz_, ss_, i64_w, i32_w]; rfl)
                                                refine one_ (i := 10) (N := some 122) (b_ 12 2047) rfl rfl (one_of HT_.out (by kernel_rfl)) (by decide) (fun K hK => ?_)
                                                refine goes_ Try.func35 (by kernel_rfl) rfl #[.agg #[.bool x394000_2, .int .i64 x394001_2, .int .i64 x394002_2, .int .i64 x394003_2], .int .i64 a0, .int .i64 a1, .int .i64 ((rd_T40 l3 x11_2).f1), .bool (((rd_T40 l3 x11_2).f0) == 2)] (by rfl) rfl rfl (by (try simp only [List.map_toArray, List.map_cons, List.map_nil]); first | done | rfl | (simp only [List.length_drop, List.length_take]; rfl)) ?_
                                                with_reducible refine (usufructref10_Done.calls x394000_2 x394001_2 x394002_2 x394003_2 a0 a1 ((rd_T40 l3 x11_2).f1) (((rd_T40 l3 x11_2).f0) == 2) t437 t438 t439 t440 _ A72.out).mono ?_
                                                rintro e w75 ⟨rfl, hb⟩
                                                refine ⟨_, rfl, ?_⟩
                                                have n0_ := Aside0.mk (blk_below (g := gb393) (o := .cells #[.bool x394000_2, .int .i64 x394001_2, .int .i64 x394002_2, .int .i64 x394003_2] 38 (0, 0)) (by (with_reducible repeat (first | refine blk_drewN ?_ _ | refine blk_drew ?_ | refine blk_alloc ?_ _)); exact BK393.out) hb)
                                                have n1_ := Aside0.mk (IsS57.below (by repeat (first | (with_reducible first | exact HI392.out | apply IsS57.alloc | apply IsS57.drewN | apply IsS57.drew | apply IsS57.set_0 | apply IsS57.set_1 | apply IsS57.set_2 | apply IsS57.set_3 | apply IsS57.set_4 | apply IsS57.set_5 | apply IsS57.set_6 | refine IsS57.far ?_ NB392_393.out _) | exact HI392.out)) hb)
                                                have n2_ := Aside0.mk (below_step (by repeat (first | (with_reducible first | exact HB.out | apply below_alloc | apply pw_below_drewN | apply below_drew1 | refine below_set ?_ (IsS57.ge HI392.out) | refine below_set ?_ GE393.out) | exact HB.out)) hb)
                                                clear BK393
                                                clear HI392
                                                clear HB
                                                have BK393 := n0_
                                                have HI392 := n1_
                                                have HB := n2_
                                                clear n0_ n1_ n2_
                                                (try clear hb); (try clear hb2); (try clear hk); (try clear hi)
                                                refine hK.out _ _ ⟨(blk_cell BK393.out 0).trans rfl, (blk_cell BK393.out 1).trans rfl, (blk_cell BK393.out 2).trans rfl, (blk_cell BK393.out 3).trans rfl, ((HB.out.cell (World.block_lt_of_cell? w _ hw436_0)).trans hw436_0), ((HB.out.cell (World.block_lt_of_cell? w _ hw436_1)).trans hw436_1)⟩ (fun hHeld => ?_)
                                                clear hK K
                                                refine norm_ (a' := ?_) ?_ ?_
                                                rotate_left
                                                · show Act.put _ (some 122) _ = _
                                                  simp only [Act.put, sa_, sz_, ss_, i64_w, i32_w]
                                                  rfl
                                                refine last_ (i := 11) (N := none) (b_ 12 4095) rfl rfl (one_of HT_.out (by kernel_rfl)) (by decide) (fun K hK => ?_)
                                                have hs76 : w75.cell? ⟨gb393, 0, none⟩ = some (.bool x394000_2) := (blk_cell BK393.out 0).trans rfl
                                                have hfs76 := blk_frozen BK393.out 0
                                                have hs77 : w75.cell? ⟨gb393, 1, none⟩ = some (.int .i64 x394001_2) := (blk_cell BK393.out 1).trans rfl
                                                have hfs77 := blk_frozen BK393.out 1
                                                have hs78 : w75.cell? ⟨gb393, 2, none⟩ = some (.int .i64 x394002_2) := (blk_cell BK393.out 2).trans rfl
                                                have hfs78 := blk_frozen BK393.out 2
                                                have hs79 : w75.cell? ⟨gb393, 3, none⟩ = some (.int .i64 x394003_2) := (blk_cell BK393.out 3).trans rfl
                                                have hfs79 := blk_frozen BK393.out 3
                                                refine skip_ (w1 := ?_) (by rfl) rfl ?_ ?_
                                                rotate_left
                                                · go_simp
                                                  rfl
                                                refine hK.out _ _ ?_
                                                clear hK K
                                                refine done_ (done_of HT_.out (by kernel_rfl)) ?_
                                                try go_wp2
                                                go_meet
                                                case rel => exact ⟨_, (t429), (t430), (t431), (t432), (t433), (t434), (t435), (t437), (t438), (t439), (t440), H', ⟨by have := HJ9.out; have := HK2.out; have := HJ23.out; have := HJ41.out; have := HJ65.out; first | omega | exact Nat.le_refl _⟩, ⟨by (with_reducible repeat (first | refine blk_drewN ?_ _ | refine blk_drew ?_ | refine blk_alloc ?_ _)); refine blk_put (cs := #[.bool t437, .int .i64 t438, .int .i64 t439, .int .i64 x394003_2]) ?_ 3 _ rfl; (with_reducible repeat (first | refine blk_drewN ?_ _ | refine blk_drew ?_ | refine blk_alloc ?_ _)); refine blk_put (cs := #[.bool t437, .int .i64 t438, .int .i64 x394002_2, .int .i64 x394003_2]) ?_ 2 _ rfl; (with_reducible repeat (first | refine blk_drewN ?_ _ | refine blk_drew ?_ | refine blk_alloc ?_ _)); refine blk_put (cs := #[.bool t437, .int .i64 x394001_2, .int .i64 x394002_2, .int .i64 x394003_2]) ?_ 1 _ rfl; (with_reducible repeat (first | refine blk_drewN ?_ _ | refine blk_drew ?_ | refine blk_alloc ?_ _)); refine blk_put (cs := #[.bool x394000_2, .int .i64 x394001_2, .int .i64 x394002_2, .int .i64 x394003_2]) ?_ 0 _ rfl; (with_reducible repeat (first | refine blk_drewN ?_ _ | refine blk_drew ?_ | refine blk_alloc ?_ _)); exact BK393.out⟩, ⟨by repeat (first | (with_reducible first | exact HI392.out | apply IsS57.alloc | apply IsS57.drewN | apply IsS57.drew | apply IsS57.set_0 | apply IsS57.set_1 | apply IsS57.set_2 | apply IsS57.set_3 | apply IsS57.set_4 | apply IsS57.set_5 | apply IsS57.set_6 | refine IsS57.far ?_ NB392_393.out _) | exact HI392.out)⟩, ⟨by repeat (first | (with_reducible first | exact HB.out | apply below_alloc | apply pw_below_drewN | apply below_drew1 | refine below_set ?_ (IsS57.ge HI392.out) | refine below_set ?_ GE393.out) | exact HB.out)⟩⟩
                                              · rw [if_neg c70] at H
                                                exact absurd H (by simp)
                                            · rw [if_neg c69] at H
                                              exact absurd H (by simp)
                                          · replace c68 := Bool.eq_false_iff.mpr c68
                                            subst c68
                                            have H1 : (if ((rd_T40 l3 x11_2).f0) = 4 then ((breaker_Breaker_Lost.f x393000_23 x393001_23 x393002_23 x393003_23 x393004_23 x393005_23 x393006_23 ((rd_T40 l3 x11_2).f1)).bind fun bt441 => ((usufructref10_Lost.f x394000_2 x394001_2 x394002_2 x394003_2 ((rd_T40 l3 x11_2).f1)).bind fun bt448 => (usufructlaw10_BreakerPlays.j5 kj65 a0 a1 a2 l3 x11_2 ((rd_T40 l3 x11_2).f1) bt441.1 bt441.2.1 bt441.2.2.1 bt441.2.2.2.1 bt441.2.2.2.2.1 bt441.2.2.2.2.2.1 bt441.2.2.2.2.2.2 bt448.1 bt448.2.1 bt448.2.2.1 bt448.2.2.2))) else (usufructlaw10_BreakerPlays.j5 kj65 a0 a1 a2 l3 x11_2 ((rd_T40 l3 x11_2).f1) x393000_23 x393001_23 x393002_23 x393003_23 x393004_23 x393005_23 x393006_23 x394000_2 x394001_2 x394002_2 x394003_2)) = some r := by rw [if_neg (show ¬ (false = true) by decide)] at H; exact H
                                            clear H
                                            have H := H1
                                            clear H1
                                            by_cases c80 : ((rd_T40 l3 x11_2).f0) = 4
                                            · rw [if_pos c80] at H
                                              have c80b0 : (((rd_T40 l3 x11_2).f0) == 4) = true := beq_iff_eq.mpr c80
                                              have c80b1 : (((rd_T40 l3 x11_2).f0) != 4) = false := bne_eq_false_iff_eq.mpr c80
                                              clear c80
                                              replace H := Option.bind_eq_some_iff.mp H
                                              obtain ⟨⟨t441, t442, t443, t444, t445, t446, t447⟩, A810, H⟩ := H
                                              replace H : ((usufructref10_Lost.f x394000_2 x394001_2 x394002_2 x394003_2 ((rd_T40 l3 x11_2).f1)).bind fun bt448 => (usufructlaw10_BreakerPlays.j5 kj65 a0 a1 a2 l3 x11_2 ((rd_T40 l3 x11_2).f1) t441 t442 t443 t444 t445 t446 t447 bt448.1 bt448.2.1 bt448.2.2.1 bt448.2.2.2)) = some r := H
                                              have A81 := Aside0.mk A810
                                              clear A810
                                              replace H := Option.bind_eq_some_iff.mp H
                                              obtain ⟨⟨t448, t449, t450, t451⟩, A820, H⟩ := H
                                              replace H : (usufructlaw10_BreakerPlays.j5 kj65 a0 a1 a2 l3 x11_2 ((rd_T40 l3 x11_2).f1) t441 t442 t443 t444 t445 t446 t447 t448 t449 t450 t451) = some r := H
                                              have A82 := Aside0.mk A820
                                              clear A820
                                              have H' := Aside0.mk H
                                              clear H
                                              go_wp2_with (first | ((with_reducible refine gate_callee (f := 36) rfl ?_); refine goesL_ (some 127) rfl rfl Try.func36 (by kernel_rfl) rfl #[.pointer (some ⟨g392, 0, none⟩), .int .i64 ((rd_T40 l3 x11_2).f1)] rfl (by (try simp only [List.map_toArray, List.map_cons, List.map_nil]); first | done | rfl | (simp only [List.length_drop, List.length_take]; rfl)) ?_; (with_reducible refine (breaker_Breaker_Lost.calls g392 x393000_23 x393001_23 x393002_23 x393003_23 x393004_23 x393005_23 x393006_23 ((rd_T40 l3 x11_2).f1) t441 t442 t443 t444 t445 t446 t447 w _ ?side1 ?side2 A81.out).mono ?_); (case side1 => repeat (first | (with_reducible first | exact HI392.out | apply IsS57.alloc | apply IsS57.drewN | apply IsS57.drew | apply IsS57.set_0 | apply IsS57.set_1 | apply IsS57.set_2 | apply IsS57.set_3 | apply IsS57.set_4 | apply IsS57.set_5 | apply IsS57.set_6 | refine IsS57.far ?_ NB392_393.out _) | exact HI392.out)); (case side2 => repeat (first | (with_reducible first | exact HB.out | apply below_alloc | apply pw_below_drewN | apply below_drew1 | refine below_set ?_ (IsS57.ge HI392.out) | refine below_set ?_ GE393.out) | exact HB.out)); rintro e w83 ⟨rfl, hi, hb, hk⟩; refine ⟨_, rfl, ?_⟩; have n0_ := Aside0.mk (KeepBut.blk hk (g' := gb393) (o := .cells #[.bool x394000_2, .int .i64 x394001_2, .int .i64 x394002_2, .int .i64 x394003_2] 38 (0, 0)) (by (with_reducible repeat (first | refine blk_drewN ?_ _ | refine blk_drew ?_ | refine blk_alloc ?_ _)); exact BK393.out) NB393_392.out (by simp)); have n1_ := Aside0.mk (hb); have n2_ := Aside0.mk (hi); clear BK393; clear HB; clear HI392; have BK393 := n0_; have HB := n1_; have HI392 := n2_; clear n0_ n1_ n2_; (try clear hb); (try clear hb2); (try clear hk); (try clear hi); have hnb84 := NB393_392.out; have hnc84 := NB392_393.out; have hcz85_0 : w83.cell? ⟨gb393, 0, none⟩ = some (.bool x394000_2) := (blk_cell BK393.out 0).trans rfl; have hcz85_1 : w83.cell? ⟨gb393, 1, none⟩ = some (.int .i64 x394001_2) := (blk_cell BK393.out 1).trans rfl; have hcz85_2 : w83.cell? ⟨gb393, 2, none⟩ = some (.int .i64 x394002_2) := (blk_cell BK393.out 2).trans rfl; have hcz85_3 : w83.cell? ⟨gb393, 3, none⟩ = some (.int .i64 x394003_2) := (blk_cell BK393.out 3).trans rfl; have hfz85_0 := blk_frozen BK393.out 0; have hfz85_1 := blk_frozen BK393.out 1; have hfz85_2 := blk_frozen BK393.out 2; have hfz85_3 := blk_frozen BK393.out 3) | ((with_reducible refine gate_callee (f := 37) rfl ?_); refine goesL_ (some 130) rfl rfl Try.func37 (by kernel_rfl) rfl #[.agg #[.bool x394000_2, .int .i64 x394001_2, .int .i64 x394002_2, .int .i64 x394003_2], .int .i64 ((rd_T40 l3 x11_2).f1)] rfl (by (try simp only [List.map_toArray, List.map_cons, List.map_nil]); first | done | rfl | (simp only [List.length_drop, List.length_take]; rfl)) ?_; (with_reducible refine (usufructref10_Lost.calls x394000_2 x394001_2 x394002_2 x394003_2 ((rd_T40 l3 x11_2).f1) t448 t449 t450 t451 _ A82.out).mono ?_); rintro e w86 ⟨rfl, hb⟩; refine ⟨_, rfl, ?_⟩; have n0_ := Aside0.mk (blk_below (g := gb393) (o := .cells #[.bool x394000_2, .int .i64 x394001_2, .int .i64 x394002_2, .int .i64 x394003_2] 38 (0, 0)) (by (with_reducible repeat (first | refine blk_drewN ?_ _ | refine blk_drew ?_ | refine blk_alloc ?_ _)); exact BK393.out) hb); have n1_ := Aside0.mk (IsS57.below (by repeat (first | (with_reducible first | exact HI392.out | apply IsS57.alloc | apply IsS57.drewN | apply IsS57.drew | apply IsS57.set_0 | apply IsS57.set_1 | apply IsS57.set_2 | apply IsS57.set_3 | apply IsS57.set_4 | apply IsS57.set_5 | apply IsS57.set_6 | refine IsS57.far ?_ NB392_393.out _) | exact HI392.out)) hb); have n2_ := Aside0.mk (below_step (by repeat (first | (with_reducible first | exact HB.out | apply below_alloc | apply pw_below_drewN | apply below_drew1 | refine below_set ?_ (IsS57.ge HI392.out) | refine below_set ?_ GE393.out) | exact HB.out)) hb); clear BK393; clear HI392; clear HB; have BK393 := n0_; have HI392 := n1_; have HB := n2_; clear n0_ n1_ n2_; (try clear hb); (try clear hb2); (try clear hk); (try clear hi); have hcz87_0 : w86.cell? ⟨gb393, 0, none⟩ = some (.bool x394000_2) := (blk_cell BK393.out 0).trans rfl; have hcz87_1 : w86.cell? ⟨gb393, 1, none⟩ = some (.int .i64 x394001_2) := (blk_cell BK393.out 1).trans rfl; have hcz87_2 : w86.cell? ⟨gb393, 2, none⟩ = some (.int .i64 x394002_2) := (blk_cell BK393.out 2).trans rfl; have hcz87_3 : w86.cell? ⟨gb393, 3, none⟩ = some (.int .i64 x394003_2) := (blk_cell BK393.out 3).trans rfl; have hfz87_0 := blk_frozen BK393.out 0; have hfz87_1 := blk_frozen BK393.out 1; have hfz87_2 := blk_frozen BK393.out 2; have hfz87_3 := blk_frozen BK393.out 3))
                                              go_meet
                                              case rel => exact ⟨_, (t441), (t442), (t443), (t444), (t445), (t446), (t447), (t448), (t449), (t450), (t451), H', ⟨by have := HJ9.out; have := HK2.out; have := HJ23.out; have := HJ41.out; have := HJ65.out; first | omega | exact Nat.le_refl _⟩, ⟨by (with_reducible repeat (first | refine blk_drewN ?_ _ | refine blk_drew ?_ | refine blk_alloc ?_ _)); refine blk_put (cs := #[.bool t448, .int .i64 t449, .int .i64 t450, .int .i64 x394003_2]) ?_ 3 _ rfl; (with_reducible repeat (first | refine blk_drewN ?_ _ | refine blk_drew ?_ | refine blk_alloc ?_ _)); refine blk_put (cs := #[.bool t448, .int .i64 t449, .int .i64 x394002_2, .int .i64 x394003_2]) ?_ 2 _ rfl; (with_reducible repeat (first | refine blk_drewN ?_ _ | refine blk_drew ?_ | refine blk_alloc ?_ _)); refine blk_put (cs := #[.bool t448, .int .i64 x394001_2, .int .i64 x394002_2, .int .i64 x394003_2]) ?_ 1 _ rfl; (with_reducible repeat (first | refine blk_drewN ?_ _ | refine blk_drew ?_ | refine blk_alloc ?_ _)); refine blk_put (cs := #[.bool x394000_2, .int .i64 x394001_2, .int .i64 x394002_2, .int .i64 x394003_2]) ?_ 0 _ rfl; (with_reducible repeat (first | refine blk_drewN ?_ _ | refine blk_drew ?_ | refine blk_alloc ?_ _)); exact BK393.out⟩, ⟨by repeat (first | (with_reducible first | exact HI392.out | apply IsS57.alloc | apply IsS57.drewN | apply IsS57.drew | apply IsS57.set_0 | apply IsS57.set_1 | apply IsS57.set_2 | apply IsS57.set_3 | apply IsS57.set_4 | apply IsS57.set_5 | apply IsS57.set_6 | refine IsS57.far ?_ NB392_393.out _) | exact HI392.out)⟩, ⟨by repeat (first | (with_reducible first | exact HB.out | apply below_alloc | apply pw_below_drewN | apply below_drew1 | refine below_set ?_ (IsS57.ge HI392.out) | refine below_set ?_ GE393.out) | exact HB.out)⟩⟩
                                            · rw [if_neg c80] at H
                                              have c80b0 : (((rd_T40 l3 x11_2).f0) == 4) = false := beq_eq_false_iff_ne.mpr c80
                                              have c80b1 : (((rd_T40 l3 x11_2).f0) != 4) = true := bne_iff_ne.mpr c80
                                              have H' := Aside0.mk H
                                              clear H
                                              go_wp2
                                              go_meet
                                              case rel => exact ⟨_, (x393000_23), (x393001_23), (x393002_23), (x393003_23), (x393004_23), (x393005_23), (x393006_23), (x394000_2), (x394001_2), (x394002_2), (x394003_2), H', ⟨by have := HJ9.out; have := HK2.out; have := HJ23.out; have := HJ41.out; have := HJ65.out; first | omega | exact Nat.le_refl _⟩, ⟨by (with_reducible repeat (first | refine blk_drewN ?_ _ | refine blk_drew ?_ | refine blk_alloc ?_ _)); exact BK393.out⟩, ⟨by repeat (first | (with_reducible first | exact HI392.out | apply IsS57.alloc | apply IsS57.drewN | apply IsS57.drew | apply IsS57.set_0 | apply IsS57.set_1 | apply IsS57.set_2 | apply IsS57.set_3 | apply IsS57.set_4 | apply IsS57.set_5 | apply IsS57.set_6 | refine IsS57.far ?_ NB392_393.out _) | exact HI392.out)⟩, ⟨by repeat (first | (with_reducible first | exact HB.out | apply below_alloc | apply pw_below_drewN | apply below_drew1 | refine below_set ?_ (IsS57.ge HI392.out) | refine below_set ?_ GE393.out) | exact HB.out)⟩⟩
                              case rest =>
                                clear HC41
                                try clear c1
                                try clear c2
                                try clear p2
                                try clear c3
                                try clear p3
                                try clear q3
                                try clear hx3
                                try clear c4
                                try clear p4
                                try clear q4
                                try clear hx4
                                try clear c5
                                try clear c6
                                try clear c7
                                try clear c7b0
                                try clear c7b1
                                try clear c8
                                try clear c13
                                try clear c13b0
                                try clear c14
                                try clear c14b0
                                try clear c15
                                try clear c15b0
                                try clear c16
                                try clear c16b0
                                try clear c17
                                try clear c17b0
                                try clear c18
                                try clear c20
                                try clear c22
                                try clear c22b0
                                try clear c23
                                try clear c23b0
                                try clear c27
                                try clear c27b0
                                try clear c27b1
                                try clear c28
                                try clear c30
                                try clear c31
                                try clear c32
                                try clear c33
                                try clear c34
                                try clear c35
                                try clear c36
                                try clear c37
                                try clear c38
                                try clear c39
                                try clear c39b0
                                try clear p39
                                try clear q39
                                try clear hx39
                                try clear c40
                                try clear c40b0
                                try clear p41
                                try clear q41
                                try clear hx41
                                try clear p42
                                try clear q42
                                try clear hx42
                                try clear c43
                                try clear c43b0
                                try clear c43b1
                                try clear p43
                                try clear q43
                                try clear hx43
                                try clear c44
                                try clear c47
                                try clear c47b0
                                try clear c47b1
                                try clear c47b2
                                try clear c48
                                try clear c52
                                try clear c53
                                try clear c57
                                try clear c61
                                try clear c62
                                try clear c67
                                try clear c67b0
                                try clear c67b1
                                try clear c68
                                try clear c69
                                try clear c69b0
                                try clear c70
                                try clear c70b0
                                try clear c80
                                try clear c80b0
                                try clear c80b1
                                try clear c84
                                try clear hcz21_0
                                try clear hcz21_1
                                try clear hcz21_2
                                try clear hcz21_3
                                try clear hcz49_0
                                try clear hcz49_1
                                try clear hcz49_2
                                try clear hcz49_3
                                try clear hcz54_0
                                try clear hcz54_1
                                try clear hcz54_2
                                try clear hcz54_3
                                try clear hcz55_0
                                try clear hcz55_1
                                try clear hcz55_2
                                try clear hcz55_3
                                try clear hcz58_0
                                try clear hcz58_1
                                try clear hcz58_2
                                try clear hcz58_3
                                try clear hcz63_0
                                try clear hcz63_1
                                try clear hcz63_2
                                try clear hcz63_3
                                try clear hcz64_0
                                try clear hcz64_1
                                try clear hcz64_2
                                try clear hcz64_3
                                try clear hcz85_0
                                try clear hcz85_1
                                try clear hcz85_2
                                try clear hcz85_3
                                try clear hcz87_0
                                try clear hcz87_1
                                try clear hcz87_2
                                try clear hcz87_3
                                try clear hfz21_0
                                try clear hfz21_1
                                try clear hfz21_2
                                try clear hfz21_3
                                try clear hfz49_0
                                try clear hfz49_1
                                try clear hfz49_2
                                try clear hfz49_3
                                try clear hfz54_0
                                try clear hfz54_1
                                try clear hfz54_2
                                try clear hfz54_3
                                try clear hfz55_0
                                try clear hfz55_1
                                try clear hfz55_2
                                try clear hfz55_3
                                try clear hfz58_0
                                try clear hfz58_1
                                try clear hfz58_2
                                try clear hfz58_3
                                try clear hfz63_0
                                try clear hfz63_1
                                try clear hfz63_2
                                try clear hfz63_3
                                try clear hfz64_0
                                try clear hfz64_1
                                try clear hfz64_2
                                try clear hfz64_3
                                try clear hfz85_0
                                try clear hfz85_1
                                try clear hfz85_2
                                try clear hfz85_3
                                try clear hfz87_0
                                try clear hfz87_1
                                try clear hfz87_2
                                try clear hfz87_3
                                try clear hx394_0
                                try clear hx394_1
                                try clear hx413_0
                                try clear hx413_1
                                try clear hx428_0
                                try clear hx428_1
                                try clear hx436_0
                                try clear hx436_1
                                try clear p2
                                try clear p3
                                try clear p39
                                try clear p394
                                try clear p4
                                try clear p41
                                try clear p413
                                try clear p428
                                try clear p436
                                try clear q3
                                try clear q39
                                try clear q394
                                try clear q4
                                try clear q41
                                try clear q413
                                try clear q428
                                try clear q436
                                obtain ⟨kq, x393000_40, x393001_40, x393002_40, x393003_40, x393004_40, x393005_40, x393006_40, x394000_40, x394001_40, x394002_40, x394003_40, HA, HJ40, BK393, HI392, HB⟩ := hcut
                                cases kq with
                                | zero => exact absurd HA.out (by simp [usufructlaw10_BreakerPlays.j5])
                                | succ kj40 =>
                                  have H := HA.out
                                  clear HA
                                  simp only [usufructlaw10_BreakerPlays.j5] at H
                                  replace H := Option.bind_eq_some_iff.mp H
                                  obtain ⟨⟨t452, t453, t454, t455, t456, t457, t458, t459⟩, A880, H⟩ := H
                                  replace H : ((usufructref10_Kind.f x394000_40 x394001_40 x394002_40 x394003_40 ((rd_T40 l3 x11_2).f1)).bind fun t460 => (if t452 = t460 then ((breaker_Breaker_Until.f t453 t454 t455 t456 t457 t458 t459).bind fun bt461 => (if bt461.1 = x394002_40 then ((breaker_Breaker_Out.f bt461.2.1 bt461.2.2.1 bt461.2.2.2.1 bt461.2.2.2.2.1 bt461.2.2.2.2.2.1 bt461.2.2.2.2.2.2.1 bt461.2.2.2.2.2.2.2).bind fun bt469 => (if bt469.1 = x394003_40 then (usufructlaw10_BreakerPlays.l0 kj40 a0 a1 a2 l3 (wrap64 (x11_2 + 1)) bt469.2.1 bt469.2.2.1 bt469.2.2.2.1 bt469.2.2.2.2.1 bt469.2.2.2.2.2.1 bt469.2.2.2.2.2.2.1 bt469.2.2.2.2.2.2.2 x394000_40 x394001_40 x394002_40 x394003_40) else (some false))) else (some false))) else (some false))) = some r := H
                                  have A88 := Aside0.mk A880
                                  clear A880
                                  replace H := Option.bind_eq_some_iff.mp H
                                  obtain ⟨t460, A890, H⟩ := H
                                  replace H : (if t452 = t460 then ((breaker_Breaker_Until.f t453 t454 t455 t456 t457 t458 t459).bind fun bt461 => (if bt461.1 = x394002_40 then ((breaker_Breaker_Out.f bt461.2.1 bt461.2.2.1 bt461.2.2.2.1 bt461.2.2.2.2.1 bt461.2.2.2.2.2.1 bt461.2.2.2.2.2.2.1 bt461.2.2.2.2.2.2.2).bind fun bt469 => (if bt469.1 = x394003_40 then (usufructlaw10_BreakerPlays.l0 kj40 a0 a1 a2 l3 (wrap64 (x11_2 + 1)) bt469.2.1 bt469.2.2.1 bt469.2.2.2.1 bt469.2.2.2.2.1 bt469.2.2.2.2.2.1 bt469.2.2.2.2.2.2.1 bt469.2.2.2.2.2.2.2 x394000_40 x394001_40 x394002_40 x394003_40) else (some false))) else (some false))) else (some false)) = some r := H
                                  have A89 := Aside0.mk A890
                                  clear A890
                                  by_cases c90 : t452 = t460
                                  · rw [if_pos c90] at H
                                    have c90b0 : (t452 == t460) = true := beq_iff_eq.mpr c90
                                    have c90b1 : (t452 != t460) = false := bne_eq_false_iff_eq.mpr c90
                                    clear c90
                                    replace H := Option.bind_eq_some_iff.mp H
                                    obtain ⟨⟨t461, t462, t463, t464, t465, t466, t467, t468⟩, A910, H⟩ := H
                                    replace H : (if t461 = x394002_40 then ((breaker_Breaker_Out.f t462 t463 t464 t465 t466 t467 t468).bind fun bt469 => (if bt469.1 = x394003_40 then (usufructlaw10_BreakerPlays.l0 kj40 a0 a1 a2 l3 (wrap64 (x11_2 + 1)) bt469.2.1 bt469.2.2.1 bt469.2.2.2.1 bt469.2.2.2.2.1 bt469.2.2.2.2.2.1 bt469.2.2.2.2.2.2.1 bt469.2.2.2.2.2.2.2 x394000_40 x394001_40 x394002_40 x394003_40) else (some false))) else (some false)) = some r := H
                                    have A91 := Aside0.mk A910
                                    clear A910
                                    by_cases c92 : t461 = x394002_40
                                    · rw [if_pos c92] at H
                                      have c92b0 : (t461 == x394002_40) = true := beq_iff_eq.mpr c92
                                      have c92b1 : (t461 != x394002_40) = false := bne_eq_false_iff_eq.mpr c92
                                      clear c92
                                      replace H := Option.bind_eq_some_iff.mp H
                                      obtain ⟨⟨t469, t470, t471, t472, t473, t474, t475, t476⟩, A930, H⟩ := H
                                      replace H : (if t469 = x394003_40 then (usufructlaw10_BreakerPlays.l0 kj40 a0 a1 a2 l3 (wrap64 (x11_2 + 1)) t470 t471 t472 t473 t474 t475 t476 x394000_40 x394001_40 x394002_40 x394003_40) else (some false)) = some r := H
                                      have A93 := Aside0.mk A930
                                      clear A930
                                      by_cases c94 : t469 = x394003_40
                                      · rw [if_pos c94] at H
                                        have c94b0 : (t469 == x394003_40) = true := beq_iff_eq.mpr c94
                                        have c94b1 : (t469 != x394003_40) = false := bne_eq_false_iff_eq.mpr c94
                                        clear c94
                                        have H' := Aside0.mk H
                                        clear H
                                        try go_wp2
                                        have n0_ := Aside0.mk (blk_drew BK393.out)
                                        have n1_ := Aside0.mk (IsS57.drew HI392.out)
                                        have n2_ := Aside0.mk (below_drew1 HB.out)
                                        clear BK393
                                        clear HI392
                                        clear HB
                                        have BK393 := n0_
                                        have HI392 := n1_
                                        have HB := n2_
                                        clear n0_ n1_ n2_
                                        refine start_ (n := 21) (S := fun w' => w'.cell? ⟨gb393, 0, none⟩ = some (.bool x394000_40) ∧ w'.cell? ⟨gb393, 1, none⟩ = some (.int .i64 x394001_40) ∧ w'.cell? ⟨gb393, 2, none⟩ = some (.int .i64 x394002_40) ∧ w'.cell? ⟨gb393, 3, none⟩ = some (.int .i64 x394003_40)) (ds := []) #[false, false, false, false, false, false, false, false, false, false, false, false, false, false, false, false, false, false, false, false, false] (by kernel_rfl) rfl rfl ⟨(blk_cell BK393.out 0).trans rfl, (blk_cell BK393.out 1).trans rfl, (blk_cell BK393.out 2).trans rfl, (blk_cell BK393.out 3).trans rfl⟩ (fun hHeld => ?_); refine with_tabW usufructlaw10_BreakerPlays.tab31 usufructlaw10_BreakerPlays.bits31 (fun HT_ HW_ => ?_)
                                        generalize wc.drew = w95 at BK393 HI392 HB hHeld ⊢
                                        refine pure_ (i := 0) (N := some 131) (v := ?_) (a' := ?_) (b_ 21 1) rfl rfl (any_of HT_.out (by kernel_rfl)) (fun _ _ _ h => h) (Or.inl ⟨by rfl, ?_⟩) ?_ ?_; rotate_left; (· intro w'; go_simp; with_reducible rfl); rotate_left; (· simp only [Act.put, sa_, sz_, ss_, i64_w, i32_w]; rfl)
                                        refine pure_ (i := 1) (N := some 132) (v := ?_) (a' := ?_) (b_ 21 3) rfl rfl (any_of HT_.out (by kernel_rfl)) (fun _ _ _ h => h) (Or.inl ⟨by rfl, ?_⟩) ?_ ?_; rotate_left; (· intro w'; go_simp; with_reducible rfl); rotate_left; (· simp only [Act.put, sa_, sz_, ss_, i64_w, i32_w]; rfl)
                                        refine pure_ (i := 4) (N := some 135) (v := ?_) (a' := ?_) (b_ 21 19) rfl rfl (any_of HT_.out (by kernel_rfl)) (fun _ _ _ h => h) (Or.inl ⟨by rfl, ?_⟩) ?_ ?_; rotate_left; (· intro w'; go_simp; with_reducible rfl); rotate_left; (· simp only [Act.put, sa_, sz_, ss_, i64_w, i32_w]; rfl)
                                        refine take_ (i := 3) (N := some 134) (v := ?_) (a' := ?_) (b_ 21 27) rfl rfl (take_ofW HT_.out HW_.out (by kernel_rfl)) (fun _ _ _ h => h) (Or.inl ⟨by rfl, ?_⟩) hHeld ?_ ?_
                                        rotate_left
                                        · rintro w' ⟨s0, s1, s2, s3⟩
                                          go_simp
                                          with_reducible rfl
                                        rotate_left
                                        · simp only [Act.put, sa_, sz_, ss_, i64_w, i32_w]
                                          rfl
                                        refine one_ (i := 2) (N := some 133) (b_ 21 31) rfl rfl (one_of HT_.out (by kernel_rfl)) (by decide) (fun K hK => ?_)
                                        refine goes_ Try.func27 (by kernel_rfl) rfl #[.pointer (some ⟨g392, 0, none⟩), .int .i64 ((rd_T40 l3 x11_2).f1)] (by rfl) rfl rfl (by (try simp only [List.map_toArray, List.map_cons, List.map_nil]); first | done | rfl | (simp only [List.length_drop, List.length_take]; rfl)) ?_
                                        with_reducible refine (breaker_Breaker_State.calls g392 x393000_40 x393001_40 x393002_40 x393003_40 x393004_40 x393005_40 x393006_40 ((rd_T40 l3 x11_2).f1) t452 t453 t454 t455 t456 t457 t458 t459 w _ ?side1 ?side2 A88.out).mono ?_
                                        (case side1 => repeat (first | (with_reducible first | exact HI392.out | apply IsS57.alloc | apply IsS57.drewN | apply IsS57.drew | apply IsS57.set_0 | apply IsS57.set_1 | apply IsS57.set_2 | apply IsS57.set_3 | apply IsS57.set_4 | apply IsS57.set_5 | apply IsS57.set_6 | refine IsS57.far ?_ NB392_393.out _) | exact HI392.out))
                                        (case side2 => repeat (first | (with_reducible first | exact HB.out | apply below_alloc | apply pw_below_drewN | apply below_drew1 | refine below_set ?_ (IsS57.ge HI392.out) | refine below_set ?_ GE393.out) | exact HB.out))
                                        rintro e w96 ⟨rfl, hi, hb, hk⟩
                                        refine ⟨_, rfl, ?_⟩
                                        have n0_ := Aside0.mk (KeepBut.blk hk (g' := gb393) (o := .cells #[.bool x394000_40, .int .i64 x394001_40, .int .i64 x394002_40, .int .i64 x394003_40] 38 (0, 0)) (by (with_reducible repeat (first | refine blk_drewN ?_ _ | refine blk_drew ?_ | refine blk_alloc ?_ _)); exact BK393.out) NB393_392.out (by simp))
                                        have n1_ := Aside0.mk (hb)
                                        have n2_ := Aside0.mk (hi)
                                        clear BK393
                                        clear HB
                                        clear HI392
                                        have BK393 := n0_
                                        have HB := n1_
                                        have HI392 := n2_
                                        clear n0_ n1_ n2_
                                        (try clear hb); (try clear hb2); (try clear hk); (try clear hi)
                                        refine hK.out _ _ ⟨(blk_cell BK393.out 0).trans rfl, (blk_cell BK393.out 1).trans rfl, (blk_cell BK393.out 2).trans rfl, (blk_cell BK393.out 3).trans rfl⟩ (fun hHeld => ?_)
                                        clear hK K
                                        refine norm_ (a' := ?_) ?_ ?_
                                        rotate_left
                                        · show Act.put _ (some 133) _ = _
                                          simp only [Act.put, sa_, sz_, ss_, i64_w, i32_w]
                                          rfl
                                        refine one_ (i := 5) (N := some 136) (b_ 21 63) rfl rfl (one_of HT_.out (by kernel_rfl)) (by decide) (fun K hK => ?_)
                                        refine goes_ Try.func31 (by kernel_rfl) rfl #[.agg #[.bool x394000_40, .int .i64 x394001_40, .int .i64 x394002_40, .int .i64 x394003_40], .int .i64 ((rd_T40 l3 x11_2).f1)] (by rfl) rfl rfl (by (try simp only [List.map_toArray, List.map_cons, List.map_nil]); first | done | rfl | (simp only [List.length_drop, List.length_take]; rfl)) ?_
                                        with_reducible refine (usufructref10_Kind.calls x394000_40 x394001_40 x394002_40 x394003_40 ((rd_T40 l3 x11_2).f1) t460 _ A89.out).mono ?_
                                        rintro e w97 ⟨rfl, hb⟩
                                        refine ⟨_, rfl, ?_⟩
                                        have n0_ := Aside0.mk (blk_below (g := gb393) (o := .cells #[.bool x394000_40, .int .i64 x394001_40, .int .i64 x394002_40, .int .i64 x394003_40] 38 (0, 0)) (by (with_reducible repeat (first | refine blk_drewN ?_ _ | refine blk_drew ?_ | refine blk_alloc ?_ _)); exact BK393.out) hb)
                                        have n1_ := Aside0.mk (IsS57.below (by repeat (first | (with_reducible first | exact HI392.out | apply IsS57.alloc | apply IsS57.drewN | apply IsS57.drew | apply IsS57.set_0 | apply IsS57.set_1 | apply IsS57.set_2 | apply IsS57.set_3 | apply IsS57.set_4 | apply IsS57.set_5 | apply IsS57.set_6 | refine IsS57.far ?_ NB392_393.out _) | exact HI392.out)) hb)
                                        have n2_ := Aside0.mk (below_step (by repeat (first | (with_reducible first | exact HB.out | apply below_alloc | apply pw_below_drewN | apply below_drew1 | refine below_set ?_ (IsS57.ge HI392.out) | refine below_set ?_ GE393.out) | exact HB.out)) hb)
                                        clear BK393
                                        clear HI392
                                        clear HB
                                        have BK393 := n0_
                                        have HI392 := n1_
                                        have HB := n2_
                                        clear n0_ n1_ n2_
                                        (try clear hb); (try clear hb2); (try clear hk); (try clear hi)
                                        refine hK.out _ _ ⟨(blk_cell BK393.out 0).trans rfl, (blk_cell BK393.out 1).trans rfl, (blk_cell BK393.out 2).trans rfl, (blk_cell BK393.out 3).trans rfl⟩ (fun hHeld => ?_)
                                        clear hK K
                                        refine norm_ (a' := ?_) ?_ ?_
                                        rotate_left
                                        · show Act.put _ (some 136) _ = _
                                          simp only [Act.put, sa_, sz_, ss_, i64_w, i32_w]
                                          rfl
                                        refine pure_ (i := 6) (N := some 137) (v := ?_) (a' := ?_) (b_ 21 127) rfl rfl (any_of HT_.out (by kernel_rfl)) (fun _ _ _ h => h) (Or.inl ⟨by rfl, ?_⟩) ?_ ?_; rotate_left; (· intro w'; go_simp; with_reducible rfl); rotate_left; (· simp only [Act.put, sa_, sz_, ss_, i64_w, i32_w]; rfl)
                                        refine pure_ (i := 7) (N := some 138) (v := ?_) (a' := ?_) (b_ 21 255) rfl rfl (any_of HT_.out (by kernel_rfl)) (fun _ _ _ h => h) (Or.inl ⟨by rfl, ?_⟩) ?_ ?_; rotate_left; (· intro w'; go_simp; with_reducible rfl); rotate_left; (· simp only [Act.put, sa_, sz_, ss_, i64_w, i32_w]; rfl)
                                        refine pure_ (i := 8) (N := some 139) (v := ?_) (a' := ?_) (b_ 21 511) rfl rfl (any_of HT_.out (by kernel_rfl)) (fun _ _ _ h => h) (Or.inl ⟨by rfl, ?_⟩) ?_ ?_; rotate_left; (· intro w'; go_simp; with_reducible rfl); rotate_left; (· simp only [Act.put, sa_, sz_, ss_, i64_w, i32_w]; rfl)
                                        refine pure_ (i := 10) (N := some 141) (v := ?_) (a' := ?_) (b_ 21 1535) rfl rfl (any_of HT_.out (by kernel_rfl)) (fun _ _ _ h => h) (Or.inl ⟨by rfl, ?_⟩) ?_ ?_; rotate_left; (· intro w'; go_simp; with_reducible rfl); rotate_left; (· simp only [Act.put, sa_, sz_, ss_, i64_w, i32_w]; rfl)
                                        refine take_ (i := 11) (N := some 142) (v := ?_) (a' := ?_) (b_ 21 3583) rfl rfl (take_ofW HT_.out HW_.out (by kernel_rfl)) (fun _ _ _ h => h) (Or.inl ⟨by rfl, ?_⟩) hHeld ?_ ?_
                                        rotate_left
                                        · rintro w' ⟨s0, s1, s2, s3⟩
                                          go_simp
                                          with_reducible rfl
                                        rotate_left
                                        · simp only [Act.put, sa_, sz_, ss_, i64_w, i32_w]
                                          rfl
                                        refine one_ (i := 9) (N := some 140) (b_ 21 4095) rfl rfl (one_of HT_.out (by kernel_rfl)) (by decide) (fun K hK => ?_)
                                        refine goes_ Try.func29 (by kernel_rfl) rfl #[.pointer (some ⟨g392, 0, none⟩)] (by rfl) rfl rfl (by (try simp only [List.map_toArray, List.map_cons, List.map_nil]); first | done | rfl | (simp only [List.length_drop, List.length_take]; rfl)) ?_
                                        with_reducible refine (breaker_Breaker_Until.calls g392 t453 t454 t455 t456 t457 t458 t459 t461 t462 t463 t464 t465 t466 t467 t468 w _ ?side1 ?side2 A91.out).mono ?_
                                        (case side1 => repeat (first | (with_reducible first | exact HI392.out | apply IsS57.alloc | apply IsS57.drewN | apply IsS57.drew | apply IsS57.set_0 | apply IsS57.set_1 | apply IsS57.set_2 | apply IsS57.set_3 | apply IsS57.set_4 | apply IsS57.set_5 | apply IsS57.set_6 | refine IsS57.far ?_ NB392_393.out _) | exact HI392.out))
                                        (case side2 => repeat (first | (with_reducible first | exact HB.out | apply below_alloc | apply pw_below_drewN | apply below_drew1 | refine below_set ?_ (IsS57.ge HI392.out) | refine below_set ?_ GE393.out) | exact HB.out))
                                        rintro e w98 ⟨rfl, hi, hb, hk⟩
                                        refine ⟨_, rfl, ?_⟩
                                        have n0_ := Aside0.mk (KeepBut.blk hk (g' := gb393) (o := .cells #[.bool x394000_40, .int .i64 x394001_40, .int .i64 x394002_40, .int .i64 x394003_40] 38 (0, 0)) (by (with_reducible repeat (first | refine blk_drewN ?_ _ | refine blk_drew ?_ | refine blk_alloc ?_ _)); exact BK393.out) NB393_392.out (by simp))
                                        have n1_ := Aside0.mk (hb)
                                        have n2_ := Aside0.mk (hi)
                                        clear BK393
                                        clear HB
                                        clear HI392
                                        have BK393 := n0_
                                        have HB := n1_
                                        have HI392 := n2_
                                        clear n0_ n1_ n2_
                                        (try clear hb); (try clear hb2); (try clear hk); (try clear hi)
                                        refine hK.out _ _ ⟨(blk_cell BK393.out 0).trans rfl, (blk_cell BK393.out 1).trans rfl, (blk_cell BK393.out 2).trans rfl, (blk_cell BK393.out 3).trans rfl⟩ (fun hHeld => ?_)
                                        clear hK K
                                        refine norm_ (a' := ?_) ?_ ?_
                                        rotate_left
                                        · show Act.put _ (some 140) _ = _
                                          simp only [Act.put, sa_, sz_, ss_, i64_w, i32_w]
                                          rfl
                                        refine pure_ (i := 12) (N := some 143) (v := ?_) (a' := ?_) (b_ 21 8191) rfl rfl (any_of HT_.out (by kernel_rfl)) (fun _ _ _ h => h) (Or.inl ⟨by rfl, ?_⟩) ?_ ?_; rotate_left; (· intro w'; go_simp; with_reducible rfl); rotate_left; (· simp only [Act.put, sa_, sz_, ss_, i64_w, i32_w]; rfl)
                                        refine pure_ (i := 13) (N := some 144) (v := ?_) (a' := ?_) (b_ 21 16383) rfl rfl (any_of HT_.out (by kernel_rfl)) (fun _ _ _ h => h) (Or.inl ⟨by rfl, ?_⟩) ?_ ?_; rotate_left; (· intro w'; go_simp; with_reducible rfl); rotate_left; (· simp only [Act.put, sa_, sz_, ss_, i64_w, i32_w]; rfl)
                                        refine pure_ (i := 14) (N := some 145) (v := ?_) (a' := ?_) (b_ 21 32767) rfl rfl (any_of HT_.out (by kernel_rfl)) (fun _ _ _ h => h) (Or.inl ⟨by rfl, ?_⟩) ?_ ?_; rotate_left; (· intro w'; go_simp; with_reducible rfl); rotate_left; (· simp only [Act.put, sa_, sz_, ss_, i64_w, i32_w]; rfl)
                                        refine pure_ (i := 15) (N := some 146) (v := ?_) (a' := ?_) (b_ 21 65535) rfl rfl (any_of HT_.out (by kernel_rfl)) (fun _ _ _ h => h) (Or.inl ⟨by rfl, ?_⟩) ?_ ?_; rotate_left; (· intro w'; go_simp; with_reducible rfl); rotate_left; (· simp only [Act.put, sa_, sz_, ss_, i64_w, i32_w]; rfl)
                                        refine pure_ (i := 17) (N := some 148) (v := ?_) (a' := ?_) (b_ 21 196607) rfl rfl (any_of HT_.out (by kernel_rfl)) (fun _ _ _ h => h) (Or.inl ⟨by rfl, ?_⟩) ?_ ?_; rotate_left; (· intro w'; go_simp; with_reducible rfl); rotate_left; (· simp only [Act.put, sa_, sz_, ss_, i64_w, i32_w]; rfl)
                                        refine take_ (i := 18) (N := some 149) (v := ?_) (a' := ?_) (b_ 21 458751) rfl rfl (take_ofW HT_.out HW_.out (by kernel_rfl)) (fun _ _ _ h => h) (Or.inl ⟨by rfl, ?_⟩) hHeld ?_ ?_
                                        rotate_left
                                        · rintro w' ⟨s0, s1, s2, s3⟩
                                          go_simp
                                          with_reducible rfl
                                        rotate_left
                                        · simp only [Act.put, sa_, sz_, ss_, i64_w, i32_w]
                                          rfl
                                        refine one_ (i := 16) (N := some 147) (b_ 21 524287) rfl rfl (one_of HT_.out (by kernel_rfl)) (by decide) (fun K hK => ?_)
                                        refine goes_ Try.func38 (by kernel_rfl) rfl #[.pointer (some ⟨g392, 0, none⟩)] (by rfl) rfl rfl (by (try simp only [List.map_toArray, List.map_cons, List.map_nil]); first | done | rfl | (simp only [List.length_drop, List.length_take]; rfl)) ?_
                                        with_reducible refine (breaker_Breaker_Out.calls g392 t462 t463 t464 t465 t466 t467 t468 t469 t470 t471 t472 t473 t474 t475 t476 w _ ?side1 ?side2 A93.out).mono ?_
                                        (case side1 => repeat (first | (with_reducible first | exact HI392.out | apply IsS57.alloc | apply IsS57.drewN | apply IsS57.drew | apply IsS57.set_0 | apply IsS57.set_1 | apply IsS57.set_2 | apply IsS57.set_3 | apply IsS57.set_4 | apply IsS57.set_5 | apply IsS57.set_6 | refine IsS57.far ?_ NB392_393.out _) | exact HI392.out))
                                        (case side2 => repeat (first | (with_reducible first | exact HB.out | apply below_alloc | apply pw_below_drewN | apply below_drew1 | refine below_set ?_ (IsS57.ge HI392.out) | refine below_set ?_ GE393.out) | exact HB.out))
                                        rintro e w99 ⟨rfl, hi, hb, hk⟩
                                        refine ⟨_, rfl, ?_⟩
                                        have n0_ := Aside0.mk (KeepBut.blk hk (g' := gb393) (o := .cells #[.bool x394000_40, .int .i64 x394001_40, .int .i64 x394002_40, .int .i64 x394003_40] 38 (0, 0)) (by (with_reducible repeat (first | refine blk_drewN ?_ _ | refine blk_drew ?_ | refine blk_alloc ?_ _)); exact BK393.out) NB393_392.out (by simp))
                                        have n1_ := Aside0.mk (hb)
                                        have n2_ := Aside0.mk (hi)
                                        clear BK393
                                        clear HB
                                        clear HI392
                                        have BK393 := n0_
                                        have HB := n1_
                                        have HI392 := n2_
                                        clear n0_ n1_ n2_
                                        (try clear hb); (try clear hb2); (try clear hk); (try clear hi)
                                        refine hK.out _ _ ⟨(blk_cell BK393.out 0).trans rfl, (blk_cell BK393.out 1).trans rfl, (blk_cell BK393.out 2).trans rfl, (blk_cell BK393.out 3).trans rfl⟩ (fun hHeld => ?_)
                                        clear hK K
                                        refine norm_ (a' := ?_) ?_ ?_
                                        rotate_left
                                        · show Act.put _ (some 147) _ = _
                                          simp only [Act.put, sa_, sz_, ss_, i64_w, i32_w]
                                          rfl
                                        refine pure_ (i := 19) (N := some 150) (v := ?_) (a' := ?_) (b_ 21 1048575) rfl rfl (any_of HT_.out (by kernel_rfl)) (fun _ _ _ h => h) (Or.inl ⟨by rfl, ?_⟩) ?_ ?_; rotate_left; (· intro w'; go_simp; with_reducible rfl); rotate_left; (· simp only [Act.put, sa_, sz_, ss_, i64_w, i32_w]; rfl)
                                        refine pure_ (i := 20) (N := some 151) (v := ?_) (a' := ?_) (b_ 21 2097151) rfl rfl (any_of HT_.out (by kernel_rfl)) (fun _ _ _ h => h) (Or.inl ⟨by rfl, ?_⟩) ?_ ?_; rotate_left; (· intro w'; go_simp; with_reducible rfl); rotate_left; (· simp only [Act.put, sa_, sz_, ss_, i64_w, i32_w]; rfl)
                                        refine done_ (done_of HT_.out (by kernel_rfl)) ?_
                                        try go_wp2
                                        go_roundg kj40
                                        case measure => have := HJ9.out; have := HK2.out; have := HJ23.out; have := HJ40.out; omega
                                        case rel => exact ⟨(wrap64 (x11_2 + 1)), (t470), (t471), (t472), (t473), (t474), (t475), (t476), (x394000_40), (x394001_40), (x394002_40), (x394003_40), (by first | rfl | (simp; done) | (simp [*]; done)), H', ⟨by have := HJ9.out; have := HK2.out; have := HJ23.out; have := HJ40.out; omega⟩, ⟨by (with_reducible repeat (first | refine blk_drewN ?_ _ | refine blk_drew ?_ | refine blk_alloc ?_ _)); exact BK393.out⟩, ⟨by repeat (first | (with_reducible first | exact HI392.out | apply IsS57.alloc | apply IsS57.drewN | apply IsS57.drew | apply IsS57.set_0 | apply IsS57.set_1 | apply IsS57.set_2 | apply IsS57.set_3 | apply IsS57.set_4 | apply IsS57.set_5 | apply IsS57.set_6 | refine IsS57.far ?_ NB392_393.out _) | exact HI392.out)⟩, ⟨by repeat (first | (with_reducible first | exact HB.out | apply below_alloc | apply pw_below_drewN | apply below_drew1 | refine below_set ?_ (IsS57.ge HI392.out) | refine below_set ?_ GE393.out) | exact HB.out)⟩⟩
                                      · rw [if_neg c94] at H
                                        have c94b0 : (t469 == x394003_40) = false := beq_eq_false_iff_ne.mpr c94
                                        have c94b1 : (t469 != x394003_40) = true := bne_iff_ne.mpr c94
                                        obtain rfl := Option.some.inj H
                                        try go_wp2
                                        have n0_ := Aside0.mk (blk_drew BK393.out)
                                        have n1_ := Aside0.mk (IsS57.drew HI392.out)
                                        have n2_ := Aside0.mk (below_drew1 HB.out)
                                        clear BK393
                                        clear HI392
                                        clear HB
                                        have BK393 := n0_
                                        have HI392 := n1_
                                        have HB := n2_
                                        clear n0_ n1_ n2_
                                        refine start_ (n := 21) (S := fun w' => w'.cell? ⟨gb393, 0, none⟩ = some (.bool x394000_40) ∧ w'.cell? ⟨gb393, 1, none⟩ = some (.int .i64 x394001_40) ∧ w'.cell? ⟨gb393, 2, none⟩ = some (.int .i64 x394002_40) ∧ w'.cell? ⟨gb393, 3, none⟩ = some (.int .i64 x394003_40)) (ds := []) #[false, false, false, false, false, false, false, false, false, false, false, false, false, false, false, false, false, false, false, false, false] (by kernel_rfl) rfl rfl ⟨(blk_cell BK393.out 0).trans rfl, (blk_cell BK393.out 1).trans rfl, (blk_cell BK393.out 2).trans rfl, (blk_cell BK393.out 3).trans rfl⟩ (fun hHeld => ?_); refine with_tabW usufructlaw10_BreakerPlays.tab31 usufructlaw10_BreakerPlays.bits31 (fun HT_ HW_ => ?_)
                                        generalize wc.drew = w100 at BK393 HI392 HB hHeld ⊢
                                        refine pure_ (i := 0) (N := some 131) (v := ?_) (a' := ?_) (b_ 21 1) rfl rfl (any_of HT_.out (by kernel_rfl)) (fun _ _ _ h => h) (Or.inl ⟨by rfl, ?_⟩) ?_ ?_; rotate_left; (· intro w'; go_simp; with_reducible rfl); rotate_left; (· simp only [Act.put, sa_, sz_, ss_, i64_w, i32_w]; rfl)
                                        refine pure_ (i := 1) (N := some 132) (v := ?_) (a' := ?_) (b_ 21 3) rfl rfl (any_of HT_.out (by kernel_rfl)) (fun _ _ _ h => h) (Or.inl ⟨by rfl, ?_⟩) ?_ ?_; rotate_left; (· intro w'; go_simp; with_reducible rfl); rotate_left; (· simp only [Act.put, sa_, sz_, ss_, i64_w, i32_w]; rfl)
                                        refine pure_ (i := 4) (N := some 135) (v := ?_) (a' := ?_) (b_ 21 19) rfl rfl (any_of HT_.out (by kernel_rfl)) (fun _ _ _ h => h) (Or.inl ⟨by rfl, ?_⟩) ?_ ?_; rotate_left; (· intro w'; go_simp; with_reducible rfl); rotate_left; (· simp only [Act.put, sa_, sz_, ss_, i64_w, i32_w]; rfl)
                                        refine take_ (i := 3) (N := some 134) (v := ?_) (a' := ?_) (b_ 21 27) rfl rfl (take_ofW HT_.out HW_.out (by kernel_rfl)) (fun _ _ _ h => h) (Or.inl ⟨by rfl, ?_⟩) hHeld ?_ ?_
                                        rotate_left
                                        · rintro w' ⟨s0, s1, s2, s3⟩
                                          go_simp
                                          with_reducible rfl
                                        rotate_left
                                        · simp only [Act.put, sa_, sz_, ss_, i64_w, i32_w]
                                          rfl
                                        refine one_ (i := 2) (N := some 133) (b_ 21 31) rfl rfl (one_of HT_.out (by kernel_rfl)) (by decide) (fun K hK => ?_)
                                        refine goes_ Try.func27 (by kernel_rfl) rfl #[.pointer (some ⟨g392, 0, none⟩), .int .i64 ((rd_T40 l3 x11_2).f1)] (by rfl) rfl rfl (by (try simp only [List.map_toArray, List.map_cons, List.map_nil]); first | done | rfl | (simp only [List.length_drop, List.length_take]; rfl)) ?_
                                        with_reducible refine (breaker_Breaker_State.calls g392 x393000_40 x393001_40 x393002_40 x393003_40 x393004_40 x393005_40 x393006_40 ((rd_T40 l3 x11_2).f1) t452 t453 t454 t455 t456 t457 t458 t459 w _ ?side1 ?side2 A88.out).mono ?_
                                        (case side1 => repeat (first | (with_reducible first | exact HI392.out | apply IsS57.alloc | apply IsS57.drewN | apply IsS57.drew | apply IsS57.set_0 | apply IsS57.set_1 | apply IsS57.set_2 | apply IsS57.set_3 | apply IsS57.set_4 | apply IsS57.set_5 | apply IsS57.set_6 | refine IsS57.far ?_ NB392_393.out _) | exact HI392.out))
                                        (case side2 => repeat (first | (with_reducible first | exact HB.out | apply below_alloc | apply pw_below_drewN | apply below_drew1 | refine below_set ?_ (IsS57.ge HI392.out) | refine below_set ?_ GE393.out) | exact HB.out))
                                        rintro e w101 ⟨rfl, hi, hb, hk⟩
                                        refine ⟨_, rfl, ?_⟩
                                        have n0_ := Aside0.mk (KeepBut.blk hk (g' := gb393) (o := .cells #[.bool x394000_40, .int .i64 x394001_40, .int .i64 x394002_40, .int .i64 x394003_40] 38 (0, 0)) (by (with_reducible repeat (first | refine blk_drewN ?_ _ | refine blk_drew ?_ | refine blk_alloc ?_ _)); exact BK393.out) NB393_392.out (by simp))
                                        have n1_ := Aside0.mk (hb)
                                        have n2_ := Aside0.mk (hi)
                                        clear BK393
                                        clear HB
                                        clear HI392
                                        have BK393 := n0_
                                        have HB := n1_
                                        have HI392 := n2_
                                        clear n0_ n1_ n2_
                                        (try clear hb); (try clear hb2); (try clear hk); (try clear hi)
                                        refine hK.out _ _ ⟨(blk_cell BK393.out 0).trans rfl, (blk_cell BK393.out 1).trans rfl, (blk_cell BK393.out 2).trans rfl, (blk_cell BK393.out 3).trans rfl⟩ (fun hHeld => ?_)
                                        clear hK K
                                        refine norm_ (a' := ?_) ?_ ?_
                                        rotate_left
                                        · show Act.put _ (some 133) _ = _
                                          simp only [Act.put, sa_, sz_, ss_, i64_w, i32_w]
                                          rfl
                                        refine one_ (i := 5) (N := some 136) (b_ 21 63) rfl rfl (one_of HT_.out (by kernel_rfl)) (by decide) (fun K hK => ?_)
                                        refine goes_ Try.func31 (by kernel_rfl) rfl #[.agg #[.bool x394000_40, .int .i64 x394001_40, .int .i64 x394002_40, .int .i64 x394003_40], .int .i64 ((rd_T40 l3 x11_2).f1)] (by rfl) rfl rfl (by (try simp only [List.map_toArray, List.map_cons, List.map_nil]); first | done | rfl | (simp only [List.length_drop, List.length_take]; rfl)) ?_
                                        with_reducible refine (usufructref10_Kind.calls x394000_40 x394001_40 x394002_40 x394003_40 ((rd_T40 l3 x11_2).f1) t460 _ A89.out).mono ?_
                                        rintro e w102 ⟨rfl, hb⟩
                                        refine ⟨_, rfl, ?_⟩
                                        have n0_ := Aside0.mk (blk_below (g := gb393) (o := .cells #[.bool x394000_40, .int .i64 x394001_40, .int .i64 x394002_40, .int .i64 x394003_40] 38 (0, 0)) (by (with_reducible repeat (first | refine blk_drewN ?_ _ | refine blk_drew ?_ | refine blk_alloc ?_ _)); exact BK393.out) hb)
                                        have n1_ := Aside0.mk (IsS57.below (by repeat (first | (with_reducible first | exact HI392.out | apply IsS57.alloc | apply IsS57.drewN | apply IsS57.drew | apply IsS57.set_0 | apply IsS57.set_1 | apply IsS57.set_2 | apply IsS57.set_3 | apply IsS57.set_4 | apply IsS57.set_5 | apply IsS57.set_6 | refine IsS57.far ?_ NB392_393.out _) | exact HI392.out)) hb)
                                        have n2_ := Aside0.mk (below_step (by repeat (first | (with_reducible first | exact HB.out | apply below_alloc | apply pw_below_drewN | apply below_drew1 | refine below_set ?_ (IsS57.ge HI392.out) | refine below_set ?_ GE393.out) | exact HB.out)) hb)
                                        clear BK393
                                        clear HI392
                                        clear HB
                                        have BK393 := n0_
                                        have HI392 := n1_
                                        have HB := n2_
                                        clear n0_ n1_ n2_
                                        (try clear hb); (try clear hb2); (try clear hk); (try clear hi)
                                        refine hK.out _ _ ⟨(blk_cell BK393.out 0).trans rfl, (blk_cell BK393.out 1).trans rfl, (blk_cell BK393.out 2).trans rfl, (blk_cell BK393.out 3).trans rfl⟩ (fun hHeld => ?_)
                                        clear hK K
                                        refine norm_ (a' := ?_) ?_ ?_
                                        rotate_left
                                        · show Act.put _ (some 136) _ = _
                                          simp only [Act.put, sa_, sz_, ss_, i64_w, i32_w]
                                          rfl
                                        refine pure_ (i := 6) (N := some 137) (v := ?_) (a' := ?_) (b_ 21 127) rfl rfl (any_of HT_.out (by kernel_rfl)) (fun _ _ _ h => h) (Or.inl ⟨by rfl, ?_⟩) ?_ ?_; rotate_left; (· intro w'; go_simp; with_reducible rfl); rotate_left; (· simp only [Act.put, sa_, sz_, ss_, i64_w, i32_w]; rfl)
                                        refine pure_ (i := 7) (N := some 138) (v := ?_) (a' := ?_) (b_ 21 255) rfl rfl (any_of HT_.out (by kernel_rfl)) (fun _ _ _ h => h) (Or.inl ⟨by rfl, ?_⟩) ?_ ?_; rotate_left; (· intro w'; go_simp; with_reducible rfl); rotate_left; (· simp only [Act.put, sa_, sz_, ss_, i64_w, i32_w]; rfl)
                                        refine pure_ (i := 8) (N := some 139) (v := ?_) (a' := ?_) (b_ 21 511) rfl rfl (any_of HT_.out (by kernel_rfl)) (fun _ _ _ h => h) (Or.inl ⟨by rfl, ?_⟩) ?_ ?_; rotate_left; (· intro w'; go_simp; with_reducible rfl); rotate_left; (· simp only [Act.put, sa_, sz_, ss_, i64_w, i32_w]; rfl)
                                        refine pure_ (i := 10) (N := some 141) (v := ?_) (a' := ?_) (b_ 21 1535) rfl rfl (any_of HT_.out (by kernel_rfl)) (fun _ _ _ h => h) (Or.inl ⟨by rfl, ?_⟩) ?_ ?_; rotate_left; (· intro w'; go_simp; with_reducible rfl); rotate_left; (· simp only [Act.put, sa_, sz_, ss_, i64_w, i32_w]; rfl)
                                        refine take_ (i := 11) (N := some 142) (v := ?_) (a' := ?_) (b_ 21 3583) rfl rfl (take_ofW HT_.out HW_.out (by kernel_rfl)) (fun _ _ _ h => h) (Or.inl ⟨by rfl, ?_⟩) hHeld ?_ ?_
                                        rotate_left
                                        · rintro w' ⟨s0, s1, s2, s3⟩
                                          go_simp
                                          with_reducible rfl
                                        rotate_left
                                        · simp only [Act.put, sa_, sz_, ss_, i64_w, i32_w]
                                          rfl
                                        refine one_ (i := 9) (N := some 140) (b_ 21 4095) rfl rfl (one_of HT_.out (by kernel_rfl)) (by decide) (fun K hK => ?_)
                                        refine goes_ Try.func29 (by kernel_rfl) rfl #[.pointer (some ⟨g392, 0, none⟩)] (by rfl) rfl rfl (by (try simp only [List.map_toArray, List.map_cons, List.map_nil]); first | done | rfl | (simp only [List.length_drop, List.length_take]; rfl)) ?_
                                        with_reducible refine (breaker_Breaker_Until.calls g392 t453 t454 t455 t456 t457 t458 t459 t461 t462 t463 t464 t465 t466 t467 t468 w _ ?side1 ?side2 A91.out).mono ?_
                                        (case side1 => repeat (first | (with_reducible first | exact HI392.out | apply IsS57.alloc | apply IsS57.drewN | apply IsS57.drew | apply IsS57.set_0 | apply IsS57.set_1 | apply IsS57.set_2 | apply IsS57.set_3 | apply IsS57.set_4 | apply IsS57.set_5 | apply IsS57.set_6 | refine IsS57.far ?_ NB392_393.out _) | exact HI392.out))
                                        (case side2 => repeat (first | (with_reducible first | exact HB.out | apply below_alloc | apply pw_below_drewN | apply below_drew1 | refine below_set ?_ (IsS57.ge HI392.out) | refine below_set ?_ GE393.out) | exact HB.out))
                                        rintro e w103 ⟨rfl, hi, hb, hk⟩
                                        refine ⟨_, rfl, ?_⟩
                                        have n0_ := Aside0.mk (KeepBut.blk hk (g' := gb393) (o := .cells #[.bool x394000_40, .int .i64 x394001_40, .int .i64 x394002_40, .int .i64 x394003_40] 38 (0, 0)) (by (with_reducible repeat (first | refine blk_drewN ?_ _ | refine blk_drew ?_ | refine blk_alloc ?_ _)); exact BK393.out) NB393_392.out (by simp))
                                        have n1_ := Aside0.mk (hb)
                                        have n2_ := Aside0.mk (hi)
                                        clear BK393
                                        clear HB
                                        clear HI392
                                        have BK393 := n0_
                                        have HB := n1_
                                        have HI392 := n2_
                                        clear n0_ n1_ n2_
                                        (try clear hb); (try clear hb2); (try clear hk); (try clear hi)
                                        refine hK.out _ _ ⟨(blk_cell BK393.out 0).trans rfl, (blk_cell BK393.out 1).trans rfl, (blk_cell BK393.out 2).trans rfl, (blk_cell BK393.out 3).trans rfl⟩ (fun hHeld => ?_)
                                        clear hK K
                                        refine norm_ (a' := ?_) ?_ ?_
                                        rotate_left
                                        · show Act.put _ (some 140) _ = _
                                          simp only [Act.put, sa_, sz_, ss_, i64_w, i32_w]
                                          rfl
                                        refine pure_ (i := 12) (N := some 143) (v := ?_) (a' := ?_) (b_ 21 8191) rfl rfl (any_of HT_.out (by kernel_rfl)) (fun _ _ _ h => h) (Or.inl ⟨by rfl, ?_⟩) ?_ ?_; rotate_left; (· intro w'; go_simp; with_reducible rfl); rotate_left; (· simp only [Act.put, sa_, sz_, ss_, i64_w, i32_w]; rfl)
                                        refine pure_ (i := 13) (N := some 144) (v := ?_) (a' := ?_) (b_ 21 16383) rfl rfl (any_of HT_.out (by kernel_rfl)) (fun _ _ _ h => h) (Or.inl ⟨by rfl, ?_⟩) ?_ ?_; rotate_left; (· intro w'; go_simp; with_reducible rfl); rotate_left; (· simp only [Act.put, sa_, sz_, ss_, i64_w, i32_w]; rfl)
                                        refine pure_ (i := 14) (N := some 145) (v := ?_) (a' := ?_) (b_ 21 32767) rfl rfl (any_of HT_.out (by kernel_rfl)) (fun _ _ _ h => h) (Or.inl ⟨by rfl, ?_⟩) ?_ ?_; rotate_left; (· intro w'; go_simp; with_reducible rfl); rotate_left; (· simp only [Act.put, sa_, sz_, ss_, i64_w, i32_w]; rfl)
                                        refine pure_ (i := 15) (N := some 146) (v := ?_) (a' := ?_) (b_ 21 65535) rfl rfl (any_of HT_.out (by kernel_rfl)) (fun _ _ _ h => h) (Or.inl ⟨by rfl, ?_⟩) ?_ ?_; rotate_left; (· intro w'; go_simp; with_reducible rfl); rotate_left; (· simp only [Act.put, sa_, sz_, ss_, i64_w, i32_w]; rfl)
                                        refine pure_ (i := 17) (N := some 148) (v := ?_) (a' := ?_) (b_ 21 196607) rfl rfl (any_of HT_.out (by kernel_rfl)) (fun _ _ _ h => h) (Or.inl ⟨by rfl, ?_⟩) ?_ ?_; rotate_left; (· intro w'; go_simp; with_reducible rfl); rotate_left; (· simp only [Act.put, sa_, sz_, ss_, i64_w, i32_w]; rfl)
                                        refine take_ (i := 18) (N := some 149) (v := ?_) (a' := ?_) (b_ 21 458751) rfl rfl (take_ofW HT_.out HW_.out (by kernel_rfl)) (fun _ _ _ h => h) (Or.inl ⟨by rfl, ?_⟩) hHeld ?_ ?_
                                        rotate_left
                                        · rintro w' ⟨s0, s1, s2, s3⟩
                                          go_simp
                                          with_reducible rfl
                                        rotate_left
                                        · simp only [Act.put, sa_, sz_, ss_, i64_w, i32_w]
                                          rfl
                                        refine one_ (i := 16) (N := some 147) (b_ 21 524287) rfl rfl (one_of HT_.out (by kernel_rfl)) (by decide) (fun K hK => ?_)
                                        refine goes_ Try.func38 (by kernel_rfl) rfl #[.pointer (some ⟨g392, 0, none⟩)] (by rfl) rfl rfl (by (try simp only [List.map_toArray, List.map_cons, List.map_nil]); first | done | rfl | (simp only [List.length_drop, List.length_take]; rfl)) ?_
                                        with_reducible refine (breaker_Breaker_Out.calls g392 t462 t463 t464 t465 t466 t467 t468 t469 t470 t471 t472 t473 t474 t475 t476 w _ ?side1 ?side2 A93.out).mono ?_
                                        (case side1 => repeat (first | (with_reducible first | exact HI392.out | apply IsS57.alloc | apply IsS57.drewN | apply IsS57.drew | apply IsS57.set_0 | apply IsS57.set_1 | apply IsS57.set_2 | apply IsS57.set_3 | apply IsS57.set_4 | apply IsS57.set_5 | apply IsS57.set_6 | refine IsS57.far ?_ NB392_393.out _) | exact HI392.out))
                                        (case side2 => repeat (first | (with_reducible first | exact HB.out | apply below_alloc | apply pw_below_drewN | apply below_drew1 | refine below_set ?_ (IsS57.ge HI392.out) | refine below_set ?_ GE393.out) | exact HB.out))
                                        rintro e w104 ⟨rfl, hi, hb, hk⟩
                                        refine ⟨_, rfl, ?_⟩
                                        have n0_ := Aside0.mk (KeepBut.blk hk (g' := gb393) (o := .cells #[.bool x394000_40, .int .i64 x394001_40, .int .i64 x394002_40, .int .i64 x394003_40] 38 (0, 0)) (by (with_reducible repeat (first | refine blk_drewN ?_ _ | refine blk_drew ?_ | refine blk_alloc ?_ _)); exact BK393.out) NB393_392.out (by simp))
                                        have n1_ := Aside0.mk (hb)
                                        have n2_ := Aside0.mk (hi)
                                        clear BK393
                                        clear HB
                                        clear HI392
                                        have BK393 := n0_
                                        have HB := n1_
                                        have HI392 := n2_
                                        clear n0_ n1_ n2_
                                        (try clear hb); (try clear hb2); (try clear hk); (try clear hi)
                                        refine hK.out _ _ ⟨(blk_cell BK393.out 0).trans rfl, (blk_cell BK393.out 1).trans rfl, (blk_cell BK393.out 2).trans rfl, (blk_cell BK393.out 3).trans rfl⟩ (fun hHeld => ?_)
                                        clear hK K
                                        refine norm_ (a' := ?_) ?_ ?_
                                        rotate_left
                                        · show Act.put _ (some 147) _ = _
                                          simp only [Act.put, sa_, sz_, ss_, i64_w, i32_w]
                                          rfl
                                        refine pure_ (i := 19) (N := some 150) (v := ?_) (a' := ?_) (b_ 21 1048575) rfl rfl (any_of HT_.out (by kernel_rfl)) (fun _ _ _ h => h) (Or.inl ⟨by rfl, ?_⟩) ?_ ?_; rotate_left; (· intro w'; go_simp; with_reducible rfl); rotate_left; (· simp only [Act.put, sa_, sz_, ss_, i64_w, i32_w]; rfl)
                                        refine pure_ (i := 20) (N := some 151) (v := ?_) (a' := ?_) (b_ 21 2097151) rfl rfl (any_of HT_.out (by kernel_rfl)) (fun _ _ _ h => h) (Or.inl ⟨by rfl, ?_⟩) ?_ ?_; rotate_left; (· intro w'; go_simp; with_reducible rfl); rotate_left; (· simp only [Act.put, sa_, sz_, ss_, i64_w, i32_w]; rfl)
                                        refine done_ (done_of HT_.out (by kernel_rfl)) ?_
                                        try go_wp2
                                        go_ret
                                        exact ⟨by first | rfl | (simp [errW_none, errW_some] <;> rfl) | (simp [*, errW_none, errW_some] <;> rfl), by repeat (first | (with_reducible first | exact HB.out | apply below_alloc | apply pw_below_drewN | apply below_drew1 | refine below_set ?_ (IsS57.ge HI392.out) | refine below_set ?_ GE393.out) | exact HB.out)⟩
                                    · rw [if_neg c92] at H
                                      have c92b0 : (t461 == x394002_40) = false := beq_eq_false_iff_ne.mpr c92
                                      have c92b1 : (t461 != x394002_40) = true := bne_iff_ne.mpr c92
                                      obtain rfl := Option.some.inj H
                                      try go_wp2
                                      have n0_ := Aside0.mk (blk_drew BK393.out)
                                      have n1_ := Aside0.mk (IsS57.drew HI392.out)
                                      have n2_ := Aside0.mk (below_drew1 HB.out)
                                      clear BK393
                                      clear HI392
                                      clear HB
                                      have BK393 := n0_
                                      have HI392 := n1_
                                      have HB := n2_
                                      clear n0_ n1_ n2_
                                      refine start_ (n := 21) (S := fun w' => w'.cell? ⟨gb393, 0, none⟩ = some (.bool x394000_40) ∧ w'.cell? ⟨gb393, 1, none⟩ = some (.int .i64 x394001_40) ∧ w'.cell? ⟨gb393, 2, none⟩ = some (.int .i64 x394002_40) ∧ w'.cell? ⟨gb393, 3, none⟩ = some (.int .i64 x394003_40)) (ds := []) #[false, false, false, false, false, false, false, false, false, false, false, false, false, false, false, false, false, false, false, false, false] (by kernel_rfl) rfl rfl ⟨(blk_cell BK393.out 0).trans rfl, (blk_cell BK393.out 1).trans rfl, (blk_cell BK393.out 2).trans rfl, (blk_cell BK393.out 3).trans rfl⟩ (fun hHeld => ?_); refine with_tabW usufructlaw10_BreakerPlays.tab31 usufructlaw10_BreakerPlays.bits31 (fun HT_ HW_ => ?_)
                                      generalize wc.drew = w105 at BK393 HI392 HB hHeld ⊢
                                      refine pure_ (i := 0) (N := some 131) (v := ?_) (a' := ?_) (b_ 21 1) rfl rfl (any_of HT_.out (by kernel_rfl)) (fun _ _ _ h => h) (Or.inl ⟨by rfl, ?_⟩) ?_ ?_; rotate_left; (· intro w'; go_simp; with_reducible rfl); rotate_left; (· simp only [Act.put, sa_, sz_, ss_, i64_w, i32_w]; rfl)
                                      refine pure_ (i := 1) (N := some 132) (v := ?_) (a' := ?_) (b_ 21 3) rfl rfl (any_of HT_.out (by kernel_rfl)) (fun _ _ _ h => h) (Or.inl ⟨by rfl, ?_⟩) ?_ ?_; rotate_left; (· intro w'; go_simp; with_reducible rfl); rotate_left; (· simp only [Act.put, sa_, sz_, ss_, i64_w, i32_w]; rfl)
                                      refine pure_ (i := 4) (N := some 135) (v := ?_) (a' := ?_) (b_ 21 19) rfl rfl (any_of HT_.out (by kernel_rfl)) (fun _ _ _ h => h) (Or.inl ⟨by rfl, ?_⟩) ?_ ?_; rotate_left; (· intro w'; go_simp; with_reducible rfl); rotate_left; (· simp only [Act.put, sa_, sz_, ss_, i64_w, i32_w]; rfl)
                                      refine take_ (i := 3) (N := some 134) (v := ?_) (a' := ?_) (b_ 21 27) rfl rfl (take_ofW HT_.out HW_.out (by kernel_rfl)) (fun _ _ _ h => h) (Or.inl ⟨by rfl, ?_⟩) hHeld ?_ ?_
                                      rotate_left
                                      · rintro w' ⟨s0, s1, s2, s3⟩
                                        go_simp
                                        with_reducible rfl
                                      rotate_left
                                      · simp only [Act.put, sa_, sz_, ss_, i64_w, i32_w]
                                        rfl
                                      refine one_ (i := 2) (N := some 133) (b_ 21 31) rfl rfl (one_of HT_.out (by kernel_rfl)) (by decide) (fun K hK => ?_)
                                      refine goes_ Try.func27 (by kernel_rfl) rfl #[.pointer (some ⟨g392, 0, none⟩), .int .i64 ((rd_T40 l3 x11_2).f1)] (by rfl) rfl rfl (by (try simp only [List.map_toArray, List.map_cons, List.map_nil]); first | done | rfl | (simp only [List.length_drop, List.length_take]; rfl)) ?_
                                      with_reducible refine (breaker_Breaker_State.calls g392 x393000_40 x393001_40 x393002_40 x393003_40 x393004_40 x393005_40 x393006_40 ((rd_T40 l3 x11_2).f1) t452 t453 t454 t455 t456 t457 t458 t459 w _ ?side1 ?side2 A88.out).mono ?_
                                      (case side1 => repeat (first | (with_reducible first | exact HI392.out | apply IsS57.alloc | apply IsS57.drewN | apply IsS57.drew | apply IsS57.set_0 | apply IsS57.set_1 | apply IsS57.set_2 | apply IsS57.set_3 | apply IsS57.set_4 | apply IsS57.set_5 | apply IsS57.set_6 | refine IsS57.far ?_ NB392_393.out _) | exact HI392.out))
                                      (case side2 => repeat (first | (with_reducible first | exact HB.out | apply below_alloc | apply pw_below_drewN | apply below_drew1 | refine below_set ?_ (IsS57.ge HI392.out) | refine below_set ?_ GE393.out) | exact HB.out))
                                      rintro e w106 ⟨rfl, hi, hb, hk⟩
                                      refine ⟨_, rfl, ?_⟩
                                      have n0_ := Aside0.mk (KeepBut.blk hk (g' := gb393) (o := .cells #[.bool x394000_40, .int .i64 x394001_40, .int .i64 x394002_40, .int .i64 x394003_40] 38 (0, 0)) (by (with_reducible repeat (first | refine blk_drewN ?_ _ | refine blk_drew ?_ | refine blk_alloc ?_ _)); exact BK393.out) NB393_392.out (by simp))
                                      have n1_ := Aside0.mk (hb)
                                      have n2_ := Aside0.mk (hi)
                                      clear BK393
                                      clear HB
                                      clear HI392
                                      have BK393 := n0_
                                      have HB := n1_
                                      have HI392 := n2_
                                      clear n0_ n1_ n2_
                                      (try clear hb); (try clear hb2); (try clear hk); (try clear hi)
                                      refine hK.out _ _ ⟨(blk_cell BK393.out 0).trans rfl, (blk_cell BK393.out 1).trans rfl, (blk_cell BK393.out 2).trans rfl, (blk_cell BK393.out 3).trans rfl⟩ (fun hHeld => ?_)
                                      clear hK K
                                      refine norm_ (a' := ?_) ?_ ?_
                                      rotate_left
                                      · show Act.put _ (some 133) _ = _
                                        simp only [Act.put, sa_, sz_, ss_, i64_w, i32_w]
                                        rfl
                                      refine one_ (i := 5) (N := some 136) (b_ 21 63) rfl rfl (one_of HT_.out (by kernel_rfl)) (by decide) (fun K hK => ?_)
                                      refine goes_ Try.func31 (by kernel_rfl) rfl #[.agg #[.bool x394000_40, .int .i64 x394001_40, .int .i64 x394002_40, .int .i64 x394003_40], .int .i64 ((rd_T40 l3 x11_2).f1)] (by rfl) rfl rfl (by (try simp only [List.map_toArray, List.map_cons, List.map_nil]); first | done | rfl | (simp only [List.length_drop, List.length_take]; rfl)) ?_
                                      with_reducible refine (usufructref10_Kind.calls x394000_40 x394001_40 x394002_40 x394003_40 ((rd_T40 l3 x11_2).f1) t460 _ A89.out).mono ?_
                                      rintro e w107 ⟨rfl, hb⟩
                                      refine ⟨_, rfl, ?_⟩
                                      have n0_ := Aside0.mk (blk_below (g := gb393) (o := .cells #[.bool x394000_40, .int .i64 x394001_40, .int .i64 x394002_40, .int .i64 x394003_40] 38 (0, 0)) (by (with_reducible repeat (first | refine blk_drewN ?_ _ | refine blk_drew ?_ | refine blk_alloc ?_ _)); exact BK393.out) hb)
                                      have n1_ := Aside0.mk (IsS57.below (by repeat (first | (with_reducible first | exact HI392.out | apply IsS57.alloc | apply IsS57.drewN | apply IsS57.drew | apply IsS57.set_0 | apply IsS57.set_1 | apply IsS57.set_2 | apply IsS57.set_3 | apply IsS57.set_4 | apply IsS57.set_5 | apply IsS57.set_6 | refine IsS57.far ?_ NB392_393.out _) | exact HI392.out)) hb)
                                      have n2_ := Aside0.mk (below_step (by repeat (first | (with_reducible first | exact HB.out | apply below_alloc | apply pw_below_drewN | apply below_drew1 | refine below_set ?_ (IsS57.ge HI392.out) | refine below_set ?_ GE393.out) | exact HB.out)) hb)
                                      clear BK393
                                      clear HI392
                                      clear HB
                                      have BK393 := n0_
                                      have HI392 := n1_
                                      have HB := n2_
                                      clear n0_ n1_ n2_
                                      (try clear hb); (try clear hb2); (try clear hk); (try clear hi)
                                      refine hK.out _ _ ⟨(blk_cell BK393.out 0).trans rfl, (blk_cell BK393.out 1).trans rfl, (blk_cell BK393.out 2).trans rfl, (blk_cell BK393.out 3).trans rfl⟩ (fun hHeld => ?_)
                                      clear hK K
                                      refine norm_ (a' := ?_) ?_ ?_
                                      rotate_left
                                      · show Act.put _ (some 136) _ = _
                                        simp only [Act.put, sa_, sz_, ss_, i64_w, i32_w]
                                        rfl
                                      refine pure_ (i := 6) (N := some 137) (v := ?_) (a' := ?_) (b_ 21 127) rfl rfl (any_of HT_.out (by kernel_rfl)) (fun _ _ _ h => h) (Or.inl ⟨by rfl, ?_⟩) ?_ ?_; rotate_left; (· intro w'; go_simp; with_reducible rfl); rotate_left; (· simp only [Act.put, sa_, sz_, ss_, i64_w, i32_w]; rfl)
                                      refine pure_ (i := 7) (N := some 138) (v := ?_) (a' := ?_) (b_ 21 255) rfl rfl (any_of HT_.out (by kernel_rfl)) (fun _ _ _ h => h) (Or.inl ⟨by rfl, ?_⟩) ?_ ?_; rotate_left; (· intro w'; go_simp; with_reducible rfl); rotate_left; (· simp only [Act.put, sa_, sz_, ss_, i64_w, i32_w]; rfl)
                                      refine pure_ (i := 8) (N := some 139) (v := ?_) (a' := ?_) (b_ 21 511) rfl rfl (any_of HT_.out (by kernel_rfl)) (fun _ _ _ h => h) (Or.inl ⟨by rfl, ?_⟩) ?_ ?_; rotate_left; (· intro w'; go_simp; with_reducible rfl); rotate_left; (· simp only [Act.put, sa_, sz_, ss_, i64_w, i32_w]; rfl)
                                      refine pure_ (i := 10) (N := some 141) (v := ?_) (a' := ?_) (b_ 21 1535) rfl rfl (any_of HT_.out (by kernel_rfl)) (fun _ _ _ h => h) (Or.inl ⟨by rfl, ?_⟩) ?_ ?_; rotate_left; (· intro w'; go_simp; with_reducible rfl); rotate_left; (· simp only [Act.put, sa_, sz_, ss_, i64_w, i32_w]; rfl)
                                      refine take_ (i := 11) (N := some 142) (v := ?_) (a' := ?_) (b_ 21 3583) rfl rfl (take_ofW HT_.out HW_.out (by kernel_rfl)) (fun _ _ _ h => h) (Or.inl ⟨by rfl, ?_⟩) hHeld ?_ ?_
                                      rotate_left
                                      · rintro w' ⟨s0, s1, s2, s3⟩
                                        go_simp
                                        with_reducible rfl
                                      rotate_left
                                      · simp only [Act.put, sa_, sz_, ss_, i64_w, i32_w]
                                        rfl
                                      refine one_ (i := 9) (N := some 140) (b_ 21 4095) rfl rfl (one_of HT_.out (by kernel_rfl)) (by decide) (fun K hK => ?_)
                                      refine goes_ Try.func29 (by kernel_rfl) rfl #[.pointer (some ⟨g392, 0, none⟩)] (by rfl) rfl rfl (by (try simp only [List.map_toArray, List.map_cons, List.map_nil]); first | done | rfl | (simp only [List.length_drop, List.length_take]; rfl)) ?_
                                      with_reducible refine (breaker_Breaker_Until.calls g392 t453 t454 t455 t456 t457 t458 t459 t461 t462 t463 t464 t465 t466 t467 t468 w _ ?side1 ?side2 A91.out).mono ?_
                                      (case side1 => repeat (first | (with_reducible first | exact HI392.out | apply IsS57.alloc | apply IsS57.drewN | apply IsS57.drew | apply IsS57.set_0 | apply IsS57.set_1 | apply IsS57.set_2 | apply IsS57.set_3 | apply IsS57.set_4 | apply IsS57.set_5 | apply IsS57.set_6 | refine IsS57.far ?_ NB392_393.out _) | exact HI392.out))
                                      (case side2 => repeat (first | (with_reducible first | exact HB.out | apply below_alloc | apply pw_below_drewN | apply below_drew1 | refine below_set ?_ (IsS57.ge HI392.out) | refine below_set ?_ GE393.out) | exact HB.out))
                                      rintro e w108 ⟨rfl, hi, hb, hk⟩
                                      refine ⟨_, rfl, ?_⟩
                                      have n0_ := Aside0.mk (KeepBut.blk hk (g' := gb393) (o := .cells #[.bool x394000_40, .int .i64 x394001_40, .int .i64 x394002_40, .int .i64 x394003_40] 38 (0, 0)) (by (with_reducible repeat (first | refine blk_drewN ?_ _ | refine blk_drew ?_ | refine blk_alloc ?_ _)); exact BK393.out) NB393_392.out (by simp))
                                      have n1_ := Aside0.mk (hb)
                                      have n2_ := Aside0.mk (hi)
                                      clear BK393
                                      clear HB
                                      clear HI392
                                      have BK393 := n0_
                                      have HB := n1_
                                      have HI392 := n2_
                                      clear n0_ n1_ n2_
                                      (try clear hb); (try clear hb2); (try clear hk); (try clear hi)
                                      refine hK.out _ _ ⟨(blk_cell BK393.out 0).trans rfl, (blk_cell BK393.out 1).trans rfl, (blk_cell BK393.out 2).trans rfl, (blk_cell BK393.out 3).trans rfl⟩ (fun hHeld => ?_)
                                      clear hK K
                                      refine norm_ (a' := ?_) ?_ ?_
                                      rotate_left
                                      · show Act.put _ (some 140) _ = _
                                        simp only [Act.put, sa_, sz_, ss_, i64_w, i32_w]
                                        rfl
                                      refine pure_ (i := 12) (N := some 143) (v := ?_) (a' := ?_) (b_ 21 8191) rfl rfl (any_of HT_.out (by kernel_rfl)) (fun _ _ _ h => h) (Or.inl ⟨by rfl, ?_⟩) ?_ ?_; rotate_left; (· intro w'; go_simp; with_reducible rfl); rotate_left; (· simp only [Act.put, sa_, sz_, ss_, i64_w, i32_w]; rfl)
                                      refine pure_ (i := 13) (N := some 144) (v := ?_) (a' := ?_) (b_ 21 16383) rfl rfl (any_of HT_.out (by kernel_rfl)) (fun _ _ _ h => h) (Or.inl ⟨by rfl, ?_⟩) ?_ ?_; rotate_left; (· intro w'; go_simp; with_reducible rfl); rotate_left; (· simp only [Act.put, sa_, sz_, ss_, i64_w, i32_w]; rfl)
                                      refine pure_ (i := 14) (N := some 145) (v := ?_) (a' := ?_) (b_ 21 32767) rfl rfl (any_of HT_.out (by kernel_rfl)) (fun _ _ _ h => h) (Or.inl ⟨by rfl, ?_⟩) ?_ ?_; rotate_left; (· intro w'; go_simp; with_reducible rfl); rotate_left; (· simp only [Act.put, sa_, sz_, ss_, i64_w, i32_w]; rfl)
                                      refine pure_ (i := 15) (N := some 146) (v := undef) (a' := ?_) (b_ 21 65535) rfl rfl (any_of HT_.out (by kernel_rfl)) (fun _ _ _ h => h) (Or.inr ⟨by rfl, rfl⟩) ?_ ?_
                                      rotate_left
                                      · simp only [Act.put, sa_, sz_, ss_, i64_w, i32_w]
                                        rfl
                                      refine pure_ (i := 16) (N := some 147) (v := undef) (a' := ?_) (b_ 21 131071) rfl rfl (any_of HT_.out (by kernel_rfl)) (fun _ _ _ h => h) (Or.inr ⟨by rfl, rfl⟩) ?_ ?_
                                      rotate_left
                                      · simp only [Act.put, sa_, sz_, ss_, i64_w, i32_w]
                                        rfl
                                      refine pure_ (i := 17) (N := some 148) (v := undef) (a' := ?_) (b_ 21 262143) rfl rfl (any_of HT_.out (by kernel_rfl)) (fun _ _ _ h => h) (Or.inr ⟨by rfl, rfl⟩) ?_ ?_
                                      rotate_left
                                      · simp only [Act.put, sa_, sz_, ss_, i64_w, i32_w]
                                        rfl
                                      refine pure_ (i := 18) (N := some 149) (v := undef) (a' := ?_) (b_ 21 524287) rfl rfl (any_of HT_.out (by kernel_rfl)) (fun _ _ _ h => h) (Or.inr ⟨by rfl, rfl⟩) ?_ ?_
                                      rotate_left
                                      · simp only [Act.put, sa_, sz_, ss_, i64_w, i32_w]
                                        rfl
                                      refine pure_ (i := 19) (N := some 150) (v := undef) (a' := ?_) (b_ 21 1048575) rfl rfl (any_of HT_.out (by kernel_rfl)) (fun _ _ _ h => h) (Or.inr ⟨by rfl, rfl⟩) ?_ ?_
                                      rotate_left
                                      · simp only [Act.put, sa_, sz_, ss_, i64_w, i32_w]
                                        rfl
                                      refine pure_ (i := 20) (N := some 151) (v := ?_) (a' := ?_) (b_ 21 2097151) rfl rfl (any_of HT_.out (by kernel_rfl)) (fun _ _ _ h => h) (Or.inl ⟨by rfl, ?_⟩) ?_ ?_; rotate_left; (· intro w'; go_simp; with_reducible rfl); rotate_left; (· simp only [Act.put, sa_, sz_, ss_, i64_w, i32_w]; rfl)
                                      refine done_ (done_of HT_.out (by kernel_rfl)) ?_
                                      try go_wp2
                                      go_ret
                                      exact ⟨by first | rfl | (simp [errW_none, errW_some] <;> rfl) | (simp [*, errW_none, errW_some] <;> rfl), by repeat (first | (with_reducible first | exact HB.out | apply below_alloc | apply pw_below_drewN | apply below_drew1 | refine below_set ?_ (IsS57.ge HI392.out) | refine below_set ?_ GE393.out) | exact HB.out)⟩
                                  · rw [if_neg c90] at H
                                    have c90b0 : (t452 == t460) = false := beq_eq_false_iff_ne.mpr c90
                                    have c90b1 : (t452 != t460) = true := bne_iff_ne.mpr c90
                                    obtain rfl := Option.some.inj H
                                    try go_wp2
                                    have n0_ := Aside0.mk (blk_drew BK393.out)
                                    have n1_ := Aside0.mk (IsS57.drew HI392.out)
                                    have n2_ := Aside0.mk (below_drew1 HB.out)
                                    clear BK393
                                    clear HI392
                                    clear HB
                                    have BK393 := n0_
                                    have HI392 := n1_
                                    have HB := n2_
                                    clear n0_ n1_ n2_
                                    refine start_ (n := 21) (S := fun w' => w'.cell? ⟨gb393, 0, none⟩ = some (.bool x394000_40) ∧ w'.cell? ⟨gb393, 1, none⟩ = some (.int .i64 x394001_40) ∧ w'.cell? ⟨gb393, 2, none⟩ = some (.int .i64 x394002_40) ∧ w'.cell? ⟨gb393, 3, none⟩ = some (.int .i64 x394003_40)) (ds := []) #[false, false, false, false, false, false, false, false, false, false, false, false, false, false, false, false, false, false, false, false, false] (by kernel_rfl) rfl rfl ⟨(blk_cell BK393.out 0).trans rfl, (blk_cell BK393.out 1).trans rfl, (blk_cell BK393.out 2).trans rfl, (blk_cell BK393.out 3).trans rfl⟩ (fun hHeld => ?_); refine with_tabW usufructlaw10_BreakerPlays.tab31 usufructlaw10_BreakerPlays.bits31 (fun HT_ HW_ => ?_)
                                    generalize wc.drew = w109 at BK393 HI392 HB hHeld ⊢
                                    refine pure_ (i := 0) (N := some 131) (v := ?_) (a' := ?_) (b_ 21 1) rfl rfl (any_of HT_.out (by kernel_rfl)) (fun _ _ _ h => h) (Or.inl ⟨by rfl, ?_⟩) ?_ ?_; rotate_left; (· intro w'; go_simp; with_reducible rfl); rotate_left; (· simp only [Act.put, sa_, sz_, ss_, i64_w, i32_w]; rfl)
                                    refine pure_ (i := 1) (N := some 132) (v := ?_) (a' := ?_) (b_ 21 3) rfl rfl (any_of HT_.out (by kernel_rfl)) (fun _ _ _ h => h) (Or.inl ⟨by rfl, ?_⟩) ?_ ?_; rotate_left; (· intro w'; go_simp; with_reducible rfl); rotate_left; (· simp only [Act.put, sa_, sz_, ss_, i64_w, i32_w]; rfl)
                                    refine pure_ (i := 4) (N := some 135) (v := ?_) (a' := ?_) (b_ 21 19) rfl rfl (any_of HT_.out (by kernel_rfl)) (fun _ _ _ h => h) (Or.inl ⟨by rfl, ?_⟩) ?_ ?_; rotate_left; (· intro w'; go_simp; with_reducible rfl); rotate_left; (· simp only [Act.put, sa_, sz_, ss_, i64_w, i32_w]; rfl)
                                    refine take_ (i := 3) (N := some 134) (v := ?_) (a' := ?_) (b_ 21 27) rfl rfl (take_ofW HT_.out HW_.out (by kernel_rfl)) (fun _ _ _ h => h) (Or.inl ⟨by rfl, ?_⟩) hHeld ?_ ?_
                                    rotate_left
                                    · rintro w' ⟨s0, s1, s2, s3⟩
                                      go_simp
                                      with_reducible rfl
                                    rotate_left
                                    · simp only [Act.put, sa_, sz_, ss_, i64_w, i32_w]
                                      rfl
                                    refine one_ (i := 2) (N := some 133) (b_ 21 31) rfl rfl (one_of HT_.out (by kernel_rfl)) (by decide) (fun K hK => ?_)
                                    refine goes_ Try.func27 (by kernel_rfl) rfl #[.pointer (some ⟨g392, 0, none⟩), .int .i64 ((rd_T40 l3 x11_2).f1)] (by rfl) rfl rfl (by (try simp only [List.map_toArray, List.map_cons, List.map_nil]); first | done | rfl | (simp only [List.length_drop, List.length_take]; rfl)) ?_
                                    with_reducible refine (breaker_Breaker_State.calls g392 x393000_40 x393001_40 x393002_40 x393003_40 x393004_40 x393005_40 x393006_40 ((rd_T40 l3 x11_2).f1) t452 t453 t454 t455 t456 t457 t458 t459 w _ ?side1 ?side2 A88.out).mono ?_
                                    (case side1 => repeat (first | (with_reducible first | exact HI392.out | apply IsS57.alloc | apply IsS57.drewN | apply IsS57.drew | apply IsS57.set_0 | apply IsS57.set_1 | apply IsS57.set_2 | apply IsS57.set_3 | apply IsS57.set_4 | apply IsS57.set_5 | apply IsS57.set_6 | refine IsS57.far ?_ NB392_393.out _) | exact HI392.out))
                                    (case side2 => repeat (first | (with_reducible first | exact HB.out | apply below_alloc | apply pw_below_drewN | apply below_drew1 | refine below_set ?_ (IsS57.ge HI392.out) | refine below_set ?_ GE393.out) | exact HB.out))
                                    rintro e w110 ⟨rfl, hi, hb, hk⟩
                                    refine ⟨_, rfl, ?_⟩
                                    have n0_ := Aside0.mk (KeepBut.blk hk (g' := gb393) (o := .cells #[.bool x394000_40, .int .i64 x394001_40, .int .i64 x394002_40, .int .i64 x394003_40] 38 (0, 0)) (by (with_reducible repeat (first | refine blk_drewN ?_ _ | refine blk_drew ?_ | refine blk_alloc ?_ _)); exact BK393.out) NB393_392.out (by simp))
                                    have n1_ := Aside0.mk (hb)
                                    have n2_ := Aside0.mk (hi)
                                    clear BK393
                                    clear HB
                                    clear HI392
                                    have BK393 := n0_
                                    have HB := n1_
                                    have HI392 := n2_
                                    clear n0_ n1_ n2_
                                    (try clear hb); (try clear hb2); (try clear hk); (try clear hi)
                                    refine hK.out _ _ ⟨(blk_cell BK393.out 0).trans rfl, (blk_cell BK393.out 1).trans rfl, (blk_cell BK393.out 2).trans rfl, (blk_cell BK393.out 3).trans rfl⟩ (fun hHeld => ?_)
                                    clear hK K
                                    refine norm_ (a' := ?_) ?_ ?_
                                    rotate_left
                                    · show Act.put _ (some 133) _ = _
                                      simp only [Act.put, sa_, sz_, ss_, i64_w, i32_w]
                                      rfl
                                    refine one_ (i := 5) (N := some 136) (b_ 21 63) rfl rfl (one_of HT_.out (by kernel_rfl)) (by decide) (fun K hK => ?_)
                                    refine goes_ Try.func31 (by kernel_rfl) rfl #[.agg #[.bool x394000_40, .int .i64 x394001_40, .int .i64 x394002_40, .int .i64 x394003_40], .int .i64 ((rd_T40 l3 x11_2).f1)] (by rfl) rfl rfl (by (try simp only [List.map_toArray, List.map_cons, List.map_nil]); first | done | rfl | (simp only [List.length_drop, List.length_take]; rfl)) ?_
                                    with_reducible refine (usufructref10_Kind.calls x394000_40 x394001_40 x394002_40 x394003_40 ((rd_T40 l3 x11_2).f1) t460 _ A89.out).mono ?_
                                    rintro e w111 ⟨rfl, hb⟩
                                    refine ⟨_, rfl, ?_⟩
                                    have n0_ := Aside0.mk (blk_below (g := gb393) (o := .cells #[.bool x394000_40, .int .i64 x394001_40, .int .i64 x394002_40, .int .i64 x394003_40] 38 (0, 0)) (by (with_reducible repeat (first | refine blk_drewN ?_ _ | refine blk_drew ?_ | refine blk_alloc ?_ _)); exact BK393.out) hb)
                                    have n1_ := Aside0.mk (IsS57.below (by repeat (first | (with_reducible first | exact HI392.out | apply IsS57.alloc | apply IsS57.drewN | apply IsS57.drew | apply IsS57.set_0 | apply IsS57.set_1 | apply IsS57.set_2 | apply IsS57.set_3 | apply IsS57.set_4 | apply IsS57.set_5 | apply IsS57.set_6 | refine IsS57.far ?_ NB392_393.out _) | exact HI392.out)) hb)
                                    have n2_ := Aside0.mk (below_step (by repeat (first | (with_reducible first | exact HB.out | apply below_alloc | apply pw_below_drewN | apply below_drew1 | refine below_set ?_ (IsS57.ge HI392.out) | refine below_set ?_ GE393.out) | exact HB.out)) hb)
                                    clear BK393
                                    clear HI392
                                    clear HB
                                    have BK393 := n0_
                                    have HI392 := n1_
                                    have HB := n2_
                                    clear n0_ n1_ n2_
                                    (try clear hb); (try clear hb2); (try clear hk); (try clear hi)
                                    refine hK.out _ _ ⟨(blk_cell BK393.out 0).trans rfl, (blk_cell BK393.out 1).trans rfl, (blk_cell BK393.out 2).trans rfl, (blk_cell BK393.out 3).trans rfl⟩ (fun hHeld => ?_)
                                    clear hK K
                                    refine norm_ (a' := ?_) ?_ ?_
                                    rotate_left
                                    · show Act.put _ (some 136) _ = _
                                      simp only [Act.put, sa_, sz_, ss_, i64_w, i32_w]
                                      rfl
                                    refine pure_ (i := 6) (N := some 137) (v := ?_) (a' := ?_) (b_ 21 127) rfl rfl (any_of HT_.out (by kernel_rfl)) (fun _ _ _ h => h) (Or.inl ⟨by rfl, ?_⟩) ?_ ?_; rotate_left; (· intro w'; go_simp; with_reducible rfl); rotate_left; (· simp only [Act.put, sa_, sz_, ss_, i64_w, i32_w]; rfl)
                                    refine pure_ (i := 7) (N := some 138) (v := ?_) (a' := ?_) (b_ 21 255) rfl rfl (any_of HT_.out (by kernel_rfl)) (fun _ _ _ h => h) (Or.inl ⟨by rfl, ?_⟩) ?_ ?_; rotate_left; (· intro w'; go_simp; with_reducible rfl); rotate_left; (· simp only [Act.put, sa_, sz_, ss_, i64_w, i32_w]; rfl)
                                    refine pure_ (i := 8) (N := some 139) (v := undef) (a' := ?_) (b_ 21 511) rfl rfl (any_of HT_.out (by kernel_rfl)) (fun _ _ _ h => h) (Or.inr ⟨by rfl, rfl⟩) ?_ ?_
                                    rotate_left
                                    · simp only [Act.put, sa_, sz_, ss_, i64_w, i32_w]
                                      rfl
                                    refine pure_ (i := 9) (N := some 140) (v := undef) (a' := ?_) (b_ 21 1023) rfl rfl (any_of HT_.out (by kernel_rfl)) (fun _ _ _ h => h) (Or.inr ⟨by rfl, rfl⟩) ?_ ?_
                                    rotate_left
                                    · simp only [Act.put, sa_, sz_, ss_, i64_w, i32_w]
                                      rfl
                                    refine pure_ (i := 10) (N := some 141) (v := undef) (a' := ?_) (b_ 21 2047) rfl rfl (any_of HT_.out (by kernel_rfl)) (fun _ _ _ h => h) (Or.inr ⟨by rfl, rfl⟩) ?_ ?_
                                    rotate_left
                                    · simp only [Act.put, sa_, sz_, ss_, i64_w, i32_w]
                                      rfl
                                    refine pure_ (i := 11) (N := some 142) (v := undef) (a' := ?_) (b_ 21 4095) rfl rfl (any_of HT_.out (by kernel_rfl)) (fun _ _ _ h => h) (Or.inr ⟨by rfl, rfl⟩) ?_ ?_
                                    rotate_left
                                    · simp only [Act.put, sa_, sz_, ss_, i64_w, i32_w]
                                      rfl
                                    refine pure_ (i := 12) (N := some 143) (v := undef) (a' := ?_) (b_ 21 8191) rfl rfl (any_of HT_.out (by kernel_rfl)) (fun _ _ _ h => h) (Or.inr ⟨by rfl, rfl⟩) ?_ ?_
                                    rotate_left
                                    · simp only [Act.put, sa_, sz_, ss_, i64_w, i32_w]
                                      rfl
                                    refine pure_ (i := 13) (N := some 144) (v := ?_) (a' := ?_) (b_ 21 16383) rfl rfl (any_of HT_.out (by kernel_rfl)) (fun _ _ _ h => h) (Or.inl ⟨by rfl, ?_⟩) ?_ ?_; rotate_left; (· intro w'; go_simp; with_reducible rfl); rotate_left; (· simp only [Act.put, sa_, sz_, ss_, i64_w, i32_w]; rfl)
                                    refine pure_ (i := 14) (N := some 145) (v := ?_) (a' := ?_) (b_ 21 32767) rfl rfl (any_of HT_.out (by kernel_rfl)) (fun _ _ _ h => h) (Or.inl ⟨by rfl, ?_⟩) ?_ ?_; rotate_left; (· intro w'; go_simp; with_reducible rfl); rotate_left; (· simp only [Act.put, sa_, sz_, ss_, i64_w, i32_w]; rfl)
                                    refine pure_ (i := 15) (N := some 146) (v := undef) (a' := ?_) (b_ 21 65535) rfl rfl (any_of HT_.out (by kernel_rfl)) (fun _ _ _ h => h) (Or.inr ⟨by rfl, rfl⟩) ?_ ?_
                                    rotate_left
                                    · simp only [Act.put, sa_, sz_, ss_, i64_w, i32_w]
                                      rfl
                                    refine pure_ (i := 16) (N := some 147) (v := undef) (a' := ?_) (b_ 21 131071) rfl rfl (any_of HT_.out (by kernel_rfl)) (fun _ _ _ h => h) (Or.inr ⟨by rfl, rfl⟩) ?_ ?_
                                    rotate_left
                                    · simp only [Act.put, sa_, sz_, ss_, i64_w, i32_w]
                                      rfl
                                    refine pure_ (i := 17) (N := some 148) (v := undef) (a' := ?_) (b_ 21 262143) rfl rfl (any_of HT_.out (by kernel_rfl)) (fun _ _ _ h => h) (Or.inr ⟨by rfl, rfl⟩) ?_ ?_
                                    rotate_left
                                    · simp only [Act.put, sa_, sz_, ss_, i64_w, i32_w]
                                      rfl
                                    refine pure_ (i := 18) (N := some 149) (v := undef) (a' := ?_) (b_ 21 524287) rfl rfl (any_of HT_.out (by kernel_rfl)) (fun _ _ _ h => h) (Or.inr ⟨by rfl, rfl⟩) ?_ ?_
                                    rotate_left
                                    · simp only [Act.put, sa_, sz_, ss_, i64_w, i32_w]
                                      rfl
                                    refine pure_ (i := 19) (N := some 150) (v := undef) (a' := ?_) (b_ 21 1048575) rfl rfl (any_of HT_.out (by kernel_rfl)) (fun _ _ _ h => h) (Or.inr ⟨by rfl, rfl⟩) ?_ ?_
                                    rotate_left
                                    · simp only [Act.put, sa_, sz_, ss_, i64_w, i32_w]
                                      rfl
                                    refine pure_ (i := 20) (N := some 151) (v := ?_) (a' := ?_) (b_ 21 2097151) rfl rfl (any_of HT_.out (by kernel_rfl)) (fun _ _ _ h => h) (Or.inl ⟨by rfl, ?_⟩) ?_ ?_; rotate_left; (· intro w'; go_simp; with_reducible rfl); rotate_left; (· simp only [Act.put, sa_, sz_, ss_, i64_w, i32_w]; rfl)
                                    refine done_ (done_of HT_.out (by kernel_rfl)) ?_
                                    try go_wp2
                                    go_ret
                                    exact ⟨by first | rfl | (simp [errW_none, errW_some] <;> rfl) | (simp [*, errW_none, errW_some] <;> rfl), by repeat (first | (with_reducible first | exact HB.out | apply below_alloc | apply pw_below_drewN | apply below_drew1 | refine below_set ?_ (IsS57.ge HI392.out) | refine below_set ?_ GE393.out) | exact HB.out)⟩
                            · rw [if_neg c40] at H
                              exact absurd H (by simp)
                          · rw [if_neg c39] at H
                            exact absurd H (by simp)
                  · rw [if_neg c23] at H
                    exact absurd H (by simp)
                · rw [if_neg c22] at H
                  have c22b0 : decide (x11_2 < (l3.length : Int)) = false := decide_eq_false c22
                  clear c22
                  obtain rfl := Option.some.inj H
                  go_wp2
                  go_ret
                  exact ⟨by first | rfl | (simp [errW_none, errW_some] <;> rfl) | (simp [*, errW_none, errW_some] <;> rfl), by repeat (first | (with_reducible first | exact HB.out | apply below_alloc | apply pw_below_drewN | apply below_drew1 | refine below_set ?_ (IsS57.ge HI392.out) | refine below_set ?_ GE393.out) | exact HB.out)⟩
  · replace c6 := Bool.eq_false_iff.mpr c6
    subst c6
    have H1 : (some false) = some r := by rw [if_neg (show ¬ (false = true) by decide)] at H; exact H
    clear H
    have H := H1
    clear H1
    obtain rfl := Option.some.inj H
    go_enter Try.func8, Try.ntmps8
    go_wp2_with (first | ((with_reducible refine gate_callee (f := 25) rfl ?_); refine goesL_ (some 15) rfl rfl Try.func25 (by kernel_rfl) rfl #[] rfl (by (try simp only [List.map_toArray, List.map_cons, List.map_nil]); first | done | rfl | (simp only [List.length_drop, List.length_take]; rfl)) ?_; (with_reducible refine (usufructlaw10_awake.calls  false _ A5.out).mono ?_); rintro e w112 ⟨rfl, hb⟩; refine ⟨_, rfl, ?_⟩; have n0_ := Aside0.mk (below_step (by repeat (first | (with_reducible first | exact HB.out | apply below_alloc | apply pw_below_drewN | apply below_drew1) | exact HB.out)) hb); clear HB; have HB := n0_; clear n0_; (try clear hb); (try clear hb2); (try clear hk); (try clear hi)))
    go_ret
    exact ⟨by first | rfl | (simp [errW_none, errW_some] <;> rfl) | (simp [*, errW_none, errW_some] <;> rfl), by repeat (first | (with_reducible first | exact HB.out | apply below_alloc | apply pw_below_drewN | apply below_drew1) | exact HB.out)⟩

end Go.Proofs.Ytiohhfjocmibdaa.Q
