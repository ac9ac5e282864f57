-- written for this claim by a program of the session
import Derived.Test.YtiohhfjocmibdaaQx0
import Derived.Test.YtiohhfjocmibdaaQx15
import Derived.Test.YtiohhfjocmibdaaQx17
import Derived.Test.YtiohhfjocmibdaaQx18
import Derived.Test.YtiohhfjocmibdaaQx19
import Derived.Test.YtiohhfjocmibdaaQx24
import Derived.Test.YtiohhfjocmibdaaQx25
import Derived.Test.YtiohhfjocmibdaaGBreakerNew
namespace Go.Proofs.Ytiohhfjocmibdaa.Q
open Go.RowKit Go.Proofs.YtiohhfjocmibdaaW.PrintWords Go.Proofs.YtiohhfjocmibdaaW.PrintLast Go.Proofs.YtiohhfjocmibdaaW.PrintMore
attribute [local go_sem] max2_int min2_int max_two min_two max_three min_three max_four min_four   -- for this text's walks alone
set_option linter.unusedVariables false
set_option linter.unusedSimpArgs false

/-! ### usufructlaw10_BreakerHolds: function 9 -/
mutual
def usufructlaw10_BreakerHolds.l0 : Nat → List (S40) → Int → Int → Int → Int → Int → Int → Int → Int → Int → Int → Option (Bool)
  | 0, _, _, _, _, _, _, _, _, _, _, _ => none
  | k + 1, x3, x9, x11, x12, x486000, x486001, x486002, x486003, x486004, x486005, x486006 => if x12 < (x3.length : Int) then (if 0 ≤ x12 then (if ((rd_T40 x3 x12).f1) < 0 then (usufructlaw10_BreakerHolds.j1 k x3 x9 x11 x12 true x486000 x486001 x486002 x486003 x486004 x486005 x486006) else (usufructlaw10_BreakerHolds.j1 k x3 x9 x11 x12 (decide (((rd_T40 x3 x12).f1) > 1000000)) x486000 x486001 x486002 x486003 x486004 x486005 x486006)) else (none)) else (some true)
def usufructlaw10_BreakerHolds.j1 : Nat → List (S40) → Int → Int → Int → Bool → Int → Int → Int → Int → Int → Int → Int → Option (Bool)
  | 0, _, _, _, _, _, _, _, _, _, _, _, _ => none
  | k + 1, x3, x9, x11, x12, x52, x486000, x486001, x486002, x486003, x486004, x486005, x486006 => if x52 = true then (some true) else (if 0 ≤ x12 then (if x12 < (x3.length : Int) then ((breaker_Breaker_State.f x486000 x486001 x486002 x486003 x486004 x486005 x486006 (wrap64 (x11 + ((rd_T40 x3 x12).f1)))).bind fun bt489 => (if ((rd_T40 x3 x12).f0) = 0 then (usufructlaw10_BreakerHolds.j2 k x3 x9 (wrap64 (x11 + ((rd_T40 x3 x12).f1))) x12 bt489.1 ((rd_T40 x3 x12).f0) (((rd_T40 x3 x12).f0) == 0) bt489.2.1 bt489.2.2.1 bt489.2.2.2.1 bt489.2.2.2.2.1 bt489.2.2.2.2.2.1 bt489.2.2.2.2.2.2.1 bt489.2.2.2.2.2.2.2) else (usufructlaw10_BreakerHolds.j2 k x3 x9 (wrap64 (x11 + ((rd_T40 x3 x12).f1))) x12 bt489.1 ((rd_T40 x3 x12).f0) (((rd_T40 x3 x12).f0) == 1) bt489.2.1 bt489.2.2.1 bt489.2.2.2.1 bt489.2.2.2.2.1 bt489.2.2.2.2.2.1 bt489.2.2.2.2.2.2.1 bt489.2.2.2.2.2.2.2))) else (none)) else (none))
def usufructlaw10_BreakerHolds.j4 : Nat → List (S40) → Int → Int → Int → Int → Int → Int → Int → Int → Int → Int → Option (Bool)
  | 0, _, _, _, _, _, _, _, _, _, _, _ => none
  | k + 1, x3, x9, x11, x12, x486000, x486001, x486002, x486003, x486004, x486005, x486006 => (breaker_Breaker_Out.f x486000 x486001 x486002 x486003 x486004 x486005 x486006).bind fun bt521 => (if bt521.1 < 0 then (some false) else ((breaker_Breaker_Out.f bt521.2.1 bt521.2.2.1 bt521.2.2.2.1 bt521.2.2.2.2.1 bt521.2.2.2.2.2.1 bt521.2.2.2.2.2.2.1 bt521.2.2.2.2.2.2.2).bind fun bt529 => (if bt529.1 > x9 then (some false) else ((breaker_Breaker_State.f bt529.2.1 bt529.2.2.1 bt529.2.2.2.1 bt529.2.2.2.2.1 bt529.2.2.2.2.2.1 bt529.2.2.2.2.2.2.1 bt529.2.2.2.2.2.2.2 x11).bind fun bt537 => (if bt537.1 = 0 then ((breaker_Breaker_Out.f bt537.2.1 bt537.2.2.1 bt537.2.2.2.1 bt537.2.2.2.2.1 bt537.2.2.2.2.2.1 bt537.2.2.2.2.2.2.1 bt537.2.2.2.2.2.2.2).bind fun bt545 => (if bt545.1 = 0 then (usufructlaw10_BreakerHolds.l0 k x3 x9 x11 (wrap64 (x12 + 1)) bt545.2.1 bt545.2.2.1 bt545.2.2.2.1 bt545.2.2.2.2.1 bt545.2.2.2.2.2.1 bt545.2.2.2.2.2.2.1 bt545.2.2.2.2.2.2.2) else (some false))) else (usufructlaw10_BreakerHolds.l0 k x3 x9 x11 (wrap64 (x12 + 1)) bt537.2.1 bt537.2.2.1 bt537.2.2.2.1 bt537.2.2.2.2.1 bt537.2.2.2.2.2.1 bt537.2.2.2.2.2.2.1 bt537.2.2.2.2.2.2.2))))))
def usufructlaw10_BreakerHolds.j2 : Nat → List (S40) → Int → Int → Int → Int → Int → Bool → Int → Int → Int → Int → Int → Int → Int → Option (Bool)
  | 0, _, _, _, _, _, _, _, _, _, _, _, _, _, _ => none
  | k + 1, x3, x9, x11, x12, x13, x67, x68, x486000, x486001, x486002, x486003, x486004, x486005, x486006 => if x68 = true then ((breaker_Breaker_Send.f x486000 x486001 x486002 x486003 x486004 x486005 x486006 x11).bind fun bt498 => (if bt498.1 = true then (if x13 = 1 then (some false) else (usufructlaw10_BreakerHolds.j4 k x3 x9 x11 x12 bt498.2.1 bt498.2.2.1 bt498.2.2.2.1 bt498.2.2.2.2.1 bt498.2.2.2.2.2.1 bt498.2.2.2.2.2.2.1 bt498.2.2.2.2.2.2.2)) else (usufructlaw10_BreakerHolds.j4 k x3 x9 x11 x12 bt498.2.1 bt498.2.2.1 bt498.2.2.2.1 bt498.2.2.2.2.1 bt498.2.2.2.2.2.1 bt498.2.2.2.2.2.2.1 bt498.2.2.2.2.2.2.2))) else (if x67 = 2 then (usufructlaw10_BreakerHolds.j3 k x3 x9 x11 x12 x67 (x67 == 2) x486000 x486001 x486002 x486003 x486004 x486005 x486006) else (usufructlaw10_BreakerHolds.j3 k x3 x9 x11 x12 x67 (x67 == 3) x486000 x486001 x486002 x486003 x486004 x486005 x486006))
def usufructlaw10_BreakerHolds.j3 : Nat → List (S40) → Int → Int → Int → Int → Bool → Int → Int → Int → Int → Int → Int → Int → Option (Bool)
  | 0, _, _, _, _, _, _, _, _, _, _, _, _, _ => none
  | k + 1, x3, x9, x11, x12, x67, x78, x486000, x486001, x486002, x486003, x486004, x486005, x486006 => if x78 = true then (if 0 ≤ x12 then (if x12 < (x3.length : Int) then ((breaker_Breaker_Done.f x486000 x486001 x486002 x486003 x486004 x486005 x486006 x11 (((rd_T40 x3 x12).f0) == 2)).bind fun bt507 => (usufructlaw10_BreakerHolds.j4 k x3 x9 x11 x12 bt507.1 bt507.2.1 bt507.2.2.1 bt507.2.2.2.1 bt507.2.2.2.2.1 bt507.2.2.2.2.2.1 bt507.2.2.2.2.2.2)) else (none)) else (none)) else (if x67 = 4 then ((breaker_Breaker_Lost.f x486000 x486001 x486002 x486003 x486004 x486005 x486006 x11).bind fun bt514 => (usufructlaw10_BreakerHolds.j4 k x3 x9 x11 x12 bt514.1 bt514.2.1 bt514.2.2.1 bt514.2.2.2.1 bt514.2.2.2.2.1 bt514.2.2.2.2.2.1 bt514.2.2.2.2.2.2)) else (usufructlaw10_BreakerHolds.j4 k x3 x9 x11 x12 x486000 x486001 x486002 x486003 x486004 x486005 x486006))
end
def usufructlaw10_BreakerHolds.f (k : Nat) (a0 : Int) (a1 : Int) (a2 : Int) (l3 : List (S40)) : Option (Bool) := (usufructlaw10_awake.f).bind fun t477 => (if t477 = true then (if (l3.length : Int) > 60 then (some true) else ((breaker_New.f (wrap64 (1 + (Int.tmod (wrap64 (a0)) 9))) (wrap64 (a1)) (wrap64 (1 + (Int.tmod (wrap64 (a2)) 9)))).bind fun bt478 => (usufructlaw10_BreakerHolds.l0 k l3 (wrap64 (1 + (Int.tmod (wrap64 (a2)) 9))) 0 0 bt478.1 bt478.2.1 bt478.2.2.1 bt478.2.2.2.1 bt478.2.2.2.2.1 bt478.2.2.2.2.2.1 bt478.2.2.2.2.2.2))) else (some false))
theorem usufructlaw10_BreakerHolds.mono_l : ∀ k, (∀ y0 y1 y2 y3 y4 y5 y6 y7 y8 y9 y10, LeO (usufructlaw10_BreakerHolds.l0 k y0 y1 y2 y3 y4 y5 y6 y7 y8 y9 y10) (usufructlaw10_BreakerHolds.l0 (k + 1) y0 y1 y2 y3 y4 y5 y6 y7 y8 y9 y10)) ∧ (∀ y0 y1 y2 y3 y4 y5 y6 y7 y8 y9 y10 y11, LeO (usufructlaw10_BreakerHolds.j1 k y0 y1 y2 y3 y4 y5 y6 y7 y8 y9 y10 y11) (usufructlaw10_BreakerHolds.j1 (k + 1) y0 y1 y2 y3 y4 y5 y6 y7 y8 y9 y10 y11)) ∧ (∀ y0 y1 y2 y3 y4 y5 y6 y7 y8 y9 y10, LeO (usufructlaw10_BreakerHolds.j4 k y0 y1 y2 y3 y4 y5 y6 y7 y8 y9 y10) (usufructlaw10_BreakerHolds.j4 (k + 1) y0 y1 y2 y3 y4 y5 y6 y7 y8 y9 y10)) ∧ (∀ y0 y1 y2 y3 y4 y5 y6 y7 y8 y9 y10 y11 y12 y13, LeO (usufructlaw10_BreakerHolds.j2 k y0 y1 y2 y3 y4 y5 y6 y7 y8 y9 y10 y11 y12 y13) (usufructlaw10_BreakerHolds.j2 (k + 1) y0 y1 y2 y3 y4 y5 y6 y7 y8 y9 y10 y11 y12 y13)) ∧ (∀ y0 y1 y2 y3 y4 y5 y6 y7 y8 y9 y10 y11 y12, LeO (usufructlaw10_BreakerHolds.j3 k y0 y1 y2 y3 y4 y5 y6 y7 y8 y9 y10 y11 y12) (usufructlaw10_BreakerHolds.j3 (k + 1) y0 y1 y2 y3 y4 y5 y6 y7 y8 y9 y10 y11 y12))
  | 0 => ⟨fun _ _ _ _ _ _ _ _ _ _ _ r h => by simp [usufructlaw10_BreakerHolds.l0] at h, fun _ _ _ _ _ _ _ _ _ _ _ _ r h => by simp [usufructlaw10_BreakerHolds.j1] at h, fun _ _ _ _ _ _ _ _ _ _ _ r h => by simp [usufructlaw10_BreakerHolds.j4] at h, fun _ _ _ _ _ _ _ _ _ _ _ _ _ _ r h => by simp [usufructlaw10_BreakerHolds.j2] at h, fun _ _ _ _ _ _ _ _ _ _ _ _ _ r h => by simp [usufructlaw10_BreakerHolds.j3] at h⟩
  | k + 1 => by
    obtain ⟨ih0, ih1, ih2, ih3, ih4⟩ := usufructlaw10_BreakerHolds.mono_l k
    refine ⟨?_, ?_, ?_, ?_, ?_⟩
    · intro y0 y1 y2 y3 y4 y5 y6 y7 y8 y9 y10
      unfold usufructlaw10_BreakerHolds.l0
      repeat' first
      | (with_reducible exact ih0 _ _ _ _ _ _ _ _ _ _ _)
      | (with_reducible exact ih1 _ _ _ _ _ _ _ _ _ _ _ _)
      | (with_reducible exact ih2 _ _ _ _ _ _ _ _ _ _ _)
      | (with_reducible exact ih3 _ _ _ _ _ _ _ _ _ _ _ _ _ _)
      | (with_reducible exact ih4 _ _ _ _ _ _ _ _ _ _ _ _ _)
      | (with_reducible exact LeO.refl _)
      | (with_reducible exact LeO.none _)
      | (with_reducible refine LeO.ite ?_ ?_)
      | (with_reducible refine LeO.bind ?_ (fun _ => ?_))
      | exact ih0 _ _ _ _ _ _ _ _ _ _ _
      | exact ih1 _ _ _ _ _ _ _ _ _ _ _ _
      | exact ih2 _ _ _ _ _ _ _ _ _ _ _
      | exact ih3 _ _ _ _ _ _ _ _ _ _ _ _ _ _
      | exact ih4 _ _ _ _ _ _ _ _ _ _ _ _ _
      | exact LeO.none _
      | refine LeO.ite ?_ ?_
      | refine LeO.bind ?_ (fun _ => ?_)
    · intro y0 y1 y2 y3 y4 y5 y6 y7 y8 y9 y10 y11
      unfold usufructlaw10_BreakerHolds.j1
      repeat' first
      | (with_reducible exact ih0 _ _ _ _ _ _ _ _ _ _ _)
      | (with_reducible exact ih1 _ _ _ _ _ _ _ _ _ _ _ _)
      | (with_reducible exact ih2 _ _ _ _ _ _ _ _ _ _ _)
      | (with_reducible exact ih3 _ _ _ _ _ _ _ _ _ _ _ _ _ _)
      | (with_reducible exact ih4 _ _ _ _ _ _ _ _ _ _ _ _ _)
      | (with_reducible exact LeO.refl _)
      | (with_reducible exact LeO.none _)
      | (with_reducible refine LeO.ite ?_ ?_)
      | (with_reducible refine LeO.bind ?_ (fun _ => ?_))
      | exact ih0 _ _ _ _ _ _ _ _ _ _ _
      | exact ih1 _ _ _ _ _ _ _ _ _ _ _ _
      | exact ih2 _ _ _ _ _ _ _ _ _ _ _
      | exact ih3 _ _ _ _ _ _ _ _ _ _ _ _ _ _
      | exact ih4 _ _ _ _ _ _ _ _ _ _ _ _ _
      | exact LeO.none _
      | refine LeO.ite ?_ ?_
      | refine LeO.bind ?_ (fun _ => ?_)
    · intro y0 y1 y2 y3 y4 y5 y6 y7 y8 y9 y10
      unfold usufructlaw10_BreakerHolds.j4
      repeat' first
      | (with_reducible exact ih0 _ _ _ _ _ _ _ _ _ _ _)
      | (with_reducible exact ih1 _ _ _ _ _ _ _ _ _ _ _ _)
      | (with_reducible exact ih2 _ _ _ _ _ _ _ _ _ _ _)
      | (with_reducible exact ih3 _ _ _ _ _ _ _ _ _ _ _ _ _ _)
      | (with_reducible exact ih4 _ _ _ _ _ _ _ _ _ _ _ _ _)
      | (with_reducible exact LeO.refl _)
      | (with_reducible exact LeO.none _)
      | (with_reducible refine LeO.ite ?_ ?_)
      | (with_reducible refine LeO.bind ?_ (fun _ => ?_))
      | exact ih0 _ _ _ _ _ _ _ _ _ _ _
      | exact ih1 _ _ _ _ _ _ _ _ _ _ _ _
      | exact ih2 _ _ _ _ _ _ _ _ _ _ _
      | exact ih3 _ _ _ _ _ _ _ _ _ _ _ _ _ _
      | exact ih4 _ _ _ _ _ _ _ _ _ _ _ _ _
      | exact LeO.none _
      | refine LeO.ite ?_ ?_
      | refine LeO.bind ?_ (fun _ => ?_)
    · intro y0 y1 y2 y3 y4 y5 y6 y7 y8 y9 y10 y11 y12 y13
      unfold usufructlaw10_BreakerHolds.j2
      repeat' first
      | (with_reducible exact ih0 _ _ _ _ _ _ _ _ _ _ _)
      | (with_reducible exact ih1 _ _ _ _ _ _ _ _ _ _ _ _)
      | (with_reducible exact ih2 _ _ _ _ _ _ _ _ _ _ _)
      | (with_reducible exact ih3 _ _ _ _ _ _ _ _ _ _ _ _ _ _)
      | (with_reducible exact ih4 _ _ _ _ _ _ _ _ _ _ _ _ _)
      | (with_reducible exact LeO.refl _)
      | (with_reducible exact LeO.none _)
      | (with_reducible refine LeO.ite ?_ ?_)
      | (with_reducible refine LeO.bind ?_ (fun _ => ?_))
      | exact ih0 _ _ _ _ _ _ _ _ _ _ _
      | exact ih1 _ _ _ _ _ _ _ _ _ _ _ _
      | exact ih2 _ _ _ _ _ _ _ _ _ _ _
      | exact ih3 _ _ _ _ _ _ _ _ _ _ _ _ _ _
      | exact ih4 _ _ _ _ _ _ _ _ _ _ _ _ _
      | exact LeO.none _
      | refine LeO.ite ?_ ?_
      | refine LeO.bind ?_ (fun _ => ?_)
    · intro y0 y1 y2 y3 y4 y5 y6 y7 y8 y9 y10 y11 y12
      unfold usufructlaw10_BreakerHolds.j3
      repeat' first
      | (with_reducible exact ih0 _ _ _ _ _ _ _ _ _ _ _)
      | (with_reducible exact ih1 _ _ _ _ _ _ _ _ _ _ _ _)
      | (with_reducible exact ih2 _ _ _ _ _ _ _ _ _ _ _)
      | (with_reducible exact ih3 _ _ _ _ _ _ _ _ _ _ _ _ _ _)
      | (with_reducible exact ih4 _ _ _ _ _ _ _ _ _ _ _ _ _)
      | (with_reducible exact LeO.refl _)
      | (with_reducible exact LeO.none _)
      | (with_reducible refine LeO.ite ?_ ?_)
      | (with_reducible refine LeO.bind ?_ (fun _ => ?_))
      | exact ih0 _ _ _ _ _ _ _ _ _ _ _
      | exact ih1 _ _ _ _ _ _ _ _ _ _ _ _
      | exact ih2 _ _ _ _ _ _ _ _ _ _ _
      | exact ih3 _ _ _ _ _ _ _ _ _ _ _ _ _ _
      | exact ih4 _ _ _ _ _ _ _ _ _ _ _ _ _
      | exact LeO.none _
      | refine LeO.ite ?_ ?_
      | refine LeO.bind ?_ (fun _ => ?_)
theorem usufructlaw10_BreakerHolds.mono : ∀ a0 a1 a2 a3 k, LeO (usufructlaw10_BreakerHolds.f k a0 a1 a2 a3) (usufructlaw10_BreakerHolds.f (k + 1) a0 a1 a2 a3) := by
  intro a0 a1 a2 a3 k
  obtain ⟨ih0, ih1, ih2, ih3, ih4⟩ := usufructlaw10_BreakerHolds.mono_l k
  unfold usufructlaw10_BreakerHolds.f
  repeat' first
      | (with_reducible exact ih0 _ _ _ _ _ _ _ _ _ _ _)
      | (with_reducible exact ih1 _ _ _ _ _ _ _ _ _ _ _ _)
      | (with_reducible exact ih2 _ _ _ _ _ _ _ _ _ _ _)
      | (with_reducible exact ih3 _ _ _ _ _ _ _ _ _ _ _ _ _ _)
      | (with_reducible exact ih4 _ _ _ _ _ _ _ _ _ _ _ _ _)
      | (with_reducible exact LeO.refl _)
      | (with_reducible exact LeO.none _)
      | (with_reducible refine LeO.ite ?_ ?_)
      | (with_reducible refine LeO.bind ?_ (fun _ => ?_))
      | exact ih0 _ _ _ _ _ _ _ _ _ _ _
      | exact ih1 _ _ _ _ _ _ _ _ _ _ _ _
      | exact ih2 _ _ _ _ _ _ _ _ _ _ _
      | exact ih3 _ _ _ _ _ _ _ _ _ _ _ _ _ _
      | exact ih4 _ _ _ _ _ _ _ _ _ _ _ _ _
      | exact LeO.none _
      | refine LeO.ite ?_ ?_
      | refine LeO.bind ?_ (fun _ => ?_)
set_option maxHeartbeats 8000000 in
set_option maxRecDepth 100000 in
theorem usufructlaw10_BreakerHolds.calls (k : Nat) (a0 : Int) (a1 : Int) (a2 : Int) (A3 : Option Addr) (c3 : Nat) (l3 : List (S40)) (r : Bool) (w : World) (hr3 : Kd.C k40 w A3 l3.length l3) (hc3 : l3.length ≤ c3) (h : usufructlaw10_BreakerHolds.f k a0 a1 a2 l3 = some r) :
    Calls Try.prog 9 #[.int .u8 a0, .int .u8 a1, .int .u8 a2, .slice A3 l3.length c3] w fun e w' => e = .returned (.bool r) ∧ Below w.heap.size w w' := by
  have HR3 := Aside0.mk hr3
  have HC3 := Aside0.mk hc3
  clear hr3 hc3
  have HB := Aside0.mk (Below.refl w.heap.size w)
  have H : ((usufructlaw10_awake.f).bind fun t477 => (if t477 = true then (if (l3.length : Int) > 60 then (some true) else ((breaker_New.f (wrap64 (1 + (Int.tmod (wrap64 (a0)) 9))) (wrap64 (a1)) (wrap64 (1 + (Int.tmod (wrap64 (a2)) 9)))).bind fun bt478 => (usufructlaw10_BreakerHolds.l0 k l3 (wrap64 (1 + (Int.tmod (wrap64 (a2)) 9))) 0 0 bt478.1 bt478.2.1 bt478.2.2.1 bt478.2.2.2.1 bt478.2.2.2.2.1 bt478.2.2.2.2.2.1 bt478.2.2.2.2.2.2))) else (some false))) = some r := h
  clear h
  replace H := Option.bind_eq_some_iff.mp H
  obtain ⟨t477, A50, H⟩ := H
  replace H : (if t477 = true then (if (l3.length : Int) > 60 then (some true) else ((breaker_New.f (wrap64 (1 + (Int.tmod (wrap64 (a0)) 9))) (wrap64 (a1)) (wrap64 (1 + (Int.tmod (wrap64 (a2)) 9)))).bind fun bt478 => (usufructlaw10_BreakerHolds.l0 k l3 (wrap64 (1 + (Int.tmod (wrap64 (a2)) 9))) 0 0 bt478.1 bt478.2.1 bt478.2.2.1 bt478.2.2.2.1 bt478.2.2.2.2.1 bt478.2.2.2.2.2.1 bt478.2.2.2.2.2.2))) else (some false)) = some r := H
  have A5 := Aside0.mk A50
  clear A50
  by_cases c6 : t477 = true
  · subst c6
    have H1 : (if (l3.length : Int) > 60 then (some true) else ((breaker_New.f (wrap64 (1 + (Int.tmod (wrap64 (a0)) 9))) (wrap64 (a1)) (wrap64 (1 + (Int.tmod (wrap64 (a2)) 9)))).bind fun bt478 => (usufructlaw10_BreakerHolds.l0 k l3 (wrap64 (1 + (Int.tmod (wrap64 (a2)) 9))) 0 0 bt478.1 bt478.2.1 bt478.2.2.1 bt478.2.2.2.1 bt478.2.2.2.2.1 bt478.2.2.2.2.2.1 bt478.2.2.2.2.2.2))) = some r := by rw [if_pos rfl] at H; exact H
    clear H
    have H := H1
    clear H1
    by_cases c7 : (l3.length : Int) > 60
    · rw [if_pos c7] at H
      have c7b0 : decide (60 < (l3.length : Int)) = true := decide_eq_true c7
      have c7b1 : decide (60 < l3.length) = true := decide_eq_true (by omega)
      clear c7
      obtain rfl := Option.some.inj H
      go_enter Try.func9, Try.ntmps9
      go_wp2_with (first | ((with_reducible refine gate_callee (f := 25) rfl ?_); refine goesL_ (some 14) rfl rfl Try.func25 (by kernel_rfl) rfl #[] rfl (by (try simp only [List.map_toArray, List.map_cons, List.map_nil]); first | done | rfl | (simp only [List.length_drop, List.length_take]; rfl)) ?_; (with_reducible refine (usufructlaw10_awake.calls  true _ A5.out).mono ?_); rintro e w8 ⟨rfl, hb⟩; refine ⟨_, rfl, ?_⟩; have n0_ := Aside0.mk (below_step (by repeat (first | (with_reducible first | exact HB.out | apply below_alloc | apply pw_below_drewN | apply below_drew1) | exact HB.out)) hb); clear HB; have HB := n0_; clear n0_; (try clear hb); (try clear hb2); (try clear hk); (try clear hi)))
      go_ret
      exact ⟨by first | rfl | (simp [errW_none, errW_some] <;> rfl) | (simp [*, errW_none, errW_some] <;> rfl), by repeat (first | (with_reducible first | exact HB.out | apply below_alloc | apply pw_below_drewN | apply below_drew1) | exact HB.out)⟩
    · rw [if_neg c7] at H
      have c7b0 : decide (60 < (l3.length : Int)) = false := decide_eq_false c7
      have c7b1 : decide (60 < l3.length) = false := decide_eq_false (by omega)
      clear c7
      replace H := Option.bind_eq_some_iff.mp H
      obtain ⟨⟨t478, t479, t480, t481, t482, t483, t484⟩, A90, H⟩ := H
      replace H : (usufructlaw10_BreakerHolds.l0 k l3 (wrap64 (1 + (Int.tmod (wrap64 (a2)) 9))) 0 0 t478 t479 t480 t481 t482 t483 t484) = some r := H
      have A9 := Aside0.mk A90
      clear A90
      have H' := Aside0.mk H
      clear H
      go_enter Try.func9, Try.ntmps9
      go_wp2_with (first | ((with_reducible refine gate_callee (f := 25) rfl ?_); refine goesL_ (some 14) rfl rfl Try.func25 (by kernel_rfl) rfl #[] rfl (by (try simp only [List.map_toArray, List.map_cons, List.map_nil]); first | done | rfl | (simp only [List.length_drop, List.length_take]; rfl)) ?_; (with_reducible refine (usufructlaw10_awake.calls  true _ A5.out).mono ?_); rintro e w10 ⟨rfl, hb⟩; refine ⟨_, rfl, ?_⟩; have n0_ := Aside0.mk (below_step (by repeat (first | (with_reducible first | exact HB.out | apply below_alloc | apply pw_below_drewN | apply below_drew1) | exact HB.out)) hb); clear HB; have HB := n0_; clear n0_; (try clear hb); (try clear hb2); (try clear hk); (try clear hi)) | ((with_reducible refine gate_callee (f := 26) rfl ?_); refine goesL_ (some 30) rfl rfl Try.func26 (by kernel_rfl) rfl #[.int .i64 (wrap64 (1 + (Int.tmod (wrap64 (a0)) 9))), .int .i64 (wrap64 (a1)), .int .i64 (wrap64 (1 + (Int.tmod (wrap64 (a2)) 9)))] rfl (by (try simp only [List.map_toArray, List.map_cons, List.map_nil]); first | done | rfl | (simp only [List.length_drop, List.length_take]; rfl)) ?_; (with_reducible refine (breaker_New.calls (wrap64 (1 + (Int.tmod (wrap64 (a0)) 9))) (wrap64 (a1)) (wrap64 (1 + (Int.tmod (wrap64 (a2)) 9))) t478 t479 t480 t481 t482 t483 t484 w _ ?side1 A9.out).mono ?_); (case side1 => repeat (first | (with_reducible first | exact HB.out | apply below_alloc | apply pw_below_drewN | apply below_drew1) | exact HB.out)); rintro e w11 ⟨g485, rfl, hi, hb, hb2⟩; refine ⟨_, rfl, ?_⟩; have n0_ := Aside0.mk (hb); have n1_ := Aside0.mk (hi); clear HB; have HB := n0_; have HI485 := n1_; clear n0_ n1_; (try clear hb); (try clear hb2); (try clear hk); (try clear hi)))
      go_loopg [11, 12] k (fun kq v11 v12 w' => ∃ (x11_1 : Int) (x12_1 : Int) (x486000_1 : Int) (x486001_1 : Int) (x486002_1 : Int) (x486003_1 : Int) (x486004_1 : Int) (x486005_1 : Int) (x486006_1 : Int), v11 = .int .i64 x11_1 ∧ v12 = .int .i64 x12_1 ∧ Aside0 (usufructlaw10_BreakerHolds.l0 kq l3 (wrap64 (1 + (Int.tmod (wrap64 (a2)) 9))) x11_1 x12_1 x486000_1 x486001_1 x486002_1 x486003_1 x486004_1 x486005_1 x486006_1 = some r) ∧ Aside0 (kq ≤ k) ∧ Aside0 (IsS57 w w' g485 x486000_1 x486001_1 x486002_1 x486003_1 x486004_1 x486005_1 x486006_1) ∧ Aside0 (Below w.heap.size w w'))
      case atStart => exact ⟨(0), (0), (t478), (t479), (t480), (t481), (t482), (t483), (t484), (by first | rfl | (simp; done) | (simp [*]; done)), (by first | rfl | (simp; done) | (simp [*]; done)), H', ⟨Nat.le_refl _⟩, ⟨by repeat (first | (with_reducible first | exact HI485.out | apply IsS57.alloc | apply IsS57.drewN | apply IsS57.drew | apply IsS57.set_0 | apply IsS57.set_1 | apply IsS57.set_2 | apply IsS57.set_3 | apply IsS57.set_4 | apply IsS57.set_5 | apply IsS57.set_6) | exact HI485.out)⟩, ⟨by repeat (first | (with_reducible first | exact HB.out | apply below_alloc | apply pw_below_drewN | apply below_drew1 | refine below_set ?_ (IsS57.ge HI485.out)) | exact HB.out)⟩⟩
      case round =>
        clear H'
        try clear c2
        try clear p2
        try clear c3
        try clear c6
        try clear p6
        try clear c7
        try clear c7b0
        try clear c7b1
        try clear c9
        obtain ⟨x11_1, x12_1, x486000_1, x486001_1, x486002_1, x486003_1, x486004_1, x486005_1, x486006_1, rfl, rfl, HA, HK1, HI485, HB⟩ := hrel
        cases gk with
        | zero => exact absurd HA.out (by simp [usufructlaw10_BreakerHolds.l0])
        | succ k1 =>
          have H := HA.out
          clear HA
          simp only [usufructlaw10_BreakerHolds.l0] at H
          by_cases c12 : x12_1 < (l3.length : Int)
          · rw [if_pos c12] at H
            have c12b0 : decide (x12_1 < (l3.length : Int)) = true := decide_eq_true c12
            clear c12
            have HC13 := Aside0.mk H
            clear H
            go_upto_region 13 with (fail)
            go_cut [52] (fun v52 wc => ∃ (kq : Nat) (x52_12 : Bool), v52 = .bool x52_12 ∧ Aside0 (usufructlaw10_BreakerHolds.j1 kq l3 (wrap64 (1 + (Int.tmod (wrap64 (a2)) 9))) x11_1 x12_1 x52_12 x486000_1 x486001_1 x486002_1 x486003_1 x486004_1 x486005_1 x486006_1 = some r) ∧ Aside0 (kq ≤ k1) ∧ Aside0 (IsS57 w wc g485 x486000_1 x486001_1 x486002_1 x486003_1 x486004_1 x486005_1 x486006_1) ∧ Aside0 (Below w.heap.size w wc))
            case first =>
              have H := HC13.out
              clear HC13
              by_cases c14 : 0 ≤ x12_1
              · rw [if_pos c14] at H
                have c14b0 : decide (0 ≤ x12_1) = true := decide_eq_true c14
                clear c14
                (first | rw [c14b0] | (simp only [i64_w, i32_w]; rw [c14b0]) | skip)
                by_cases c15 : ((rd_T40 l3 x12_1).f1) < 0
                · rw [if_pos c15] at H
                  have c15b0 : decide (((rd_T40 l3 x12_1).f1) < 0) = true := decide_eq_true c15
                  clear c15
                  have H' := Aside0.mk H
                  clear H
                  have p486 : 0 ≤ (x12_1 : Int) := of_decide_eq_true (by first | (with_reducible assumption) | assumption)
                  have q486 : x12_1 < (l3.length : Int) := of_decide_eq_true (by first | (with_reducible assumption) | assumption)
                  obtain ⟨ad486, e486, hx486_0, hx486_1⟩ := at_T40 HR3.out x12_1 p486 q486
                  cases e486
                  replace hx486_0 := (HB.out.cell (World.block_lt_of_cell? w _ hx486_0)).trans hx486_0
                  replace hx486_1 := (HB.out.cell (World.block_lt_of_cell? w _ hx486_1)).trans hx486_1
                  replace p486 := eq_true p486
                  replace q486 := eq_true q486
                  go_wp2
                  go_meet
                  case rel => exact ⟨_, (true), (by first | rfl | (simp; done) | (simp [*]; done)), H', ⟨by have := HK1.out; first | omega | exact Nat.le_refl _⟩, ⟨by repeat (first | (with_reducible first | exact HI485.out | apply IsS57.alloc | apply IsS57.drewN | apply IsS57.drew | apply IsS57.set_0 | apply IsS57.set_1 | apply IsS57.set_2 | apply IsS57.set_3 | apply IsS57.set_4 | apply IsS57.set_5 | apply IsS57.set_6) | exact HI485.out)⟩, ⟨by repeat (first | (with_reducible first | exact HB.out | apply below_alloc | apply pw_below_drewN | apply below_drew1 | refine below_set ?_ (IsS57.ge HI485.out)) | exact HB.out)⟩⟩
                · rw [if_neg c15] at H
                  have c15b0 : decide (((rd_T40 l3 x12_1).f1) < 0) = false := decide_eq_false c15
                  clear c15
                  have H' := Aside0.mk H
                  clear H
                  have p486 : 0 ≤ (x12_1 : Int) := of_decide_eq_true (by first | (with_reducible assumption) | assumption)
                  have q486 : x12_1 < (l3.length : Int) := of_decide_eq_true (by first | (with_reducible assumption) | assumption)
                  obtain ⟨ad486, e486, hx486_0, hx486_1⟩ := at_T40 HR3.out x12_1 p486 q486
                  cases e486
                  replace hx486_0 := (HB.out.cell (World.block_lt_of_cell? w _ hx486_0)).trans hx486_0
                  replace hx486_1 := (HB.out.cell (World.block_lt_of_cell? w _ hx486_1)).trans hx486_1
                  replace p486 := eq_true p486
                  replace q486 := eq_true q486
                  have p487 : 0 ≤ (x12_1 : Int) := of_decide_eq_true (by first | (with_reducible assumption) | assumption)
                  have q487 : x12_1 < (l3.length : Int) := of_decide_eq_true (by first | (with_reducible assumption) | assumption)
                  obtain ⟨ad487, e487, hx487_0, hx487_1⟩ := at_T40 HR3.out x12_1 p487 q487
                  obtain rfl : ad486 = ad487 := (by injection e487)
                  replace hx487_0 := (HB.out.cell (World.block_lt_of_cell? w _ hx487_0)).trans hx487_0
                  replace hx487_1 := (HB.out.cell (World.block_lt_of_cell? w _ hx487_1)).trans hx487_1
                  replace p487 := eq_true p487
                  replace q487 := eq_true q487
                  go_wp2
                  go_meet
                  case rel => exact ⟨_, (decide (((rd_T40 l3 x12_1).f1) > 1000000)), (by first | rfl | (simp; done) | (simp [*]; done)), H', ⟨by have := HK1.out; first | omega | exact Nat.le_refl _⟩, ⟨by repeat (first | (with_reducible first | exact HI485.out | apply IsS57.alloc | apply IsS57.drewN | apply IsS57.drew | apply IsS57.set_0 | apply IsS57.set_1 | apply IsS57.set_2 | apply IsS57.set_3 | apply IsS57.set_4 | apply IsS57.set_5 | apply IsS57.set_6) | exact HI485.out)⟩, ⟨by repeat (first | (with_reducible first | exact HB.out | apply below_alloc | apply pw_below_drewN | apply below_drew1 | refine below_set ?_ (IsS57.ge HI485.out)) | exact HB.out)⟩⟩
              · rw [if_neg c14] at H
                exact absurd H (by simp)
            case rest =>
              clear HC13
              try clear c1
              try clear c2
              try clear p2
              try clear c3
              try clear p4
              try clear q4
              try clear hx4
              try clear c6
              try clear p6
              try clear c7
              try clear c7b0
              try clear c7b1
              try clear c9
              try clear c12
              try clear c12b0
              try clear c14
              try clear c14b0
              try clear c15
              try clear c15b0
              try clear hx486_0
              try clear hx486_1
              try clear hx487_0
              try clear hx487_1
              try clear p2
              try clear p486
              try clear p487
              try clear p6
              try clear q486
              try clear q487
              obtain ⟨kq, x52_12, rfl, HA, HJ12, HI485, HB⟩ := hcut
              cases kq with
              | zero => exact absurd HA.out (by simp [usufructlaw10_BreakerHolds.j1])
              | succ kj12 =>
                have H := HA.out
                clear HA
                simp only [usufructlaw10_BreakerHolds.j1] at H
                by_cases c16 : x52_12 = true
                · subst c16
                  have H1 : (some true) = some r := by rw [if_pos rfl] at H; exact H
                  clear H
                  have H := H1
                  clear H1
                  obtain rfl := Option.some.inj H
                  go_wp2
                  go_ret
                  exact ⟨by first | rfl | (simp [errW_none, errW_some] <;> rfl) | (simp [*, errW_none, errW_some] <;> rfl), by repeat (first | (with_reducible first | exact HB.out | apply below_alloc | apply pw_below_drewN | apply below_drew1 | refine below_set ?_ (IsS57.ge HI485.out)) | exact HB.out)⟩
                · replace c16 := Bool.eq_false_iff.mpr c16
                  subst c16
                  have H1 : (if 0 ≤ x12_1 then (if x12_1 < (l3.length : Int) then ((breaker_Breaker_State.f x486000_1 x486001_1 x486002_1 x486003_1 x486004_1 x486005_1 x486006_1 (wrap64 (x11_1 + ((rd_T40 l3 x12_1).f1)))).bind fun bt489 => (if ((rd_T40 l3 x12_1).f0) = 0 then (usufructlaw10_BreakerHolds.j2 kj12 l3 (wrap64 (1 + (Int.tmod (wrap64 (a2)) 9))) (wrap64 (x11_1 + ((rd_T40 l3 x12_1).f1))) x12_1 bt489.1 ((rd_T40 l3 x12_1).f0) (((rd_T40 l3 x12_1).f0) == 0) bt489.2.1 bt489.2.2.1 bt489.2.2.2.1 bt489.2.2.2.2.1 bt489.2.2.2.2.2.1 bt489.2.2.2.2.2.2.1 bt489.2.2.2.2.2.2.2) else (usufructlaw10_BreakerHolds.j2 kj12 l3 (wrap64 (1 + (Int.tmod (wrap64 (a2)) 9))) (wrap64 (x11_1 + ((rd_T40 l3 x12_1).f1))) x12_1 bt489.1 ((rd_T40 l3 x12_1).f0) (((rd_T40 l3 x12_1).f0) == 1) bt489.2.1 bt489.2.2.1 bt489.2.2.2.1 bt489.2.2.2.2.1 bt489.2.2.2.2.2.1 bt489.2.2.2.2.2.2.1 bt489.2.2.2.2.2.2.2))) else (none)) else (none)) = some r := by rw [if_neg (show ¬ (false = true) by decide)] at H; exact H
                  clear H
                  have H := H1
                  clear H1
                  by_cases c17 : 0 ≤ x12_1
                  · rw [if_pos c17] at H
                    have c17b0 : decide (0 ≤ x12_1) = true := decide_eq_true c17
                    clear c17
                    by_cases c18 : x12_1 < (l3.length : Int)
                    · rw [if_pos c18] at H
                      have c18b0 : decide (x12_1 < (l3.length : Int)) = true := decide_eq_true c18
                      clear c18
                      replace H := Option.bind_eq_some_iff.mp H
                      obtain ⟨⟨t489, t490, t491, t492, t493, t494, t495, t496⟩, A190, H⟩ := H
                      replace H : (if ((rd_T40 l3 x12_1).f0) = 0 then (usufructlaw10_BreakerHolds.j2 kj12 l3 (wrap64 (1 + (Int.tmod (wrap64 (a2)) 9))) (wrap64 (x11_1 + ((rd_T40 l3 x12_1).f1))) x12_1 t489 ((rd_T40 l3 x12_1).f0) (((rd_T40 l3 x12_1).f0) == 0) t490 t491 t492 t493 t494 t495 t496) else (usufructlaw10_BreakerHolds.j2 kj12 l3 (wrap64 (1 + (Int.tmod (wrap64 (a2)) 9))) (wrap64 (x11_1 + ((rd_T40 l3 x12_1).f1))) x12_1 t489 ((rd_T40 l3 x12_1).f0) (((rd_T40 l3 x12_1).f0) == 1) t490 t491 t492 t493 t494 t495 t496)) = some r := H
                      have A19 := Aside0.mk A190
                      clear A190
                      have HC20 := Aside0.mk H
                      clear H
                      have p488 : 0 ≤ (x12_1 : Int) := of_decide_eq_true (by first | (with_reducible assumption) | assumption)
                      have q488 : x12_1 < (l3.length : Int) := of_decide_eq_true (by first | (with_reducible assumption) | assumption)
                      obtain ⟨ad488, e488, hx488_0, hx488_1⟩ := at_T40 HR3.out x12_1 p488 q488
                      cases e488
                      replace hx488_0 := (HB.out.cell (World.block_lt_of_cell? w _ hx488_0)).trans hx488_0
                      replace hx488_1 := (HB.out.cell (World.block_lt_of_cell? w _ hx488_1)).trans hx488_1
                      replace p488 := eq_true p488
                      replace q488 := eq_true q488
                      go_upto_block 2 with (first | ((with_reducible refine gate_callee (f := 27) rfl ?_); refine goesL_ (some 62) rfl rfl Try.func27 (by kernel_rfl) rfl #[.pointer (some ⟨g485, 0, none⟩), .int .i64 (wrap64 (x11_1 + ((rd_T40 l3 x12_1).f1)))] rfl (by (try simp only [List.map_toArray, List.map_cons, List.map_nil]); first | done | rfl | (simp only [List.length_drop, List.length_take]; rfl)) ?_; (with_reducible refine (breaker_Breaker_State.calls g485 x486000_1 x486001_1 x486002_1 x486003_1 x486004_1 x486005_1 x486006_1 (wrap64 (x11_1 + ((rd_T40 l3 x12_1).f1))) t489 t490 t491 t492 t493 t494 t495 t496 w _ ?side1 ?side2 A19.out).mono ?_); (case side1 => repeat (first | (with_reducible first | exact HI485.out | apply IsS57.alloc | apply IsS57.drewN | apply IsS57.drew | apply IsS57.set_0 | apply IsS57.set_1 | apply IsS57.set_2 | apply IsS57.set_3 | apply IsS57.set_4 | apply IsS57.set_5 | apply IsS57.set_6) | exact HI485.out)); (case side2 => repeat (first | (with_reducible first | exact HB.out | apply below_alloc | apply pw_below_drewN | apply below_drew1 | refine below_set ?_ (IsS57.ge HI485.out)) | exact HB.out)); rintro e w21 ⟨rfl, hi, hb, hk⟩; refine ⟨_, rfl, ?_⟩; have n0_ := Aside0.mk (hb); have n1_ := Aside0.mk (hi); clear HB; clear HI485; have HB := n0_; have HI485 := n1_; clear n0_ n1_; (try clear hb); (try clear hb2); (try clear hk); (try clear hi); have p497 : 0 ≤ (x12_1 : Int) := of_decide_eq_true (by first | (with_reducible assumption) | assumption); have q497 : x12_1 < (l3.length : Int) := of_decide_eq_true (by first | (with_reducible assumption) | assumption); obtain ⟨ad497, e497, hx497_0, hx497_1⟩ := at_T40 HR3.out x12_1 p497 q497; obtain rfl : ad488 = ad497 := (by injection e497); replace hx497_0 := (HB.out.cell (World.block_lt_of_cell? w _ hx497_0)).trans hx497_0; replace hx497_1 := (HB.out.cell (World.block_lt_of_cell? w _ hx497_1)).trans hx497_1; replace p497 := eq_true p497; replace q497 := eq_true q497))
                      (try simp only [Act.put, List.setIfInBounds_toArray, List.set_cons_zero, List.set_cons_succ])
                      go_cut [] (fun wc => ∃ (kq : Nat) (x486000_19 : Int) (x486001_19 : Int) (x486002_19 : Int) (x486003_19 : Int) (x486004_19 : Int) (x486005_19 : Int) (x486006_19 : Int), Aside0 (usufructlaw10_BreakerHolds.j4 kq l3 (wrap64 (1 + (Int.tmod (wrap64 (a2)) 9))) (wrap64 (x11_1 + ((rd_T40 l3 x12_1).f1))) x12_1 x486000_19 x486001_19 x486002_19 x486003_19 x486004_19 x486005_19 x486006_19 = some r) ∧ Aside0 (kq ≤ kj12) ∧ Aside0 (IsS57 w wc g485 x486000_19 x486001_19 x486002_19 x486003_19 x486004_19 x486005_19 x486006_19) ∧ Aside0 (Below w.heap.size w wc))
                      case first =>
                        have H := HC20.out
                        clear HC20
                        have HC22 := Aside0.mk H
                        clear H
                        go_upto_if 68 with (fail)
                        go_cut [68] (fun v68 wc => ∃ (kq : Nat) (x68_21 : Bool), v68 = .bool x68_21 ∧ Aside0 (usufructlaw10_BreakerHolds.j2 kq l3 (wrap64 (1 + (Int.tmod (wrap64 (a2)) 9))) (wrap64 (x11_1 + ((rd_T40 l3 x12_1).f1))) x12_1 t489 ((rd_T40 l3 x12_1).f0) x68_21 t490 t491 t492 t493 t494 t495 t496 = some r) ∧ Aside0 (kq ≤ kj12) ∧ Aside0 (IsS57 w wc g485 t490 t491 t492 t493 t494 t495 t496) ∧ Aside0 (Below w.heap.size w wc))
                        case first =>
                          have H := HC22.out
                          clear HC22
                          by_cases c23 : ((rd_T40 l3 x12_1).f0) = 0
                          · rw [if_pos c23] at H
                            have c23b0 : (((rd_T40 l3 x12_1).f0) == 0) = true := beq_iff_eq.mpr c23
                            have c23b1 : (((rd_T40 l3 x12_1).f0) != 0) = false := bne_eq_false_iff_eq.mpr c23
                            clear c23
                            (first | rw [c23b0] | (simp only [i64_w, i32_w]; rw [c23b0]) | skip)
                            have H' := Aside0.mk H
                            clear H
                            go_wp2
                            go_meet
                            case rel => exact ⟨_, ((((rd_T40 l3 x12_1).f0) == 0)), (by first | rfl | (simp; done) | (simp [*]; done)), H', ⟨by have := HK1.out; have := HJ12.out; first | omega | exact Nat.le_refl _⟩, ⟨by repeat (first | (with_reducible first | exact HI485.out | apply IsS57.alloc | apply IsS57.drewN | apply IsS57.drew | apply IsS57.set_0 | apply IsS57.set_1 | apply IsS57.set_2 | apply IsS57.set_3 | apply IsS57.set_4 | apply IsS57.set_5 | apply IsS57.set_6) | exact HI485.out)⟩, ⟨by repeat (first | (with_reducible first | exact HB.out | apply below_alloc | apply pw_below_drewN | apply below_drew1 | refine below_set ?_ (IsS57.ge HI485.out)) | exact HB.out)⟩⟩
                          · rw [if_neg c23] at H
                            have c23b0 : (((rd_T40 l3 x12_1).f0) == 0) = false := beq_eq_false_iff_ne.mpr c23
                            have c23b1 : (((rd_T40 l3 x12_1).f0) != 0) = true := bne_iff_ne.mpr c23
                            (first | rw [c23b0] | (simp only [i64_w, i32_w]; rw [c23b0]) | skip)
                            have H' := Aside0.mk H
                            clear H
                            go_wp2
                            go_meet
                            case rel => exact ⟨_, ((((rd_T40 l3 x12_1).f0) == 1)), (by first | rfl | (simp; done) | (simp [*]; done)), H', ⟨by have := HK1.out; have := HJ12.out; first | omega | exact Nat.le_refl _⟩, ⟨by repeat (first | (with_reducible first | exact HI485.out | apply IsS57.alloc | apply IsS57.drewN | apply IsS57.drew | apply IsS57.set_0 | apply IsS57.set_1 | apply IsS57.set_2 | apply IsS57.set_3 | apply IsS57.set_4 | apply IsS57.set_5 | apply IsS57.set_6) | exact HI485.out)⟩, ⟨by repeat (first | (with_reducible first | exact HB.out | apply below_alloc | apply pw_below_drewN | apply below_drew1 | refine below_set ?_ (IsS57.ge HI485.out)) | exact HB.out)⟩⟩
                        case rest =>
                          clear HC22
                          try clear c1
                          try clear c2
                          try clear p2
                          try clear c3
                          try clear p4
                          try clear q4
                          try clear hx4
                          try clear c6
                          try clear p6
                          try clear c7
                          try clear c7b0
                          try clear c7b1
                          try clear c9
                          try clear c12
                          try clear c12b0
                          try clear c14
                          try clear c14b0
                          try clear c15
                          try clear c15b0
                          try clear c16
                          try clear c17
                          try clear c17b0
                          try clear c18
                          try clear c18b0
                          try clear c23
                          try clear c23b0
                          try clear c23b1
                          try clear hx486_0
                          try clear hx486_1
                          try clear hx487_0
                          try clear hx487_1
                          try clear hx488_0
                          try clear hx488_1
                          try clear hx497_0
                          try clear hx497_1
                          try clear p2
                          try clear p4
                          try clear p486
                          try clear p487
                          try clear p488
                          try clear p497
                          try clear p6
                          try clear q4
                          try clear q486
                          try clear q487
                          try clear q488
                          try clear q497
                          obtain ⟨kq, x68_21, rfl, HA, HJ21, HI485, HB⟩ := hcut
                          cases kq with
                          | zero => exact absurd HA.out (by simp [usufructlaw10_BreakerHolds.j2])
                          | succ kj21 =>
                            have H := HA.out
                            clear HA
                            simp only [usufructlaw10_BreakerHolds.j2] at H
                            by_cases c24 : x68_21 = true
                            · subst c24
                              have H1 : ((breaker_Breaker_Send.f t490 t491 t492 t493 t494 t495 t496 (wrap64 (x11_1 + ((rd_T40 l3 x12_1).f1)))).bind fun bt498 => (if bt498.1 = true then (if t489 = 1 then (some false) else (usufructlaw10_BreakerHolds.j4 kj21 l3 (wrap64 (1 + (Int.tmod (wrap64 (a2)) 9))) (wrap64 (x11_1 + ((rd_T40 l3 x12_1).f1))) x12_1 bt498.2.1 bt498.2.2.1 bt498.2.2.2.1 bt498.2.2.2.2.1 bt498.2.2.2.2.2.1 bt498.2.2.2.2.2.2.1 bt498.2.2.2.2.2.2.2)) else (usufructlaw10_BreakerHolds.j4 kj21 l3 (wrap64 (1 + (Int.tmod (wrap64 (a2)) 9))) (wrap64 (x11_1 + ((rd_T40 l3 x12_1).f1))) x12_1 bt498.2.1 bt498.2.2.1 bt498.2.2.2.1 bt498.2.2.2.2.1 bt498.2.2.2.2.2.1 bt498.2.2.2.2.2.2.1 bt498.2.2.2.2.2.2.2))) = some r := by rw [if_pos rfl] at H; exact H
                              clear H
                              have H := H1
                              clear H1
                              replace H := Option.bind_eq_some_iff.mp H
                              obtain ⟨⟨t498, t499, t500, t501, t502, t503, t504, t505⟩, A250, H⟩ := H
                              replace H : (if t498 = true then (if t489 = 1 then (some false) else (usufructlaw10_BreakerHolds.j4 kj21 l3 (wrap64 (1 + (Int.tmod (wrap64 (a2)) 9))) (wrap64 (x11_1 + ((rd_T40 l3 x12_1).f1))) x12_1 t499 t500 t501 t502 t503 t504 t505)) else (usufructlaw10_BreakerHolds.j4 kj21 l3 (wrap64 (1 + (Int.tmod (wrap64 (a2)) 9))) (wrap64 (x11_1 + ((rd_T40 l3 x12_1).f1))) x12_1 t499 t500 t501 t502 t503 t504 t505)) = some r := H
                              have A25 := Aside0.mk A250
                              clear A250
                              by_cases c26 : t498 = true
                              · subst c26
                                have H1 : (if t489 = 1 then (some false) else (usufructlaw10_BreakerHolds.j4 kj21 l3 (wrap64 (1 + (Int.tmod (wrap64 (a2)) 9))) (wrap64 (x11_1 + ((rd_T40 l3 x12_1).f1))) x12_1 t499 t500 t501 t502 t503 t504 t505)) = some r := by rw [if_pos rfl] at H; exact H
                                clear H
                                have H := H1
                                clear H1
                                by_cases c27 : t489 = 1
                                · rw [if_pos c27] at H
                                  have c27b0 : (t489 == 1) = true := beq_iff_eq.mpr c27
                                  have c27b1 : (t489 != 1) = false := bne_eq_false_iff_eq.mpr c27
                                  clear c27
                                  obtain rfl := Option.some.inj H
                                  go_wp2_with (first | ((with_reducible refine gate_callee (f := 30) rfl ?_); refine goesL_ (some 73) rfl rfl Try.func30 (by kernel_rfl) rfl #[.pointer (some ⟨g485, 0, none⟩), .int .i64 (wrap64 (x11_1 + ((rd_T40 l3 x12_1).f1)))] rfl (by (try simp only [List.map_toArray, List.map_cons, List.map_nil]); first | done | rfl | (simp only [List.length_drop, List.length_take]; rfl)) ?_; (with_reducible refine (breaker_Breaker_Send.calls g485 t490 t491 t492 t493 t494 t495 t496 (wrap64 (x11_1 + ((rd_T40 l3 x12_1).f1))) true t499 t500 t501 t502 t503 t504 t505 w _ ?side1 ?side2 A25.out).mono ?_); (case side1 => repeat (first | (with_reducible first | exact HI485.out | apply IsS57.alloc | apply IsS57.drewN | apply IsS57.drew | apply IsS57.set_0 | apply IsS57.set_1 | apply IsS57.set_2 | apply IsS57.set_3 | apply IsS57.set_4 | apply IsS57.set_5 | apply IsS57.set_6) | exact HI485.out)); (case side2 => repeat (first | (with_reducible first | exact HB.out | apply below_alloc | apply pw_below_drewN | apply below_drew1 | refine below_set ?_ (IsS57.ge HI485.out)) | exact HB.out)); rintro e w28 ⟨rfl, hi, hb, hk⟩; refine ⟨_, rfl, ?_⟩; have n0_ := Aside0.mk (hb); have n1_ := Aside0.mk (hi); clear HB; clear HI485; have HB := n0_; have HI485 := n1_; clear n0_ n1_; (try clear hb); (try clear hb2); (try clear hk); (try clear hi)))
                                  go_ret
                                  exact ⟨by first | rfl | (simp [errW_none, errW_some] <;> rfl) | (simp [*, errW_none, errW_some] <;> rfl), by repeat (first | (with_reducible first | exact HB.out | apply below_alloc | apply pw_below_drewN | apply below_drew1 | refine below_set ?_ (IsS57.ge HI485.out)) | exact HB.out)⟩
                                · rw [if_neg c27] at H
                                  have c27b0 : (t489 == 1) = false := beq_eq_false_iff_ne.mpr c27
                                  have c27b1 : (t489 != 1) = true := bne_iff_ne.mpr c27
                                  have H' := Aside0.mk H
                                  clear H
                                  go_wp2_with (first | ((with_reducible refine gate_callee (f := 30) rfl ?_); refine goesL_ (some 73) rfl rfl Try.func30 (by kernel_rfl) rfl #[.pointer (some ⟨g485, 0, none⟩), .int .i64 (wrap64 (x11_1 + ((rd_T40 l3 x12_1).f1)))] rfl (by (try simp only [List.map_toArray, List.map_cons, List.map_nil]); first | done | rfl | (simp only [List.length_drop, List.length_take]; rfl)) ?_; (with_reducible refine (breaker_Breaker_Send.calls g485 t490 t491 t492 t493 t494 t495 t496 (wrap64 (x11_1 + ((rd_T40 l3 x12_1).f1))) true t499 t500 t501 t502 t503 t504 t505 w _ ?side1 ?side2 A25.out).mono ?_); (case side1 => repeat (first | (with_reducible first | exact HI485.out | apply IsS57.alloc | apply IsS57.drewN | apply IsS57.drew | apply IsS57.set_0 | apply IsS57.set_1 | apply IsS57.set_2 | apply IsS57.set_3 | apply IsS57.set_4 | apply IsS57.set_5 | apply IsS57.set_6) | exact HI485.out)); (case side2 => repeat (first | (with_reducible first | exact HB.out | apply below_alloc | apply pw_below_drewN | apply below_drew1 | refine below_set ?_ (IsS57.ge HI485.out)) | exact HB.out)); rintro e w29 ⟨rfl, hi, hb, hk⟩; refine ⟨_, rfl, ?_⟩; have n0_ := Aside0.mk (hb); have n1_ := Aside0.mk (hi); clear HB; clear HI485; have HB := n0_; have HI485 := n1_; clear n0_ n1_; (try clear hb); (try clear hb2); (try clear hk); (try clear hi)))
                                  go_meet
                                  case rel => exact ⟨_, (t499), (t500), (t501), (t502), (t503), (t504), (t505), H', ⟨by have := HK1.out; have := HJ12.out; have := HJ21.out; first | omega | exact Nat.le_refl _⟩, ⟨by repeat (first | (with_reducible first | exact HI485.out | apply IsS57.alloc | apply IsS57.drewN | apply IsS57.drew | apply IsS57.set_0 | apply IsS57.set_1 | apply IsS57.set_2 | apply IsS57.set_3 | apply IsS57.set_4 | apply IsS57.set_5 | apply IsS57.set_6) | exact HI485.out)⟩, ⟨by repeat (first | (with_reducible first | exact HB.out | apply below_alloc | apply pw_below_drewN | apply below_drew1 | refine below_set ?_ (IsS57.ge HI485.out)) | exact HB.out)⟩⟩
                              · replace c26 := Bool.eq_false_iff.mpr c26
                                subst c26
                                have H1 : (usufructlaw10_BreakerHolds.j4 kj21 l3 (wrap64 (1 + (Int.tmod (wrap64 (a2)) 9))) (wrap64 (x11_1 + ((rd_T40 l3 x12_1).f1))) x12_1 t499 t500 t501 t502 t503 t504 t505) = some r := by rw [if_neg (show ¬ (false = true) by decide)] at H; exact H
                                clear H
                                have H := H1
                                clear H1
                                have H' := Aside0.mk H
                                clear H
                                go_wp2_with (first | ((with_reducible refine gate_callee (f := 30) rfl ?_); refine goesL_ (some 73) rfl rfl Try.func30 (by kernel_rfl) rfl #[.pointer (some ⟨g485, 0, none⟩), .int .i64 (wrap64 (x11_1 + ((rd_T40 l3 x12_1).f1)))] rfl (by (try simp only [List.map_toArray, List.map_cons, List.map_nil]); first | done | rfl | (simp only [List.length_drop, List.length_take]; rfl)) ?_; (with_reducible refine (breaker_Breaker_Send.calls g485 t490 t491 t492 t493 t494 t495 t496 (wrap64 (x11_1 + ((rd_T40 l3 x12_1).f1))) false t499 t500 t501 t502 t503 t504 t505 w _ ?side1 ?side2 A25.out).mono ?_); (case side1 => repeat (first | (with_reducible first | exact HI485.out | apply IsS57.alloc | apply IsS57.drewN | apply IsS57.drew | apply IsS57.set_0 | apply IsS57.set_1 | apply IsS57.set_2 | apply IsS57.set_3 | apply IsS57.set_4 | apply IsS57.set_5 | apply IsS57.set_6) | exact HI485.out)); (case side2 => repeat (first | (with_reducible first | exact HB.out | apply below_alloc | apply pw_below_drewN | apply below_drew1 | refine below_set ?_ (IsS57.ge HI485.out)) | exact HB.out)); rintro e w30 ⟨rfl, hi, hb, hk⟩; refine ⟨_, rfl, ?_⟩; have n0_ := Aside0.mk (hb); have n1_ := Aside0.mk (hi); clear HB; clear HI485; have HB := n0_; have HI485 := n1_; clear n0_ n1_; (try clear hb); (try clear hb2); (try clear hk); (try clear hi)))
                                go_meet
                                case rel => exact ⟨_, (t499), (t500), (t501), (t502), (t503), (t504), (t505), H', ⟨by have := HK1.out; have := HJ12.out; have := HJ21.out; first | omega | exact Nat.le_refl _⟩, ⟨by repeat (first | (with_reducible first | exact HI485.out | apply IsS57.alloc | apply IsS57.drewN | apply IsS57.drew | apply IsS57.set_0 | apply IsS57.set_1 | apply IsS57.set_2 | apply IsS57.set_3 | apply IsS57.set_4 | apply IsS57.set_5 | apply IsS57.set_6) | exact HI485.out)⟩, ⟨by repeat (first | (with_reducible first | exact HB.out | apply below_alloc | apply pw_below_drewN | apply below_drew1 | refine below_set ?_ (IsS57.ge HI485.out)) | exact HB.out)⟩⟩
                            · replace c24 := Bool.eq_false_iff.mpr c24
                              subst c24
                              have H1 : (if ((rd_T40 l3 x12_1).f0) = 2 then (usufructlaw10_BreakerHolds.j3 kj21 l3 (wrap64 (1 + (Int.tmod (wrap64 (a2)) 9))) (wrap64 (x11_1 + ((rd_T40 l3 x12_1).f1))) x12_1 ((rd_T40 l3 x12_1).f0) (((rd_T40 l3 x12_1).f0) == 2) t490 t491 t492 t493 t494 t495 t496) else (usufructlaw10_BreakerHolds.j3 kj21 l3 (wrap64 (1 + (Int.tmod (wrap64 (a2)) 9))) (wrap64 (x11_1 + ((rd_T40 l3 x12_1).f1))) x12_1 ((rd_T40 l3 x12_1).f0) (((rd_T40 l3 x12_1).f0) == 3) t490 t491 t492 t493 t494 t495 t496)) = some r := by rw [if_neg (show ¬ (false = true) by decide)] at H; exact H
                              clear H
                              have H := H1
                              clear H1
                              have HC31 := Aside0.mk H
                              clear H
                              go_upto_if 78 with (fail)
                              go_cut [78] (fun v78 wc => ∃ (kq : Nat) (x78_30 : Bool), v78 = .bool x78_30 ∧ Aside0 (usufructlaw10_BreakerHolds.j3 kq l3 (wrap64 (1 + (Int.tmod (wrap64 (a2)) 9))) (wrap64 (x11_1 + ((rd_T40 l3 x12_1).f1))) x12_1 ((rd_T40 l3 x12_1).f0) x78_30 t490 t491 t492 t493 t494 t495 t496 = some r) ∧ Aside0 (kq ≤ kj21) ∧ Aside0 (IsS57 w wc g485 t490 t491 t492 t493 t494 t495 t496) ∧ Aside0 (Below w.heap.size w wc))
                              case first =>
                                have H := HC31.out
                                clear HC31
                                by_cases c32 : ((rd_T40 l3 x12_1).f0) = 2
                                · rw [if_pos c32] at H
                                  have c32b0 : (((rd_T40 l3 x12_1).f0) == 2) = true := beq_iff_eq.mpr c32
                                  have c32b1 : (((rd_T40 l3 x12_1).f0) != 2) = false := bne_eq_false_iff_eq.mpr c32
                                  clear c32
                                  (first | rw [c32b0] | (simp only [i64_w, i32_w]; rw [c32b0]) | skip)
                                  have H' := Aside0.mk H
                                  clear H
                                  go_wp2
                                  go_meet
                                  case rel => exact ⟨_, ((((rd_T40 l3 x12_1).f0) == 2)), (by first | rfl | (simp; done) | (simp [*]; done)), H', ⟨by have := HK1.out; have := HJ12.out; have := HJ21.out; first | omega | exact Nat.le_refl _⟩, ⟨by repeat (first | (with_reducible first | exact HI485.out | apply IsS57.alloc | apply IsS57.drewN | apply IsS57.drew | apply IsS57.set_0 | apply IsS57.set_1 | apply IsS57.set_2 | apply IsS57.set_3 | apply IsS57.set_4 | apply IsS57.set_5 | apply IsS57.set_6) | exact HI485.out)⟩, ⟨by repeat (first | (with_reducible first | exact HB.out | apply below_alloc | apply pw_below_drewN | apply below_drew1 | refine below_set ?_ (IsS57.ge HI485.out)) | exact HB.out)⟩⟩
                                · rw [if_neg c32] at H
                                  have c32b0 : (((rd_T40 l3 x12_1).f0) == 2) = false := beq_eq_false_iff_ne.mpr c32
                                  have c32b1 : (((rd_T40 l3 x12_1).f0) != 2) = true := bne_iff_ne.mpr c32
                                  (first | rw [c32b0] | (simp only [i64_w, i32_w]; rw [c32b0]) | skip)
                                  have H' := Aside0.mk H
                                  clear H
                                  go_wp2
                                  go_meet
                                  case rel => exact ⟨_, ((((rd_T40 l3 x12_1).f0) == 3)), (by first | rfl | (simp; done) | (simp [*]; done)), H', ⟨by have := HK1.out; have := HJ12.out; have := HJ21.out; first | omega | exact Nat.le_refl _⟩, ⟨by repeat (first | (with_reducible first | exact HI485.out | apply IsS57.alloc | apply IsS57.drewN | apply IsS57.drew | apply IsS57.set_0 | apply IsS57.set_1 | apply IsS57.set_2 | apply IsS57.set_3 | apply IsS57.set_4 | apply IsS57.set_5 | apply IsS57.set_6) | exact HI485.out)⟩, ⟨by repeat (first | (with_reducible first | exact HB.out | apply below_alloc | apply pw_below_drewN | apply below_drew1 | refine below_set ?_ (IsS57.ge HI485.out)) | exact HB.out)⟩⟩
                              case rest =>
                                clear HC31
                                try clear c1
                                try clear c2
                                try clear p2
                                try clear c3
                                try clear p4
                                try clear q4
                                try clear hx4
                                try clear c6
                                try clear p6
                                try clear c7
                                try clear c7b0
                                try clear c7b1
                                try clear c9
                                try clear c12
                                try clear c12b0
                                try clear c14
                                try clear c14b0
                                try clear c15
                                try clear c15b0
                                try clear c16
                                try clear c17
                                try clear c17b0
                                try clear c18
                                try clear c18b0
                                try clear c23
                                try clear c23b0
                                try clear c23b1
                                try clear c24
                                try clear c25
                                try clear c26
                                try clear c27
                                try clear c27b0
                                try clear c27b1
                                try clear c30
                                try clear c32
                                try clear c32b0
                                try clear c32b1
                                try clear hx486_0
                                try clear hx486_1
                                try clear hx487_0
                                try clear hx487_1
                                try clear hx488_0
                                try clear hx488_1
                                try clear hx497_0
                                try clear hx497_1
                                try clear p2
                                try clear p4
                                try clear p486
                                try clear p487
                                try clear p488
                                try clear p497
                                try clear p6
                                try clear q4
                                try clear q486
                                try clear q487
                                try clear q488
                                try clear q497
                                obtain ⟨kq, x78_30, rfl, HA, HJ30, HI485, HB⟩ := hcut
                                cases kq with
                                | zero => exact absurd HA.out (by simp [usufructlaw10_BreakerHolds.j3])
                                | succ kj30 =>
                                  have H := HA.out
                                  clear HA
                                  simp only [usufructlaw10_BreakerHolds.j3] at H
                                  by_cases c33 : x78_30 = true
                                  · subst c33
                                    have H1 : (if 0 ≤ x12_1 then (if x12_1 < (l3.length : Int) then ((breaker_Breaker_Done.f t490 t491 t492 t493 t494 t495 t496 (wrap64 (x11_1 + ((rd_T40 l3 x12_1).f1))) (((rd_T40 l3 x12_1).f0) == 2)).bind fun bt507 => (usufructlaw10_BreakerHolds.j4 kj30 l3 (wrap64 (1 + (Int.tmod (wrap64 (a2)) 9))) (wrap64 (x11_1 + ((rd_T40 l3 x12_1).f1))) x12_1 bt507.1 bt507.2.1 bt507.2.2.1 bt507.2.2.2.1 bt507.2.2.2.2.1 bt507.2.2.2.2.2.1 bt507.2.2.2.2.2.2)) else (none)) else (none)) = some r := by rw [if_pos rfl] at H; exact H
                                    clear H
                                    have H := H1
                                    clear H1
                                    by_cases c34 : 0 ≤ x12_1
                                    · rw [if_pos c34] at H
                                      have c34b0 : decide (0 ≤ x12_1) = true := decide_eq_true c34
                                      clear c34
                                      by_cases c35 : x12_1 < (l3.length : Int)
                                      · rw [if_pos c35] at H
                                        have c35b0 : decide (x12_1 < (l3.length : Int)) = true := decide_eq_true c35
                                        clear c35
                                        replace H := Option.bind_eq_some_iff.mp H
                                        obtain ⟨⟨t507, t508, t509, t510, t511, t512, t513⟩, A360, H⟩ := H
                                        replace H : (usufructlaw10_BreakerHolds.j4 kj30 l3 (wrap64 (1 + (Int.tmod (wrap64 (a2)) 9))) (wrap64 (x11_1 + ((rd_T40 l3 x12_1).f1))) x12_1 t507 t508 t509 t510 t511 t512 t513) = some r := H
                                        have A36 := Aside0.mk A360
                                        clear A360
                                        have H' := Aside0.mk H
                                        clear H
                                        have p506 : 0 ≤ (x12_1 : Int) := of_decide_eq_true (by first | (with_reducible assumption) | assumption)
                                        have q506 : x12_1 < (l3.length : Int) := of_decide_eq_true (by first | (with_reducible assumption) | assumption)
                                        obtain ⟨ad506, e506, hx506_0, hx506_1⟩ := at_T40 HR3.out x12_1 p506 q506
                                        obtain rfl : ad488 = ad506 := (by injection e506)
                                        replace hx506_0 := (HB.out.cell (World.block_lt_of_cell? w _ hx506_0)).trans hx506_0
                                        replace hx506_1 := (HB.out.cell (World.block_lt_of_cell? w _ hx506_1)).trans hx506_1
                                        replace p506 := eq_true p506
                                        replace q506 := eq_true q506
                                        go_wp2_with (first | ((with_reducible refine gate_callee (f := 28) rfl ?_); refine goesL_ (some 89) rfl rfl Try.func28 (by kernel_rfl) rfl #[.pointer (some ⟨g485, 0, none⟩), .int .i64 (wrap64 (x11_1 + ((rd_T40 l3 x12_1).f1))), .bool (((rd_T40 l3 x12_1).f0) == 2)] rfl (by (try simp only [List.map_toArray, List.map_cons, List.map_nil]); first | done | rfl | (simp only [List.length_drop, List.length_take]; rfl)) ?_; (with_reducible refine (breaker_Breaker_Done.calls g485 t490 t491 t492 t493 t494 t495 t496 (wrap64 (x11_1 + ((rd_T40 l3 x12_1).f1))) (((rd_T40 l3 x12_1).f0) == 2) t507 t508 t509 t510 t511 t512 t513 w _ ?side1 ?side2 A36.out).mono ?_); (case side1 => repeat (first | (with_reducible first | exact HI485.out | apply IsS57.alloc | apply IsS57.drewN | apply IsS57.drew | apply IsS57.set_0 | apply IsS57.set_1 | apply IsS57.set_2 | apply IsS57.set_3 | apply IsS57.set_4 | apply IsS57.set_5 | apply IsS57.set_6) | exact HI485.out)); (case side2 => repeat (first | (with_reducible first | exact HB.out | apply below_alloc | apply pw_below_drewN | apply below_drew1 | refine below_set ?_ (IsS57.ge HI485.out)) | exact HB.out)); rintro e w37 ⟨rfl, hi, hb, hk⟩; refine ⟨_, rfl, ?_⟩; have n0_ := Aside0.mk (hb); have n1_ := Aside0.mk (hi); clear HB; clear HI485; have HB := n0_; have HI485 := n1_; clear n0_ n1_; (try clear hb); (try clear hb2); (try clear hk); (try clear hi)))
                                        go_meet
                                        case rel => exact ⟨_, (t507), (t508), (t509), (t510), (t511), (t512), (t513), H', ⟨by have := HK1.out; have := HJ12.out; have := HJ21.out; have := HJ30.out; first | omega | exact Nat.le_refl _⟩, ⟨by repeat (first | (with_reducible first | exact HI485.out | apply IsS57.alloc | apply IsS57.drewN | apply IsS57.drew | apply IsS57.set_0 | apply IsS57.set_1 | apply IsS57.set_2 | apply IsS57.set_3 | apply IsS57.set_4 | apply IsS57.set_5 | apply IsS57.set_6) | exact HI485.out)⟩, ⟨by repeat (first | (with_reducible first | exact HB.out | apply below_alloc | apply pw_below_drewN | apply below_drew1 | refine below_set ?_ (IsS57.ge HI485.out)) | exact HB.out)⟩⟩
                                      · rw [if_neg c35] at H
                                        exact absurd H (by simp)
                                    · rw [if_neg c34] at H
                                      exact absurd H (by simp)
                                  · replace c33 := Bool.eq_false_iff.mpr c33
                                    subst c33
                                    have H1 : (if ((rd_T40 l3 x12_1).f0) = 4 then ((breaker_Breaker_Lost.f t490 t491 t492 t493 t494 t495 t496 (wrap64 (x11_1 + ((rd_T40 l3 x12_1).f1)))).bind fun bt514 => (usufructlaw10_BreakerHolds.j4 kj30 l3 (wrap64 (1 + (Int.tmod (wrap64 (a2)) 9))) (wrap64 (x11_1 + ((rd_T40 l3 x12_1).f1))) x12_1 bt514.1 bt514.2.1 bt514.2.2.1 bt514.2.2.2.1 bt514.2.2.2.2.1 bt514.2.2.2.2.2.1 bt514.2.2.2.2.2.2)) else (usufructlaw10_BreakerHolds.j4 kj30 l3 (wrap64 (1 + (Int.tmod (wrap64 (a2)) 9))) (wrap64 (x11_1 + ((rd_T40 l3 x12_1).f1))) x12_1 t490 t491 t492 t493 t494 t495 t496)) = some r := by rw [if_neg (show ¬ (false = true) by decide)] at H; exact H
                                    clear H
                                    have H := H1
                                    clear H1
                                    by_cases c38 : ((rd_T40 l3 x12_1).f0) = 4
                                    · rw [if_pos c38] at H
                                      have c38b0 : (((rd_T40 l3 x12_1).f0) == 4) = true := beq_iff_eq.mpr c38
                                      have c38b1 : (((rd_T40 l3 x12_1).f0) != 4) = false := bne_eq_false_iff_eq.mpr c38
                                      clear c38
                                      replace H := Option.bind_eq_some_iff.mp H
                                      obtain ⟨⟨t514, t515, t516, t517, t518, t519, t520⟩, A390, H⟩ := H
                                      replace H : (usufructlaw10_BreakerHolds.j4 kj30 l3 (wrap64 (1 + (Int.tmod (wrap64 (a2)) 9))) (wrap64 (x11_1 + ((rd_T40 l3 x12_1).f1))) x12_1 t514 t515 t516 t517 t518 t519 t520) = some r := H
                                      have A39 := Aside0.mk A390
                                      clear A390
                                      have H' := Aside0.mk H
                                      clear H
                                      go_wp2_with (first | ((with_reducible refine gate_callee (f := 36) rfl ?_); refine goesL_ (some 94) rfl rfl Try.func36 (by kernel_rfl) rfl #[.pointer (some ⟨g485, 0, none⟩), .int .i64 (wrap64 (x11_1 + ((rd_T40 l3 x12_1).f1)))] rfl (by (try simp only [List.map_toArray, List.map_cons, List.map_nil]); first | done | rfl | (simp only [List.length_drop, List.length_take]; rfl)) ?_; (with_reducible refine (breaker_Breaker_Lost.calls g485 t490 t491 t492 t493 t494 t495 t496 (wrap64 (x11_1 + ((rd_T40 l3 x12_1).f1))) t514 t515 t516 t517 t518 t519 t520 w _ ?side1 ?side2 A39.out).mono ?_); (case side1 => repeat (first | (with_reducible first | exact HI485.out | apply IsS57.alloc | apply IsS57.drewN | apply IsS57.drew | apply IsS57.set_0 | apply IsS57.set_1 | apply IsS57.set_2 | apply IsS57.set_3 | apply IsS57.set_4 | apply IsS57.set_5 | apply IsS57.set_6) | exact HI485.out)); (case side2 => repeat (first | (with_reducible first | exact HB.out | apply below_alloc | apply pw_below_drewN | apply below_drew1 | refine below_set ?_ (IsS57.ge HI485.out)) | exact HB.out)); rintro e w40 ⟨rfl, hi, hb, hk⟩; refine ⟨_, rfl, ?_⟩; have n0_ := Aside0.mk (hb); have n1_ := Aside0.mk (hi); clear HB; clear HI485; have HB := n0_; have HI485 := n1_; clear n0_ n1_; (try clear hb); (try clear hb2); (try clear hk); (try clear hi)))
                                      go_meet
                                      case rel => exact ⟨_, (t514), (t515), (t516), (t517), (t518), (t519), (t520), H', ⟨by have := HK1.out; have := HJ12.out; have := HJ21.out; have := HJ30.out; first | omega | exact Nat.le_refl _⟩, ⟨by repeat (first | (with_reducible first | exact HI485.out | apply IsS57.alloc | apply IsS57.drewN | apply IsS57.drew | apply IsS57.set_0 | apply IsS57.set_1 | apply IsS57.set_2 | apply IsS57.set_3 | apply IsS57.set_4 | apply IsS57.set_5 | apply IsS57.set_6) | exact HI485.out)⟩, ⟨by repeat (first | (with_reducible first | exact HB.out | apply below_alloc | apply pw_below_drewN | apply below_drew1 | refine below_set ?_ (IsS57.ge HI485.out)) | exact HB.out)⟩⟩
                                    · rw [if_neg c38] at H
                                      have c38b0 : (((rd_T40 l3 x12_1).f0) == 4) = false := beq_eq_false_iff_ne.mpr c38
                                      have c38b1 : (((rd_T40 l3 x12_1).f0) != 4) = true := bne_iff_ne.mpr c38
                                      have H' := Aside0.mk H
                                      clear H
                                      go_wp2
                                      go_meet
                                      case rel => exact ⟨_, (t490), (t491), (t492), (t493), (t494), (t495), (t496), H', ⟨by have := HK1.out; have := HJ12.out; have := HJ21.out; have := HJ30.out; first | omega | exact Nat.le_refl _⟩, ⟨by repeat (first | (with_reducible first | exact HI485.out | apply IsS57.alloc | apply IsS57.drewN | apply IsS57.drew | apply IsS57.set_0 | apply IsS57.set_1 | apply IsS57.set_2 | apply IsS57.set_3 | apply IsS57.set_4 | apply IsS57.set_5 | apply IsS57.set_6) | exact HI485.out)⟩, ⟨by repeat (first | (with_reducible first | exact HB.out | apply below_alloc | apply pw_below_drewN | apply below_drew1 | refine below_set ?_ (IsS57.ge HI485.out)) | exact HB.out)⟩⟩
                      case rest =>
                        clear HC20
                        try clear c1
                        try clear c2
                        try clear p2
                        try clear c3
                        try clear p4
                        try clear q4
                        try clear hx4
                        try clear p5
                        try clear q5
                        try clear hx5
                        try clear c6
                        try clear p6
                        try clear c7
                        try clear c7b0
                        try clear c7b1
                        try clear c9
                        try clear c12
                        try clear c12b0
                        try clear c14
                        try clear c14b0
                        try clear c15
                        try clear c15b0
                        try clear c16
                        try clear c17
                        try clear c17b0
                        try clear c18
                        try clear c18b0
                        try clear c23
                        try clear c23b0
                        try clear c23b1
                        try clear c24
                        try clear c25
                        try clear c26
                        try clear c27
                        try clear c27b0
                        try clear c27b1
                        try clear c28
                        try clear c30
                        try clear c32
                        try clear c32b0
                        try clear c32b1
                        try clear c33
                        try clear c34
                        try clear c34b0
                        try clear c35
                        try clear c35b0
                        try clear c36
                        try clear c38
                        try clear c38b0
                        try clear c38b1
                        try clear hx486_0
                        try clear hx486_1
                        try clear hx487_0
                        try clear hx487_1
                        try clear hx488_0
                        try clear hx488_1
                        try clear hx497_0
                        try clear hx497_1
                        try clear hx506_0
                        try clear hx506_1
                        try clear p2
                        try clear p4
                        try clear p486
                        try clear p487
                        try clear p488
                        try clear p497
                        try clear p506
                        try clear p6
                        try clear q4
                        try clear q486
                        try clear q487
                        try clear q488
                        try clear q497
                        try clear q506
                        obtain ⟨kq, x486000_19, x486001_19, x486002_19, x486003_19, x486004_19, x486005_19, x486006_19, HA, HJ19, HI485, HB⟩ := hcut
                        cases kq with
                        | zero => exact absurd HA.out (by simp [usufructlaw10_BreakerHolds.j4])
                        | succ kj19 =>
                          have H := HA.out
                          clear HA
                          simp only [usufructlaw10_BreakerHolds.j4] at H
                          replace H := Option.bind_eq_some_iff.mp H
                          obtain ⟨⟨t521, t522, t523, t524, t525, t526, t527, t528⟩, A410, H⟩ := H
                          replace H : (if t521 < 0 then (some false) else ((breaker_Breaker_Out.f t522 t523 t524 t525 t526 t527 t528).bind fun bt529 => (if bt529.1 > (wrap64 (1 + (Int.tmod (wrap64 (a2)) 9))) then (some false) else ((breaker_Breaker_State.f bt529.2.1 bt529.2.2.1 bt529.2.2.2.1 bt529.2.2.2.2.1 bt529.2.2.2.2.2.1 bt529.2.2.2.2.2.2.1 bt529.2.2.2.2.2.2.2 (wrap64 (x11_1 + ((rd_T40 l3 x12_1).f1)))).bind fun bt537 => (if bt537.1 = 0 then ((breaker_Breaker_Out.f bt537.2.1 bt537.2.2.1 bt537.2.2.2.1 bt537.2.2.2.2.1 bt537.2.2.2.2.2.1 bt537.2.2.2.2.2.2.1 bt537.2.2.2.2.2.2.2).bind fun bt545 => (if bt545.1 = 0 then (usufructlaw10_BreakerHolds.l0 kj19 l3 (wrap64 (1 + (Int.tmod (wrap64 (a2)) 9))) (wrap64 (x11_1 + ((rd_T40 l3 x12_1).f1))) (wrap64 (x12_1 + 1)) bt545.2.1 bt545.2.2.1 bt545.2.2.2.1 bt545.2.2.2.2.1 bt545.2.2.2.2.2.1 bt545.2.2.2.2.2.2.1 bt545.2.2.2.2.2.2.2) else (some false))) else (usufructlaw10_BreakerHolds.l0 kj19 l3 (wrap64 (1 + (Int.tmod (wrap64 (a2)) 9))) (wrap64 (x11_1 + ((rd_T40 l3 x12_1).f1))) (wrap64 (x12_1 + 1)) bt537.2.1 bt537.2.2.1 bt537.2.2.2.1 bt537.2.2.2.2.1 bt537.2.2.2.2.2.1 bt537.2.2.2.2.2.2.1 bt537.2.2.2.2.2.2.2)))))) = some r := H
                          have A41 := Aside0.mk A410
                          clear A410
                          by_cases c42 : t521 < 0
                          · rw [if_pos c42] at H
                            have c42b0 : decide (t521 < 0) = true := decide_eq_true c42
                            clear c42
                            obtain rfl := Option.some.inj H
                            go_wp2_with (first | ((with_reducible refine gate_callee (f := 38) rfl ?_); refine goesL_ (some 96) rfl rfl Try.func38 (by kernel_rfl) rfl #[.pointer (some ⟨g485, 0, none⟩)] rfl (by (try simp only [List.map_toArray, List.map_cons, List.map_nil]); first | done | rfl | (simp only [List.length_drop, List.length_take]; rfl)) ?_; (with_reducible refine (breaker_Breaker_Out.calls g485 x486000_19 x486001_19 x486002_19 x486003_19 x486004_19 x486005_19 x486006_19 t521 t522 t523 t524 t525 t526 t527 t528 w _ ?side1 ?side2 A41.out).mono ?_); (case side1 => repeat (first | (with_reducible first | exact HI485.out | apply IsS57.alloc | apply IsS57.drewN | apply IsS57.drew | apply IsS57.set_0 | apply IsS57.set_1 | apply IsS57.set_2 | apply IsS57.set_3 | apply IsS57.set_4 | apply IsS57.set_5 | apply IsS57.set_6) | exact HI485.out)); (case side2 => repeat (first | (with_reducible first | exact HB.out | apply below_alloc | apply pw_below_drewN | apply below_drew1 | refine below_set ?_ (IsS57.ge HI485.out)) | exact HB.out)); rintro e w43 ⟨rfl, hi, hb, hk⟩; refine ⟨_, rfl, ?_⟩; have n0_ := Aside0.mk (hb); have n1_ := Aside0.mk (hi); clear HB; clear HI485; have HB := n0_; have HI485 := n1_; clear n0_ n1_; (try clear hb); (try clear hb2); (try clear hk); (try clear hi)))
                            go_ret
                            exact ⟨by first | rfl | (simp [errW_none, errW_some] <;> rfl) | (simp [*, errW_none, errW_some] <;> rfl), by repeat (first | (with_reducible first | exact HB.out | apply below_alloc | apply pw_below_drewN | apply below_drew1 | refine below_set ?_ (IsS57.ge HI485.out)) | exact HB.out)⟩
                          · rw [if_neg c42] at H
                            have c42b0 : decide (t521 < 0) = false := decide_eq_false c42
                            clear c42
                            replace H := Option.bind_eq_some_iff.mp H
                            obtain ⟨⟨t529, t530, t531, t532, t533, t534, t535, t536⟩, A440, H⟩ := H
                            replace H : (if t529 > (wrap64 (1 + (Int.tmod (wrap64 (a2)) 9))) then (some false) else ((breaker_Breaker_State.f t530 t531 t532 t533 t534 t535 t536 (wrap64 (x11_1 + ((rd_T40 l3 x12_1).f1)))).bind fun bt537 => (if bt537.1 = 0 then ((breaker_Breaker_Out.f bt537.2.1 bt537.2.2.1 bt537.2.2.2.1 bt537.2.2.2.2.1 bt537.2.2.2.2.2.1 bt537.2.2.2.2.2.2.1 bt537.2.2.2.2.2.2.2).bind fun bt545 => (if bt545.1 = 0 then (usufructlaw10_BreakerHolds.l0 kj19 l3 (wrap64 (1 + (Int.tmod (wrap64 (a2)) 9))) (wrap64 (x11_1 + ((rd_T40 l3 x12_1).f1))) (wrap64 (x12_1 + 1)) bt545.2.1 bt545.2.2.1 bt545.2.2.2.1 bt545.2.2.2.2.1 bt545.2.2.2.2.2.1 bt545.2.2.2.2.2.2.1 bt545.2.2.2.2.2.2.2) else (some false))) else (usufructlaw10_BreakerHolds.l0 kj19 l3 (wrap64 (1 + (Int.tmod (wrap64 (a2)) 9))) (wrap64 (x11_1 + ((rd_T40 l3 x12_1).f1))) (wrap64 (x12_1 + 1)) bt537.2.1 bt537.2.2.1 bt537.2.2.2.1 bt537.2.2.2.2.1 bt537.2.2.2.2.2.1 bt537.2.2.2.2.2.2.1 bt537.2.2.2.2.2.2.2)))) = some r := H
                            have A44 := Aside0.mk A440
                            clear A440
                            by_cases c45 : t529 > (wrap64 (1 + (Int.tmod (wrap64 (a2)) 9)))
                            · rw [if_pos c45] at H
                              have c45b0 : decide ((wrap64 (1 + (Int.tmod (wrap64 (a2)) 9))) < t529) = true := decide_eq_true c45
                              clear c45
                              obtain rfl := Option.some.inj H
                              go_wp2_with (first | ((with_reducible refine gate_callee (f := 38) rfl ?_); refine goesL_ (some 96) rfl rfl Try.func38 (by kernel_rfl) rfl #[.pointer (some ⟨g485, 0, none⟩)] rfl (by (try simp only [List.map_toArray, List.map_cons, List.map_nil]); first | done | rfl | (simp only [List.length_drop, List.length_take]; rfl)) ?_; (with_reducible refine (breaker_Breaker_Out.calls g485 x486000_19 x486001_19 x486002_19 x486003_19 x486004_19 x486005_19 x486006_19 t521 t522 t523 t524 t525 t526 t527 t528 w _ ?side1 ?side2 A41.out).mono ?_); (case side1 => repeat (first | (with_reducible first | exact HI485.out | apply IsS57.alloc | apply IsS57.drewN | apply IsS57.drew | apply IsS57.set_0 | apply IsS57.set_1 | apply IsS57.set_2 | apply IsS57.set_3 | apply IsS57.set_4 | apply IsS57.set_5 | apply IsS57.set_6) | exact HI485.out)); (case side2 => repeat (first | (with_reducible first | exact HB.out | apply below_alloc | apply pw_below_drewN | apply below_drew1 | refine below_set ?_ (IsS57.ge HI485.out)) | exact HB.out)); rintro e w46 ⟨rfl, hi, hb, hk⟩; refine ⟨_, rfl, ?_⟩; have n0_ := Aside0.mk (hb); have n1_ := Aside0.mk (hi); clear HB; clear HI485; have HB := n0_; have HI485 := n1_; clear n0_ n1_; (try clear hb); (try clear hb2); (try clear hk); (try clear hi)) | (go_at_call 38; (with_reducible refine (breaker_Breaker_Out.calls g485 t522 t523 t524 t525 t526 t527 t528 t529 t530 t531 t532 t533 t534 t535 t536 w _ ?side1 ?side2 A44.out).mono ?_); (case side1 => repeat (first | (with_reducible first | exact HI485.out | apply IsS57.alloc | apply IsS57.drewN | apply IsS57.drew | apply IsS57.set_0 | apply IsS57.set_1 | apply IsS57.set_2 | apply IsS57.set_3 | apply IsS57.set_4 | apply IsS57.set_5 | apply IsS57.set_6) | exact HI485.out)); (case side2 => repeat (first | (with_reducible first | exact HB.out | apply below_alloc | apply pw_below_drewN | apply below_drew1 | refine below_set ?_ (IsS57.ge HI485.out)) | exact HB.out)); rintro e w47 ⟨rfl, hi, hb, hk⟩; have n0_ := Aside0.mk (hb); have n1_ := Aside0.mk (hi); clear HB; clear HI485; have HB := n0_; have HI485 := n1_; clear n0_ n1_; (try clear hb); (try clear hb2); (try clear hk); (try clear hi)))
                              go_ret
                              exact ⟨by first | rfl | (simp [errW_none, errW_some] <;> rfl) | (simp [*, errW_none, errW_some] <;> rfl), by repeat (first | (with_reducible first | exact HB.out | apply below_alloc | apply pw_below_drewN | apply below_drew1 | refine below_set ?_ (IsS57.ge HI485.out)) | exact HB.out)⟩
                            · rw [if_neg c45] at H
                              have c45b0 : decide ((wrap64 (1 + (Int.tmod (wrap64 (a2)) 9))) < t529) = false := decide_eq_false c45
                              clear c45
                              replace H := Option.bind_eq_some_iff.mp H
                              obtain ⟨⟨t537, t538, t539, t540, t541, t542, t543, t544⟩, A480, H⟩ := H
                              replace H : (if t537 = 0 then ((breaker_Breaker_Out.f t538 t539 t540 t541 t542 t543 t544).bind fun bt545 => (if bt545.1 = 0 then (usufructlaw10_BreakerHolds.l0 kj19 l3 (wrap64 (1 + (Int.tmod (wrap64 (a2)) 9))) (wrap64 (x11_1 + ((rd_T40 l3 x12_1).f1))) (wrap64 (x12_1 + 1)) bt545.2.1 bt545.2.2.1 bt545.2.2.2.1 bt545.2.2.2.2.1 bt545.2.2.2.2.2.1 bt545.2.2.2.2.2.2.1 bt545.2.2.2.2.2.2.2) else (some false))) else (usufructlaw10_BreakerHolds.l0 kj19 l3 (wrap64 (1 + (Int.tmod (wrap64 (a2)) 9))) (wrap64 (x11_1 + ((rd_T40 l3 x12_1).f1))) (wrap64 (x12_1 + 1)) t538 t539 t540 t541 t542 t543 t544)) = some r := H
                              have A48 := Aside0.mk A480
                              clear A480
                              by_cases c49 : t537 = 0
                              · rw [if_pos c49] at H
                                have c49b0 : (t537 == 0) = true := beq_iff_eq.mpr c49
                                have c49b1 : (t537 != 0) = false := bne_eq_false_iff_eq.mpr c49
                                clear c49
                                replace H := Option.bind_eq_some_iff.mp H
                                obtain ⟨⟨t545, t546, t547, t548, t549, t550, t551, t552⟩, A500, H⟩ := H
                                replace H : (if t545 = 0 then (usufructlaw10_BreakerHolds.l0 kj19 l3 (wrap64 (1 + (Int.tmod (wrap64 (a2)) 9))) (wrap64 (x11_1 + ((rd_T40 l3 x12_1).f1))) (wrap64 (x12_1 + 1)) t546 t547 t548 t549 t550 t551 t552) else (some false)) = some r := H
                                have A50 := Aside0.mk A500
                                clear A500
                                by_cases c51 : t545 = 0
                                · rw [if_pos c51] at H
                                  have c51b0 : (t545 == 0) = true := beq_iff_eq.mpr c51
                                  have c51b1 : (t545 != 0) = false := bne_eq_false_iff_eq.mpr c51
                                  clear c51
                                  have H' := Aside0.mk H
                                  clear H
                                  go_wp2_with (first | ((with_reducible refine gate_callee (f := 38) rfl ?_); refine goesL_ (some 96) rfl rfl Try.func38 (by kernel_rfl) rfl #[.pointer (some ⟨g485, 0, none⟩)] rfl (by (try simp only [List.map_toArray, List.map_cons, List.map_nil]); first | done | rfl | (simp only [List.length_drop, List.length_take]; rfl)) ?_; (with_reducible refine (breaker_Breaker_Out.calls g485 x486000_19 x486001_19 x486002_19 x486003_19 x486004_19 x486005_19 x486006_19 t521 t522 t523 t524 t525 t526 t527 t528 w _ ?side1 ?side2 A41.out).mono ?_); (case side1 => repeat (first | (with_reducible first | exact HI485.out | apply IsS57.alloc | apply IsS57.drewN | apply IsS57.drew | apply IsS57.set_0 | apply IsS57.set_1 | apply IsS57.set_2 | apply IsS57.set_3 | apply IsS57.set_4 | apply IsS57.set_5 | apply IsS57.set_6) | exact HI485.out)); (case side2 => repeat (first | (with_reducible first | exact HB.out | apply below_alloc | apply pw_below_drewN | apply below_drew1 | refine below_set ?_ (IsS57.ge HI485.out)) | exact HB.out)); rintro e w52 ⟨rfl, hi, hb, hk⟩; refine ⟨_, rfl, ?_⟩; have n0_ := Aside0.mk (hb); have n1_ := Aside0.mk (hi); clear HB; clear HI485; have HB := n0_; have HI485 := n1_; clear n0_ n1_; (try clear hb); (try clear hb2); (try clear hk); (try clear hi)) | (go_at_call 38; (with_reducible refine (breaker_Breaker_Out.calls g485 t522 t523 t524 t525 t526 t527 t528 t529 t530 t531 t532 t533 t534 t535 t536 w _ ?side1 ?side2 A44.out).mono ?_); (case side1 => repeat (first | (with_reducible first | exact HI485.out | apply IsS57.alloc | apply IsS57.drewN | apply IsS57.drew | apply IsS57.set_0 | apply IsS57.set_1 | apply IsS57.set_2 | apply IsS57.set_3 | apply IsS57.set_4 | apply IsS57.set_5 | apply IsS57.set_6) | exact HI485.out)); (case side2 => repeat (first | (with_reducible first | exact HB.out | apply below_alloc | apply pw_below_drewN | apply below_drew1 | refine below_set ?_ (IsS57.ge HI485.out)) | exact HB.out)); rintro e w53 ⟨rfl, hi, hb, hk⟩; have n0_ := Aside0.mk (hb); have n1_ := Aside0.mk (hi); clear HB; clear HI485; have HB := n0_; have HI485 := n1_; clear n0_ n1_; (try clear hb); (try clear hb2); (try clear hk); (try clear hi)) | (go_at_call 27; (with_reducible refine (breaker_Breaker_State.calls g485 t530 t531 t532 t533 t534 t535 t536 (wrap64 (x11_1 + ((rd_T40 l3 x12_1).f1))) t537 t538 t539 t540 t541 t542 t543 t544 w _ ?side1 ?side2 A48.out).mono ?_); (case side1 => repeat (first | (with_reducible first | exact HI485.out | apply IsS57.alloc | apply IsS57.drewN | apply IsS57.drew | apply IsS57.set_0 | apply IsS57.set_1 | apply IsS57.set_2 | apply IsS57.set_3 | apply IsS57.set_4 | apply IsS57.set_5 | apply IsS57.set_6) | exact HI485.out)); (case side2 => repeat (first | (with_reducible first | exact HB.out | apply below_alloc | apply pw_below_drewN | apply below_drew1 | refine below_set ?_ (IsS57.ge HI485.out)) | exact HB.out)); rintro e w54 ⟨rfl, hi, hb, hk⟩; have n0_ := Aside0.mk (hb); have n1_ := Aside0.mk (hi); clear HB; clear HI485; have HB := n0_; have HI485 := n1_; clear n0_ n1_; (try clear hb); (try clear hb2); (try clear hk); (try clear hi)) | (go_at_call 38; (with_reducible refine (breaker_Breaker_Out.calls g485 t538 t539 t540 t541 t542 t543 t544 t545 t546 t547 t548 t549 t550 t551 t552 w _ ?side1 ?side2 A50.out).mono ?_); (case side1 => repeat (first | (with_reducible first | exact HI485.out | apply IsS57.alloc | apply IsS57.drewN | apply IsS57.drew | apply IsS57.set_0 | apply IsS57.set_1 | apply IsS57.set_2 | apply IsS57.set_3 | apply IsS57.set_4 | apply IsS57.set_5 | apply IsS57.set_6) | exact HI485.out)); (case side2 => repeat (first | (with_reducible first | exact HB.out | apply below_alloc | apply pw_below_drewN | apply below_drew1 | refine below_set ?_ (IsS57.ge HI485.out)) | exact HB.out)); rintro e w55 ⟨rfl, hi, hb, hk⟩; have n0_ := Aside0.mk (hb); have n1_ := Aside0.mk (hi); clear HB; clear HI485; have HB := n0_; have HI485 := n1_; clear n0_ n1_; (try clear hb); (try clear hb2); (try clear hk); (try clear hi)))
                                  go_roundg kj19
                                  case measure => have := HK1.out; have := HJ12.out; have := HJ19.out; omega
                                  case rel => exact ⟨((wrap64 (x11_1 + ((rd_T40 l3 x12_1).f1)))), (wrap64 (x12_1 + 1)), (t546), (t547), (t548), (t549), (t550), (t551), (t552), (by first | rfl | (simp; done) | (simp [*]; done)), (by first | rfl | (simp; done) | (simp [*]; done)), H', ⟨by have := HK1.out; have := HJ12.out; have := HJ19.out; omega⟩, ⟨by repeat (first | (with_reducible first | exact HI485.out | apply IsS57.alloc | apply IsS57.drewN | apply IsS57.drew | apply IsS57.set_0 | apply IsS57.set_1 | apply IsS57.set_2 | apply IsS57.set_3 | apply IsS57.set_4 | apply IsS57.set_5 | apply IsS57.set_6) | exact HI485.out)⟩, ⟨by repeat (first | (with_reducible first | exact HB.out | apply below_alloc | apply pw_below_drewN | apply below_drew1 | refine below_set ?_ (IsS57.ge HI485.out)) | exact HB.out)⟩⟩
                                · rw [if_neg c51] at H
                                  have c51b0 : (t545 == 0) = false := beq_eq_false_iff_ne.mpr c51
                                  have c51b1 : (t545 != 0) = true := bne_iff_ne.mpr c51
                                  obtain rfl := Option.some.inj H
                                  go_wp2_with (first | ((with_reducible refine gate_callee (f := 38) rfl ?_); refine goesL_ (some 96) rfl rfl Try.func38 (by kernel_rfl) rfl #[.pointer (some ⟨g485, 0, none⟩)] rfl (by (try simp only [List.map_toArray, List.map_cons, List.map_nil]); first | done | rfl | (simp only [List.length_drop, List.length_take]; rfl)) ?_; (with_reducible refine (breaker_Breaker_Out.calls g485 x486000_19 x486001_19 x486002_19 x486003_19 x486004_19 x486005_19 x486006_19 t521 t522 t523 t524 t525 t526 t527 t528 w _ ?side1 ?side2 A41.out).mono ?_); (case side1 => repeat (first | (with_reducible first | exact HI485.out | apply IsS57.alloc | apply IsS57.drewN | apply IsS57.drew | apply IsS57.set_0 | apply IsS57.set_1 | apply IsS57.set_2 | apply IsS57.set_3 | apply IsS57.set_4 | apply IsS57.set_5 | apply IsS57.set_6) | exact HI485.out)); (case side2 => repeat (first | (with_reducible first | exact HB.out | apply below_alloc | apply pw_below_drewN | apply below_drew1 | refine below_set ?_ (IsS57.ge HI485.out)) | exact HB.out)); rintro e w56 ⟨rfl, hi, hb, hk⟩; refine ⟨_, rfl, ?_⟩; have n0_ := Aside0.mk (hb); have n1_ := Aside0.mk (hi); clear HB; clear HI485; have HB := n0_; have HI485 := n1_; clear n0_ n1_; (try clear hb); (try clear hb2); (try clear hk); (try clear hi)) | (go_at_call 38; (with_reducible refine (breaker_Breaker_Out.calls g485 t522 t523 t524 t525 t526 t527 t528 t529 t530 t531 t532 t533 t534 t535 t536 w _ ?side1 ?side2 A44.out).mono ?_); (case side1 => repeat (first | (with_reducible first | exact HI485.out | apply IsS57.alloc | apply IsS57.drewN | apply IsS57.drew | apply IsS57.set_0 | apply IsS57.set_1 | apply IsS57.set_2 | apply IsS57.set_3 | apply IsS57.set_4 | apply IsS57.set_5 | apply IsS57.set_6) | exact HI485.out)); (case side2 => repeat (first | (with_reducible first | exact HB.out | apply below_alloc | apply pw_below_drewN | apply below_drew1 | refine below_set ?_ (IsS57.ge HI485.out)) | exact HB.out)); rintro e w57 ⟨rfl, hi, hb, hk⟩; have n0_ := Aside0.mk (hb); have n1_ := Aside0.mk (hi); clear HB; clear HI485; have HB := n0_; have HI485 := n1_; clear n0_ n1_; (try clear hb); (try clear hb2); (try clear hk); (try clear hi)) | (go_at_call 27; (with_reducible refine (breaker_Breaker_State.calls g485 t530 t531 t532 t533 t534 t535 t536 (wrap64 (x11_1 + ((rd_T40 l3 x12_1).f1))) t537 t538 t539 t540 t541 t542 t543 t544 w _ ?side1 ?side2 A48.out).mono ?_); (case side1 => repeat (first | (with_reducible first | exact HI485.out | apply IsS57.alloc | apply IsS57.drewN | apply IsS57.drew | apply IsS57.set_0 | apply IsS57.set_1 | apply IsS57.set_2 | apply IsS57.set_3 | apply IsS57.set_4 | apply IsS57.set_5 | apply IsS57.set_6) | exact HI485.out)); (case side2 => repeat (first | (with_reducible first | exact HB.out | apply below_alloc | apply pw_below_drewN | apply below_drew1 | refine below_set ?_ (IsS57.ge HI485.out)) | exact HB.out)); rintro e w58 ⟨rfl, hi, hb, hk⟩; have n0_ := Aside0.mk (hb); have n1_ := Aside0.mk (hi); clear HB; clear HI485; have HB := n0_; have HI485 := n1_; clear n0_ n1_; (try clear hb); (try clear hb2); (try clear hk); (try clear hi)) | (go_at_call 38; (with_reducible refine (breaker_Breaker_Out.calls g485 t538 t539 t540 t541 t542 t543 t544 t545 t546 t547 t548 t549 t550 t551 t552 w _ ?side1 ?side2 A50.out).mono ?_); (case side1 => repeat (first | (with_reducible first | exact HI485.out | apply IsS57.alloc | apply IsS57.drewN | apply IsS57.drew | apply IsS57.set_0 | apply IsS57.set_1 | apply IsS57.set_2 | apply IsS57.set_3 | apply IsS57.set_4 | apply IsS57.set_5 | apply IsS57.set_6) | exact HI485.out)); (case side2 => repeat (first | (with_reducible first | exact HB.out | apply below_alloc | apply pw_below_drewN | apply below_drew1 | refine below_set ?_ (IsS57.ge HI485.out)) | exact HB.out)); rintro e w59 ⟨rfl, hi, hb, hk⟩; have n0_ := Aside0.mk (hb); have n1_ := Aside0.mk (hi); clear HB; clear HI485; have HB := n0_; have HI485 := n1_; clear n0_ n1_; (try clear hb); (try clear hb2); (try clear hk); (try clear hi)))
                                  go_ret
                                  exact ⟨by first | rfl | (simp [errW_none, errW_some] <;> rfl) | (simp [*, errW_none, errW_some] <;> rfl), by repeat (first | (with_reducible first | exact HB.out | apply below_alloc | apply pw_below_drewN | apply below_drew1 | refine below_set ?_ (IsS57.ge HI485.out)) | exact HB.out)⟩
                              · rw [if_neg c49] at H
                                have c49b0 : (t537 == 0) = false := beq_eq_false_iff_ne.mpr c49
                                have c49b1 : (t537 != 0) = true := bne_iff_ne.mpr c49
                                have H' := Aside0.mk H
                                clear H
                                go_wp2_with (first | ((with_reducible refine gate_callee (f := 38) rfl ?_); refine goesL_ (some 96) rfl rfl Try.func38 (by kernel_rfl) rfl #[.pointer (some ⟨g485, 0, none⟩)] rfl (by (try simp only [List.map_toArray, List.map_cons, List.map_nil]); first | done | rfl | (simp only [List.length_drop, List.length_take]; rfl)) ?_; (with_reducible refine (breaker_Breaker_Out.calls g485 x486000_19 x486001_19 x486002_19 x486003_19 x486004_19 x486005_19 x486006_19 t521 t522 t523 t524 t525 t526 t527 t528 w _ ?side1 ?side2 A41.out).mono ?_); (case side1 => repeat (first | (with_reducible first | exact HI485.out | apply IsS57.alloc | apply IsS57.drewN | apply IsS57.drew | apply IsS57.set_0 | apply IsS57.set_1 | apply IsS57.set_2 | apply IsS57.set_3 | apply IsS57.set_4 | apply IsS57.set_5 | apply IsS57.set_6) | exact HI485.out)); (case side2 => repeat (first | (with_reducible first | exact HB.out | apply below_alloc | apply pw_below_drewN | apply below_drew1 | refine below_set ?_ (IsS57.ge HI485.out)) | exact HB.out)); rintro e w60 ⟨rfl, hi, hb, hk⟩; refine ⟨_, rfl, ?_⟩; have n0_ := Aside0.mk (hb); have n1_ := Aside0.mk (hi); clear HB; clear HI485; have HB := n0_; have HI485 := n1_; clear n0_ n1_; (try clear hb); (try clear hb2); (try clear hk); (try clear hi)) | (go_at_call 38; (with_reducible refine (breaker_Breaker_Out.calls g485 t522 t523 t524 t525 t526 t527 t528 t529 t530 t531 t532 t533 t534 t535 t536 w _ ?side1 ?side2 A44.out).mono ?_); (case side1 => repeat (first | (with_reducible first | exact HI485.out | apply IsS57.alloc | apply IsS57.drewN | apply IsS57.drew | apply IsS57.set_0 | apply IsS57.set_1 | apply IsS57.set_2 | apply IsS57.set_3 | apply IsS57.set_4 | apply IsS57.set_5 | apply IsS57.set_6) | exact HI485.out)); (case side2 => repeat (first | (with_reducible first | exact HB.out | apply below_alloc | apply pw_below_drewN | apply below_drew1 | refine below_set ?_ (IsS57.ge HI485.out)) | exact HB.out)); rintro e w61 ⟨rfl, hi, hb, hk⟩; have n0_ := Aside0.mk (hb); have n1_ := Aside0.mk (hi); clear HB; clear HI485; have HB := n0_; have HI485 := n1_; clear n0_ n1_; (try clear hb); (try clear hb2); (try clear hk); (try clear hi)) | (go_at_call 27; (with_reducible refine (breaker_Breaker_State.calls g485 t530 t531 t532 t533 t534 t535 t536 (wrap64 (x11_1 + ((rd_T40 l3 x12_1).f1))) t537 t538 t539 t540 t541 t542 t543 t544 w _ ?side1 ?side2 A48.out).mono ?_); (case side1 => repeat (first | (with_reducible first | exact HI485.out | apply IsS57.alloc | apply IsS57.drewN | apply IsS57.drew | apply IsS57.set_0 | apply IsS57.set_1 | apply IsS57.set_2 | apply IsS57.set_3 | apply IsS57.set_4 | apply IsS57.set_5 | apply IsS57.set_6) | exact HI485.out)); (case side2 => repeat (first | (with_reducible first | exact HB.out | apply below_alloc | apply pw_below_drewN | apply below_drew1 | refine below_set ?_ (IsS57.ge HI485.out)) | exact HB.out)); rintro e w62 ⟨rfl, hi, hb, hk⟩; have n0_ := Aside0.mk (hb); have n1_ := Aside0.mk (hi); clear HB; clear HI485; have HB := n0_; have HI485 := n1_; clear n0_ n1_; (try clear hb); (try clear hb2); (try clear hk); (try clear hi)))
                                go_roundg kj19
                                case measure => have := HK1.out; have := HJ12.out; have := HJ19.out; omega
                                case rel => exact ⟨((wrap64 (x11_1 + ((rd_T40 l3 x12_1).f1)))), (wrap64 (x12_1 + 1)), (t538), (t539), (t540), (t541), (t542), (t543), (t544), (by first | rfl | (simp; done) | (simp [*]; done)), (by first | rfl | (simp; done) | (simp [*]; done)), H', ⟨by have := HK1.out; have := HJ12.out; have := HJ19.out; omega⟩, ⟨by repeat (first | (with_reducible first | exact HI485.out | apply IsS57.alloc | apply IsS57.drewN | apply IsS57.drew | apply IsS57.set_0 | apply IsS57.set_1 | apply IsS57.set_2 | apply IsS57.set_3 | apply IsS57.set_4 | apply IsS57.set_5 | apply IsS57.set_6) | exact HI485.out)⟩, ⟨by repeat (first | (with_reducible first | exact HB.out | apply below_alloc | apply pw_below_drewN | apply below_drew1 | refine below_set ?_ (IsS57.ge HI485.out)) | exact HB.out)⟩⟩
                    · rw [if_neg c18] at H
                      exact absurd H (by simp)
                  · rw [if_neg c17] at H
                    exact absurd H (by simp)
          · rw [if_neg c12] at H
            have c12b0 : decide (x12_1 < (l3.length : Int)) = false := decide_eq_false c12
            clear c12
            obtain rfl := Option.some.inj H
            go_wp2
            go_ret
            exact ⟨by first | rfl | (simp [errW_none, errW_some] <;> rfl) | (simp [*, errW_none, errW_some] <;> rfl), by repeat (first | (with_reducible first | exact HB.out | apply below_alloc | apply pw_below_drewN | apply below_drew1 | refine below_set ?_ (IsS57.ge HI485.out)) | exact HB.out)⟩
  · replace c6 := Bool.eq_false_iff.mpr c6
    subst c6
    have H1 : (some false) = some r := by rw [if_neg (show ¬ (false = true) by decide)] at H; exact H
    clear H
    have H := H1
    clear H1
    obtain rfl := Option.some.inj H
    go_enter Try.func9, Try.ntmps9
    go_wp2_with (first | ((with_reducible refine gate_callee (f := 25) rfl ?_); refine goesL_ (some 14) rfl rfl Try.func25 (by kernel_rfl) rfl #[] rfl (by (try simp only [List.map_toArray, List.map_cons, List.map_nil]); first | done | rfl | (simp only [List.length_drop, List.length_take]; rfl)) ?_; (with_reducible refine (usufructlaw10_awake.calls  false _ A5.out).mono ?_); rintro e w63 ⟨rfl, hb⟩; refine ⟨_, rfl, ?_⟩; have n0_ := Aside0.mk (below_step (by repeat (first | (with_reducible first | exact HB.out | apply below_alloc | apply pw_below_drewN | apply below_drew1) | exact HB.out)) hb); clear HB; have HB := n0_; clear n0_; (try clear hb); (try clear hb2); (try clear hk); (try clear hi)))
    go_ret
    exact ⟨by first | rfl | (simp [errW_none, errW_some] <;> rfl) | (simp [*, errW_none, errW_some] <;> rfl), by repeat (first | (with_reducible first | exact HB.out | apply below_alloc | apply pw_below_drewN | apply below_drew1) | exact HB.out)⟩

end Go.Proofs.Ytiohhfjocmibdaa.Q
