-- written for this claim by a program of the session
import Derived.Test.YtiohhfjocmibdaaQx0
import Derived.Test.YtiohhfjocmibdaaQx15
import Derived.Test.YtiohhfjocmibdaaQx17
import Derived.Test.YtiohhfjocmibdaaQx18
import Derived.Test.YtiohhfjocmibdaaQx19
import Derived.Test.YtiohhfjocmibdaaGBreakerNew
namespace Go.Proofs.Ytiohhfjocmibdaa.Q
open Go.RowKit Go.Proofs.YtiohhfjocmibdaaW.PrintWords Go.Proofs.YtiohhfjocmibdaaW.PrintLast Go.Proofs.YtiohhfjocmibdaaW.PrintMore
attribute [local go_sem] max2_int min2_int max_two min_two max_three min_three max_four min_four   -- for this text's walks alone
set_option linter.unusedVariables false
set_option linter.unusedSimpArgs false

/-! ### usufructlaw10_BreakerTrips: function 7 -/
def usufructlaw10_BreakerTrips.l0 : Nat → Int → Int → Int → Int → Int → Int → Int → Int → Int → Int → Int → Option (Bool)
  | 0, _, _, _, _, _, _, _, _, _, _, _ => none
  | k + 1, x1, x2, x7, x9, x289000, x289001, x289002, x289003, x289004, x289005, x289006 => if x9 < x7 then ((breaker_Breaker_State.f x289000 x289001 x289002 x289003 x289004 x289005 x289006 (wrap64 (x2))).bind fun bt289 => (if bt289.1 = 0 then ((breaker_Breaker_Done.f bt289.2.1 bt289.2.2.1 bt289.2.2.2.1 bt289.2.2.2.2.1 bt289.2.2.2.2.2.1 bt289.2.2.2.2.2.2.1 bt289.2.2.2.2.2.2.2 (wrap64 (x2)) false).bind fun bt297 => (usufructlaw10_BreakerTrips.l0 k x1 x2 x7 (wrap64 (x9 + 1)) bt297.1 bt297.2.1 bt297.2.2.1 bt297.2.2.2.1 bt297.2.2.2.2.1 bt297.2.2.2.2.2.1 bt297.2.2.2.2.2.2)) else (some false))) else ((breaker_Breaker_Until.f x289000 x289001 x289002 x289003 x289004 x289005 x289006).bind fun bt304 => (if bt304.1 = (wrap64 ((wrap64 (x2)) + (wrap64 (x1)))) then ((breaker_Breaker_State.f bt304.2.1 bt304.2.2.1 bt304.2.2.2.1 bt304.2.2.2.2.1 bt304.2.2.2.2.2.1 bt304.2.2.2.2.2.2.1 bt304.2.2.2.2.2.2.2 (wrap64 ((wrap64 (x2)) + (wrap64 (x1))))).bind fun bt312 => (if bt312.1 = 2 then (if x1 = 0 then ((breaker_Breaker_Send.f bt312.2.1 bt312.2.2.1 bt312.2.2.2.1 bt312.2.2.2.2.1 bt312.2.2.2.2.2.1 bt312.2.2.2.2.2.2.1 bt312.2.2.2.2.2.2.2 (wrap64 ((wrap64 (x2)) + (wrap64 (x1))))).bind fun bt320 => (if bt320.1 = true then ((breaker_Breaker_Send.f bt320.2.1 bt320.2.2.1 bt320.2.2.2.1 bt320.2.2.2.2.1 bt320.2.2.2.2.2.1 bt320.2.2.2.2.2.2.1 bt320.2.2.2.2.2.2.2 (wrap64 ((wrap64 (x2)) + (wrap64 (x1))))).bind fun bt328 => (some (!bt328.1))) else (some false))) else ((breaker_Breaker_State.f bt312.2.1 bt312.2.2.1 bt312.2.2.2.1 bt312.2.2.2.2.1 bt312.2.2.2.2.2.1 bt312.2.2.2.2.2.2.1 bt312.2.2.2.2.2.2.2 (wrap64 ((wrap64 ((wrap64 (x2)) + (wrap64 (x1)))) - 1))).bind fun bt336 => (if bt336.1 = 1 then ((breaker_Breaker_Send.f bt336.2.1 bt336.2.2.1 bt336.2.2.2.1 bt336.2.2.2.2.1 bt336.2.2.2.2.2.1 bt336.2.2.2.2.2.2.1 bt336.2.2.2.2.2.2.2 (wrap64 ((wrap64 (x2)) + (wrap64 (x1))))).bind fun bt344 => (if bt344.1 = true then ((breaker_Breaker_Send.f bt344.2.1 bt344.2.2.1 bt344.2.2.2.1 bt344.2.2.2.2.1 bt344.2.2.2.2.2.1 bt344.2.2.2.2.2.2.1 bt344.2.2.2.2.2.2.2 (wrap64 ((wrap64 (x2)) + (wrap64 (x1))))).bind fun bt352 => (some (!bt352.1))) else (some false))) else (some false)))) else (some false))) else (some false)))
def usufructlaw10_BreakerTrips.f (k : Nat) (a0 : Int) (a1 : Int) (a2 : Int) : Option (Bool) := (usufructlaw10_awake.f).bind fun t280 => (if t280 = true then ((breaker_New.f (wrap64 (1 + (wrap64 (a0)))) (wrap64 (a1)) 1).bind fun bt281 => (usufructlaw10_BreakerTrips.l0 k a1 a2 (wrap64 (1 + (wrap64 (a0)))) 0 bt281.1 bt281.2.1 bt281.2.2.1 bt281.2.2.2.1 bt281.2.2.2.2.1 bt281.2.2.2.2.2.1 bt281.2.2.2.2.2.2)) else (some false))
theorem usufructlaw10_BreakerTrips.mono_l : ∀ k, (∀ y0 y1 y2 y3 y4 y5 y6 y7 y8 y9 y10, LeO (usufructlaw10_BreakerTrips.l0 k y0 y1 y2 y3 y4 y5 y6 y7 y8 y9 y10) (usufructlaw10_BreakerTrips.l0 (k + 1) y0 y1 y2 y3 y4 y5 y6 y7 y8 y9 y10))
  | 0 => fun _ _ _ _ _ _ _ _ _ _ _ r h => by simp [usufructlaw10_BreakerTrips.l0] at h
  | k + 1 => by
    have ih0 := usufructlaw10_BreakerTrips.mono_l k
    · intro y0 y1 y2 y3 y4 y5 y6 y7 y8 y9 y10
      unfold usufructlaw10_BreakerTrips.l0
      repeat' first
      | (with_reducible exact ih0 _ _ _ _ _ _ _ _ _ _ _)
      | (with_reducible exact LeO.refl _)
      | (with_reducible exact LeO.none _)
      | (with_reducible refine LeO.ite ?_ ?_)
      | (with_reducible refine LeO.bind ?_ (fun _ => ?_))
      | exact ih0 _ _ _ _ _ _ _ _ _ _ _
      | exact LeO.none _
      | refine LeO.ite ?_ ?_
      | refine LeO.bind ?_ (fun _ => ?_)
theorem usufructlaw10_BreakerTrips.mono : ∀ a0 a1 a2 k, LeO (usufructlaw10_BreakerTrips.f k a0 a1 a2) (usufructlaw10_BreakerTrips.f (k + 1) a0 a1 a2) := by
  intro a0 a1 a2 k
  have ih0 := usufructlaw10_BreakerTrips.mono_l k
  unfold usufructlaw10_BreakerTrips.f
  repeat' first
      | (with_reducible exact ih0 _ _ _ _ _ _ _ _ _ _ _)
      | (with_reducible exact LeO.refl _)
      | (with_reducible exact LeO.none _)
      | (with_reducible refine LeO.ite ?_ ?_)
      | (with_reducible refine LeO.bind ?_ (fun _ => ?_))
      | exact ih0 _ _ _ _ _ _ _ _ _ _ _
      | exact LeO.none _
      | refine LeO.ite ?_ ?_
      | refine LeO.bind ?_ (fun _ => ?_)
set_option maxHeartbeats 8000000 in
set_option maxRecDepth 100000 in
theorem usufructlaw10_BreakerTrips.calls (k : Nat) (a0 : Int) (a1 : Int) (a2 : Int) (r : Bool) (w : World) (h : usufructlaw10_BreakerTrips.f k a0 a1 a2 = some r) :
    Calls Try.prog 7 #[.int .u8 a0, .int .u16 a1, .int .u32 a2] w fun e w' => e = .returned (.bool r) ∧ Below w.heap.size w w' := by
  have HB := Aside0.mk (Below.refl w.heap.size w)
  have H : ((usufructlaw10_awake.f).bind fun t280 => (if t280 = true then ((breaker_New.f (wrap64 (1 + (wrap64 (a0)))) (wrap64 (a1)) 1).bind fun bt281 => (usufructlaw10_BreakerTrips.l0 k a1 a2 (wrap64 (1 + (wrap64 (a0)))) 0 bt281.1 bt281.2.1 bt281.2.2.1 bt281.2.2.2.1 bt281.2.2.2.2.1 bt281.2.2.2.2.2.1 bt281.2.2.2.2.2.2)) else (some false))) = some r := h
  clear h
  replace H := Option.bind_eq_some_iff.mp H
  obtain ⟨t280, A40, H⟩ := H
  replace H : (if t280 = true then ((breaker_New.f (wrap64 (1 + (wrap64 (a0)))) (wrap64 (a1)) 1).bind fun bt281 => (usufructlaw10_BreakerTrips.l0 k a1 a2 (wrap64 (1 + (wrap64 (a0)))) 0 bt281.1 bt281.2.1 bt281.2.2.1 bt281.2.2.2.1 bt281.2.2.2.2.1 bt281.2.2.2.2.2.1 bt281.2.2.2.2.2.2)) else (some false)) = some r := H
  have A4 := Aside0.mk A40
  clear A40
  by_cases c5 : t280 = true
  · subst c5
    have H1 : ((breaker_New.f (wrap64 (1 + (wrap64 (a0)))) (wrap64 (a1)) 1).bind fun bt281 => (usufructlaw10_BreakerTrips.l0 k a1 a2 (wrap64 (1 + (wrap64 (a0)))) 0 bt281.1 bt281.2.1 bt281.2.2.1 bt281.2.2.2.1 bt281.2.2.2.2.1 bt281.2.2.2.2.2.1 bt281.2.2.2.2.2.2)) = some r := by rw [if_pos rfl] at H; exact H
    clear H
    have H := H1
    clear H1
    replace H := Option.bind_eq_some_iff.mp H
    obtain ⟨⟨t281, t282, t283, t284, t285, t286, t287⟩, A60, H⟩ := H
    replace H : (usufructlaw10_BreakerTrips.l0 k a1 a2 (wrap64 (1 + (wrap64 (a0)))) 0 t281 t282 t283 t284 t285 t286 t287) = some r := H
    have A6 := Aside0.mk A60
    clear A60
    have H' := Aside0.mk H
    clear H
    go_enter Try.func7, Try.ntmps7
    go_wp2_with (first | ((with_reducible refine gate_callee (f := 25) rfl ?_); refine goesL_ (some 11) rfl rfl Try.func25 (by kernel_rfl) rfl #[] rfl (by (try simp only [List.map_toArray, List.map_cons, List.map_nil]); first | done | rfl | (simp only [List.length_drop, List.length_take]; rfl)) ?_; (with_reducible refine (usufructlaw10_awake.calls  true _ A4.out).mono ?_); rintro e w7 ⟨rfl, hb⟩; refine ⟨_, rfl, ?_⟩; have n0_ := Aside0.mk (below_step (by repeat (first | (with_reducible first | exact HB.out | apply below_alloc | apply pw_below_drewN | apply below_drew1) | exact HB.out)) hb); clear HB; have HB := n0_; clear n0_; (try clear hb); (try clear hb2); (try clear hk); (try clear hi)) | ((with_reducible refine gate_callee (f := 26) rfl ?_); refine goesL_ (some 19) rfl rfl Try.func26 (by kernel_rfl) rfl #[.int .i64 (wrap64 (1 + (wrap64 (a0)))), .int .i64 (wrap64 (a1)), .int .i64 1] rfl (by (try simp only [List.map_toArray, List.map_cons, List.map_nil]); first | done | rfl | (simp only [List.length_drop, List.length_take]; rfl)) ?_; (with_reducible refine (breaker_New.calls (wrap64 (1 + (wrap64 (a0)))) (wrap64 (a1)) 1 t281 t282 t283 t284 t285 t286 t287 w _ ?side1 A6.out).mono ?_); (case side1 => repeat (first | (with_reducible first | exact HB.out | apply below_alloc | apply pw_below_drewN | apply below_drew1) | exact HB.out)); rintro e w8 ⟨g288, rfl, hi, hb, hb2⟩; refine ⟨_, rfl, ?_⟩; have n0_ := Aside0.mk (hb); have n1_ := Aside0.mk (hi); clear HB; have HB := n0_; have HI288 := n1_; clear n0_ n1_; (try clear hb); (try clear hb2); (try clear hk); (try clear hi)))
    go_loopg [9] k (fun kq v9 w' => ∃ (x9_1 : Int) (x289000_1 : Int) (x289001_1 : Int) (x289002_1 : Int) (x289003_1 : Int) (x289004_1 : Int) (x289005_1 : Int) (x289006_1 : Int), v9 = .int .i64 x9_1 ∧ Aside0 (usufructlaw10_BreakerTrips.l0 kq a1 a2 (wrap64 (1 + (wrap64 (a0)))) x9_1 x289000_1 x289001_1 x289002_1 x289003_1 x289004_1 x289005_1 x289006_1 = some r) ∧ Aside0 (kq ≤ k) ∧ Aside0 (IsS57 w w' g288 x289000_1 x289001_1 x289002_1 x289003_1 x289004_1 x289005_1 x289006_1) ∧ Aside0 (Below w.heap.size w w'))
    case atStart => exact ⟨(0), (t281), (t282), (t283), (t284), (t285), (t286), (t287), (by first | rfl | (simp; done) | (simp [*]; done)), H', ⟨Nat.le_refl _⟩, ⟨by repeat (first | (with_reducible first | exact HI288.out | apply IsS57.alloc | apply IsS57.drewN | apply IsS57.drew | apply IsS57.set_0 | apply IsS57.set_1 | apply IsS57.set_2 | apply IsS57.set_3 | apply IsS57.set_4 | apply IsS57.set_5 | apply IsS57.set_6) | exact HI288.out)⟩, ⟨by repeat (first | (with_reducible first | exact HB.out | apply below_alloc | apply pw_below_drewN | apply below_drew1 | refine below_set ?_ (IsS57.ge HI288.out)) | exact HB.out)⟩⟩
    case round =>
      clear H'
      try clear c2
      try clear p2
      try clear c5
      try clear p6
      try clear c7
      obtain ⟨x9_1, x289000_1, x289001_1, x289002_1, x289003_1, x289004_1, x289005_1, x289006_1, rfl, HA, HK1, HI288, HB⟩ := hrel
      cases gk with
      | zero => exact absurd HA.out (by simp [usufructlaw10_BreakerTrips.l0])
      | succ k1 =>
        have H := HA.out
        clear HA
        simp only [usufructlaw10_BreakerTrips.l0] at H
        by_cases c9 : x9_1 < (wrap64 (1 + (wrap64 (a0))))
        · rw [if_pos c9] at H
          have c9b0 : decide (x9_1 < (wrap64 (1 + (wrap64 (a0))))) = true := decide_eq_true c9
          clear c9
          replace H := Option.bind_eq_some_iff.mp H
          obtain ⟨⟨t289, t290, t291, t292, t293, t294, t295, t296⟩, A100, H⟩ := H
          replace H : (if t289 = 0 then ((breaker_Breaker_Done.f t290 t291 t292 t293 t294 t295 t296 (wrap64 (a2)) false).bind fun bt297 => (usufructlaw10_BreakerTrips.l0 k1 a1 a2 (wrap64 (1 + (wrap64 (a0)))) (wrap64 (x9_1 + 1)) bt297.1 bt297.2.1 bt297.2.2.1 bt297.2.2.2.1 bt297.2.2.2.2.1 bt297.2.2.2.2.2.1 bt297.2.2.2.2.2.2)) else (some false)) = some r := H
          have A10 := Aside0.mk A100
          clear A100
          by_cases c11 : t289 = 0
          · rw [if_pos c11] at H
            have c11b0 : (t289 == 0) = true := beq_iff_eq.mpr c11
            have c11b1 : (t289 != 0) = false := bne_eq_false_iff_eq.mpr c11
            clear c11
            replace H := Option.bind_eq_some_iff.mp H
            obtain ⟨⟨t297, t298, t299, t300, t301, t302, t303⟩, A120, H⟩ := H
            replace H : (usufructlaw10_BreakerTrips.l0 k1 a1 a2 (wrap64 (1 + (wrap64 (a0)))) (wrap64 (x9_1 + 1)) t297 t298 t299 t300 t301 t302 t303) = some r := H
            have A12 := Aside0.mk A120
            clear A120
            have H' := Aside0.mk H
            clear H
            go_wp2_with (first | ((with_reducible refine gate_callee (f := 27) rfl ?_); refine goesL_ (some 30) rfl rfl Try.func27 (by kernel_rfl) rfl #[.pointer (some ⟨g288, 0, none⟩), .int .i64 (wrap64 (a2))] rfl (by (try simp only [List.map_toArray, List.map_cons, List.map_nil]); first | done | rfl | (simp only [List.length_drop, List.length_take]; rfl)) ?_; (with_reducible refine (breaker_Breaker_State.calls g288 x289000_1 x289001_1 x289002_1 x289003_1 x289004_1 x289005_1 x289006_1 (wrap64 (a2)) t289 t290 t291 t292 t293 t294 t295 t296 w _ ?side1 ?side2 A10.out).mono ?_); (case side1 => repeat (first | (with_reducible first | exact HI288.out | apply IsS57.alloc | apply IsS57.drewN | apply IsS57.drew | apply IsS57.set_0 | apply IsS57.set_1 | apply IsS57.set_2 | apply IsS57.set_3 | apply IsS57.set_4 | apply IsS57.set_5 | apply IsS57.set_6) | exact HI288.out)); (case side2 => repeat (first | (with_reducible first | exact HB.out | apply below_alloc | apply pw_below_drewN | apply below_drew1 | refine below_set ?_ (IsS57.ge HI288.out)) | exact HB.out)); rintro e w13 ⟨rfl, hi, hb, hk⟩; refine ⟨_, rfl, ?_⟩; have n0_ := Aside0.mk (hb); have n1_ := Aside0.mk (hi); clear HB; clear HI288; have HB := n0_; have HI288 := n1_; clear n0_ n1_; (try clear hb); (try clear hb2); (try clear hk); (try clear hi)) | ((with_reducible refine gate_callee (f := 28) rfl ?_); refine goesL_ (some 35) rfl rfl Try.func28 (by kernel_rfl) rfl #[.pointer (some ⟨g288, 0, none⟩), .int .i64 (wrap64 (a2)), .bool false] rfl (by (try simp only [List.map_toArray, List.map_cons, List.map_nil]); first | done | rfl | (simp only [List.length_drop, List.length_take]; rfl)) ?_; (with_reducible refine (breaker_Breaker_Done.calls g288 t290 t291 t292 t293 t294 t295 t296 (wrap64 (a2)) false t297 t298 t299 t300 t301 t302 t303 w _ ?side1 ?side2 A12.out).mono ?_); (case side1 => repeat (first | (with_reducible first | exact HI288.out | apply IsS57.alloc | apply IsS57.drewN | apply IsS57.drew | apply IsS57.set_0 | apply IsS57.set_1 | apply IsS57.set_2 | apply IsS57.set_3 | apply IsS57.set_4 | apply IsS57.set_5 | apply IsS57.set_6) | exact HI288.out)); (case side2 => repeat (first | (with_reducible first | exact HB.out | apply below_alloc | apply pw_below_drewN | apply below_drew1 | refine below_set ?_ (IsS57.ge HI288.out)) | exact HB.out)); rintro e w14 ⟨rfl, hi, hb, hk⟩; refine ⟨_, rfl, ?_⟩; have n0_ := Aside0.mk (hb); have n1_ := Aside0.mk (hi); clear HB; clear HI288; have HB := n0_; have HI288 := n1_; clear n0_ n1_; (try clear hb); (try clear hb2); (try clear hk); (try clear hi)))
            go_roundg k1
            case measure => have := HK1.out; omega
            case rel => exact ⟨(wrap64 (x9_1 + 1)), (t297), (t298), (t299), (t300), (t301), (t302), (t303), (by first | rfl | (simp; done) | (simp [*]; done)), H', ⟨by have := HK1.out; omega⟩, ⟨by repeat (first | (with_reducible first | exact HI288.out | apply IsS57.alloc | apply IsS57.drewN | apply IsS57.drew | apply IsS57.set_0 | apply IsS57.set_1 | apply IsS57.set_2 | apply IsS57.set_3 | apply IsS57.set_4 | apply IsS57.set_5 | apply IsS57.set_6) | exact HI288.out)⟩, ⟨by repeat (first | (with_reducible first | exact HB.out | apply below_alloc | apply pw_below_drewN | apply below_drew1 | refine below_set ?_ (IsS57.ge HI288.out)) | exact HB.out)⟩⟩
          · rw [if_neg c11] at H
            have c11b0 : (t289 == 0) = false := beq_eq_false_iff_ne.mpr c11
            have c11b1 : (t289 != 0) = true := bne_iff_ne.mpr c11
            obtain rfl := Option.some.inj H
            go_wp2_with (first | ((with_reducible refine gate_callee (f := 27) rfl ?_); refine goesL_ (some 30) rfl rfl Try.func27 (by kernel_rfl) rfl #[.pointer (some ⟨g288, 0, none⟩), .int .i64 (wrap64 (a2))] rfl (by (try simp only [List.map_toArray, List.map_cons, List.map_nil]); first | done | rfl | (simp only [List.length_drop, List.length_take]; rfl)) ?_; (with_reducible refine (breaker_Breaker_State.calls g288 x289000_1 x289001_1 x289002_1 x289003_1 x289004_1 x289005_1 x289006_1 (wrap64 (a2)) t289 t290 t291 t292 t293 t294 t295 t296 w _ ?side1 ?side2 A10.out).mono ?_); (case side1 => repeat (first | (with_reducible first | exact HI288.out | apply IsS57.alloc | apply IsS57.drewN | apply IsS57.drew | apply IsS57.set_0 | apply IsS57.set_1 | apply IsS57.set_2 | apply IsS57.set_3 | apply IsS57.set_4 | apply IsS57.set_5 | apply IsS57.set_6) | exact HI288.out)); (case side2 => repeat (first | (with_reducible first | exact HB.out | apply below_alloc | apply pw_below_drewN | apply below_drew1 | refine below_set ?_ (IsS57.ge HI288.out)) | exact HB.out)); rintro e w15 ⟨rfl, hi, hb, hk⟩; refine ⟨_, rfl, ?_⟩; have n0_ := Aside0.mk (hb); have n1_ := Aside0.mk (hi); clear HB; clear HI288; have HB := n0_; have HI288 := n1_; clear n0_ n1_; (try clear hb); (try clear hb2); (try clear hk); (try clear hi)))
            go_ret
            exact ⟨by first | rfl | (simp [errW_none, errW_some] <;> rfl) | (simp [*, errW_none, errW_some] <;> rfl), by repeat (first | (with_reducible first | exact HB.out | apply below_alloc | apply pw_below_drewN | apply below_drew1 | refine below_set ?_ (IsS57.ge HI288.out)) | exact HB.out)⟩
        · rw [if_neg c9] at H
          have c9b0 : decide (x9_1 < (wrap64 (1 + (wrap64 (a0))))) = false := decide_eq_false c9
          clear c9
          replace H := Option.bind_eq_some_iff.mp H
          obtain ⟨⟨t304, t305, t306, t307, t308, t309, t310, t311⟩, A160, H⟩ := H
          replace H : (if t304 = (wrap64 ((wrap64 (a2)) + (wrap64 (a1)))) then ((breaker_Breaker_State.f t305 t306 t307 t308 t309 t310 t311 (wrap64 ((wrap64 (a2)) + (wrap64 (a1))))).bind fun bt312 => (if bt312.1 = 2 then (if a1 = 0 then ((breaker_Breaker_Send.f bt312.2.1 bt312.2.2.1 bt312.2.2.2.1 bt312.2.2.2.2.1 bt312.2.2.2.2.2.1 bt312.2.2.2.2.2.2.1 bt312.2.2.2.2.2.2.2 (wrap64 ((wrap64 (a2)) + (wrap64 (a1))))).bind fun bt320 => (if bt320.1 = true then ((breaker_Breaker_Send.f bt320.2.1 bt320.2.2.1 bt320.2.2.2.1 bt320.2.2.2.2.1 bt320.2.2.2.2.2.1 bt320.2.2.2.2.2.2.1 bt320.2.2.2.2.2.2.2 (wrap64 ((wrap64 (a2)) + (wrap64 (a1))))).bind fun bt328 => (some (!bt328.1))) else (some false))) else ((breaker_Breaker_State.f bt312.2.1 bt312.2.2.1 bt312.2.2.2.1 bt312.2.2.2.2.1 bt312.2.2.2.2.2.1 bt312.2.2.2.2.2.2.1 bt312.2.2.2.2.2.2.2 (wrap64 ((wrap64 ((wrap64 (a2)) + (wrap64 (a1)))) - 1))).bind fun bt336 => (if bt336.1 = 1 then ((breaker_Breaker_Send.f bt336.2.1 bt336.2.2.1 bt336.2.2.2.1 bt336.2.2.2.2.1 bt336.2.2.2.2.2.1 bt336.2.2.2.2.2.2.1 bt336.2.2.2.2.2.2.2 (wrap64 ((wrap64 (a2)) + (wrap64 (a1))))).bind fun bt344 => (if bt344.1 = true then ((breaker_Breaker_Send.f bt344.2.1 bt344.2.2.1 bt344.2.2.2.1 bt344.2.2.2.2.1 bt344.2.2.2.2.2.1 bt344.2.2.2.2.2.2.1 bt344.2.2.2.2.2.2.2 (wrap64 ((wrap64 (a2)) + (wrap64 (a1))))).bind fun bt352 => (some (!bt352.1))) else (some false))) else (some false)))) else (some false))) else (some false)) = some r := H
          have A16 := Aside0.mk A160
          clear A160
          by_cases c17 : t304 = (wrap64 ((wrap64 (a2)) + (wrap64 (a1))))
          · rw [if_pos c17] at H
            have c17b0 : (t304 == (wrap64 ((wrap64 (a2)) + (wrap64 (a1))))) = true := beq_iff_eq.mpr c17
            have c17b1 : (t304 != (wrap64 ((wrap64 (a2)) + (wrap64 (a1))))) = false := bne_eq_false_iff_eq.mpr c17
            clear c17
            replace H := Option.bind_eq_some_iff.mp H
            obtain ⟨⟨t312, t313, t314, t315, t316, t317, t318, t319⟩, A180, H⟩ := H
            replace H : (if t312 = 2 then (if a1 = 0 then ((breaker_Breaker_Send.f t313 t314 t315 t316 t317 t318 t319 (wrap64 ((wrap64 (a2)) + (wrap64 (a1))))).bind fun bt320 => (if bt320.1 = true then ((breaker_Breaker_Send.f bt320.2.1 bt320.2.2.1 bt320.2.2.2.1 bt320.2.2.2.2.1 bt320.2.2.2.2.2.1 bt320.2.2.2.2.2.2.1 bt320.2.2.2.2.2.2.2 (wrap64 ((wrap64 (a2)) + (wrap64 (a1))))).bind fun bt328 => (some (!bt328.1))) else (some false))) else ((breaker_Breaker_State.f t313 t314 t315 t316 t317 t318 t319 (wrap64 ((wrap64 ((wrap64 (a2)) + (wrap64 (a1)))) - 1))).bind fun bt336 => (if bt336.1 = 1 then ((breaker_Breaker_Send.f bt336.2.1 bt336.2.2.1 bt336.2.2.2.1 bt336.2.2.2.2.1 bt336.2.2.2.2.2.1 bt336.2.2.2.2.2.2.1 bt336.2.2.2.2.2.2.2 (wrap64 ((wrap64 (a2)) + (wrap64 (a1))))).bind fun bt344 => (if bt344.1 = true then ((breaker_Breaker_Send.f bt344.2.1 bt344.2.2.1 bt344.2.2.2.1 bt344.2.2.2.2.1 bt344.2.2.2.2.2.1 bt344.2.2.2.2.2.2.1 bt344.2.2.2.2.2.2.2 (wrap64 ((wrap64 (a2)) + (wrap64 (a1))))).bind fun bt352 => (some (!bt352.1))) else (some false))) else (some false)))) else (some false)) = some r := H
            have A18 := Aside0.mk A180
            clear A180
            by_cases c19 : t312 = 2
            · rw [if_pos c19] at H
              have c19b0 : (t312 == 2) = true := beq_iff_eq.mpr c19
              have c19b1 : (t312 != 2) = false := bne_eq_false_iff_eq.mpr c19
              clear c19
              by_cases c20 : a1 = 0
              · rw [if_pos c20] at H
                have c20b0 : (a1 == 0) = true := beq_iff_eq.mpr c20
                have c20b1 : (a1 != 0) = false := bne_eq_false_iff_eq.mpr c20
                clear c20
                replace H := Option.bind_eq_some_iff.mp H
                obtain ⟨⟨t320, t321, t322, t323, t324, t325, t326, t327⟩, A210, H⟩ := H
                replace H : (if t320 = true then ((breaker_Breaker_Send.f t321 t322 t323 t324 t325 t326 t327 (wrap64 ((wrap64 (a2)) + (wrap64 (a1))))).bind fun bt328 => (some (!bt328.1))) else (some false)) = some r := H
                have A21 := Aside0.mk A210
                clear A210
                by_cases c22 : t320 = true
                · subst c22
                  have H1 : ((breaker_Breaker_Send.f t321 t322 t323 t324 t325 t326 t327 (wrap64 ((wrap64 (a2)) + (wrap64 (a1))))).bind fun bt328 => (some (!bt328.1))) = some r := by rw [if_pos rfl] at H; exact H
                  clear H
                  have H := H1
                  clear H1
                  replace H := Option.bind_eq_some_iff.mp H
                  obtain ⟨⟨t328, t329, t330, t331, t332, t333, t334, t335⟩, A230, H⟩ := H
                  replace H : (some (!t328)) = some r := H
                  have A23 := Aside0.mk A230
                  clear A230
                  obtain rfl := Option.some.inj H
                  go_wp2_with (first | ((with_reducible refine gate_callee (f := 29) rfl ?_); refine goesL_ (some 42) rfl rfl Try.func29 (by kernel_rfl) rfl #[.pointer (some ⟨g288, 0, none⟩)] rfl (by (try simp only [List.map_toArray, List.map_cons, List.map_nil]); first | done | rfl | (simp only [List.length_drop, List.length_take]; rfl)) ?_; (with_reducible refine (breaker_Breaker_Until.calls g288 x289000_1 x289001_1 x289002_1 x289003_1 x289004_1 x289005_1 x289006_1 t304 t305 t306 t307 t308 t309 t310 t311 w _ ?side1 ?side2 A16.out).mono ?_); (case side1 => repeat (first | (with_reducible first | exact HI288.out | apply IsS57.alloc | apply IsS57.drewN | apply IsS57.drew | apply IsS57.set_0 | apply IsS57.set_1 | apply IsS57.set_2 | apply IsS57.set_3 | apply IsS57.set_4 | apply IsS57.set_5 | apply IsS57.set_6) | exact HI288.out)); (case side2 => repeat (first | (with_reducible first | exact HB.out | apply below_alloc | apply pw_below_drewN | apply below_drew1 | refine below_set ?_ (IsS57.ge HI288.out)) | exact HB.out)); rintro e w24 ⟨rfl, hi, hb, hk⟩; refine ⟨_, rfl, ?_⟩; have n0_ := Aside0.mk (hb); have n1_ := Aside0.mk (hi); clear HB; clear HI288; have HB := n0_; have HI288 := n1_; clear n0_ n1_; (try clear hb); (try clear hb2); (try clear hk); (try clear hi)) | (go_at_call 27; (with_reducible refine (breaker_Breaker_State.calls g288 t305 t306 t307 t308 t309 t310 t311 (wrap64 ((wrap64 (a2)) + (wrap64 (a1)))) t312 t313 t314 t315 t316 t317 t318 t319 w _ ?side1 ?side2 A18.out).mono ?_); (case side1 => repeat (first | (with_reducible first | exact HI288.out | apply IsS57.alloc | apply IsS57.drewN | apply IsS57.drew | apply IsS57.set_0 | apply IsS57.set_1 | apply IsS57.set_2 | apply IsS57.set_3 | apply IsS57.set_4 | apply IsS57.set_5 | apply IsS57.set_6) | exact HI288.out)); (case side2 => repeat (first | (with_reducible first | exact HB.out | apply below_alloc | apply pw_below_drewN | apply below_drew1 | refine below_set ?_ (IsS57.ge HI288.out)) | exact HB.out)); rintro e w25 ⟨rfl, hi, hb, hk⟩; have n0_ := Aside0.mk (hb); have n1_ := Aside0.mk (hi); clear HB; clear HI288; have HB := n0_; have HI288 := n1_; clear n0_ n1_; (try clear hb); (try clear hb2); (try clear hk); (try clear hi)) | (go_at_call 30; (with_reducible refine (breaker_Breaker_Send.calls g288 t313 t314 t315 t316 t317 t318 t319 (wrap64 ((wrap64 (a2)) + (wrap64 (a1)))) true t321 t322 t323 t324 t325 t326 t327 w _ ?side1 ?side2 A21.out).mono ?_); (case side1 => repeat (first | (with_reducible first | exact HI288.out | apply IsS57.alloc | apply IsS57.drewN | apply IsS57.drew | apply IsS57.set_0 | apply IsS57.set_1 | apply IsS57.set_2 | apply IsS57.set_3 | apply IsS57.set_4 | apply IsS57.set_5 | apply IsS57.set_6) | exact HI288.out)); (case side2 => repeat (first | (with_reducible first | exact HB.out | apply below_alloc | apply pw_below_drewN | apply below_drew1 | refine below_set ?_ (IsS57.ge HI288.out)) | exact HB.out)); rintro e w26 ⟨rfl, hi, hb, hk⟩; have n0_ := Aside0.mk (hb); have n1_ := Aside0.mk (hi); clear HB; clear HI288; have HB := n0_; have HI288 := n1_; clear n0_ n1_; (try clear hb); (try clear hb2); (try clear hk); (try clear hi)) | (go_at_call 30; (with_reducible refine (breaker_Breaker_Send.calls g288 t321 t322 t323 t324 t325 t326 t327 (wrap64 ((wrap64 (a2)) + (wrap64 (a1)))) t328 t329 t330 t331 t332 t333 t334 t335 w _ ?side1 ?side2 A23.out).mono ?_); (case side1 => repeat (first | (with_reducible first | exact HI288.out | apply IsS57.alloc | apply IsS57.drewN | apply IsS57.drew | apply IsS57.set_0 | apply IsS57.set_1 | apply IsS57.set_2 | apply IsS57.set_3 | apply IsS57.set_4 | apply IsS57.set_5 | apply IsS57.set_6) | exact HI288.out)); (case side2 => repeat (first | (with_reducible first | exact HB.out | apply below_alloc | apply pw_below_drewN | apply below_drew1 | refine below_set ?_ (IsS57.ge HI288.out)) | exact HB.out)); rintro e w27 ⟨rfl, hi, hb, hk⟩; have n0_ := Aside0.mk (hb); have n1_ := Aside0.mk (hi); clear HB; clear HI288; have HB := n0_; have HI288 := n1_; clear n0_ n1_; (try clear hb); (try clear hb2); (try clear hk); (try clear hi)))
                  go_ret
                  exact ⟨by first | rfl | (simp [errW_none, errW_some] <;> rfl) | (simp [*, errW_none, errW_some] <;> rfl), by repeat (first | (with_reducible first | exact HB.out | apply below_alloc | apply pw_below_drewN | apply below_drew1 | refine below_set ?_ (IsS57.ge HI288.out)) | exact HB.out)⟩
                · replace c22 := Bool.eq_false_iff.mpr c22
                  subst c22
                  have H1 : (some false) = some r := by rw [if_neg (show ¬ (false = true) by decide)] at H; exact H
                  clear H
                  have H := H1
                  clear H1
                  obtain rfl := Option.some.inj H
                  go_wp2_with (first | ((with_reducible refine gate_callee (f := 29) rfl ?_); refine goesL_ (some 42) rfl rfl Try.func29 (by kernel_rfl) rfl #[.pointer (some ⟨g288, 0, none⟩)] rfl (by (try simp only [List.map_toArray, List.map_cons, List.map_nil]); first | done | rfl | (simp only [List.length_drop, List.length_take]; rfl)) ?_; (with_reducible refine (breaker_Breaker_Until.calls g288 x289000_1 x289001_1 x289002_1 x289003_1 x289004_1 x289005_1 x289006_1 t304 t305 t306 t307 t308 t309 t310 t311 w _ ?side1 ?side2 A16.out).mono ?_); (case side1 => repeat (first | (with_reducible first | exact HI288.out | apply IsS57.alloc | apply IsS57.drewN | apply IsS57.drew | apply IsS57.set_0 | apply IsS57.set_1 | apply IsS57.set_2 | apply IsS57.set_3 | apply IsS57.set_4 | apply IsS57.set_5 | apply IsS57.set_6) | exact HI288.out)); (case side2 => repeat (first | (with_reducible first | exact HB.out | apply below_alloc | apply pw_below_drewN | apply below_drew1 | refine below_set ?_ (IsS57.ge HI288.out)) | exact HB.out)); rintro e w28 ⟨rfl, hi, hb, hk⟩; refine ⟨_, rfl, ?_⟩; have n0_ := Aside0.mk (hb); have n1_ := Aside0.mk (hi); clear HB; clear HI288; have HB := n0_; have HI288 := n1_; clear n0_ n1_; (try clear hb); (try clear hb2); (try clear hk); (try clear hi)) | (go_at_call 27; (with_reducible refine (breaker_Breaker_State.calls g288 t305 t306 t307 t308 t309 t310 t311 (wrap64 ((wrap64 (a2)) + (wrap64 (a1)))) t312 t313 t314 t315 t316 t317 t318 t319 w _ ?side1 ?side2 A18.out).mono ?_); (case side1 => repeat (first | (with_reducible first | exact HI288.out | apply IsS57.alloc | apply IsS57.drewN | apply IsS57.drew | apply IsS57.set_0 | apply IsS57.set_1 | apply IsS57.set_2 | apply IsS57.set_3 | apply IsS57.set_4 | apply IsS57.set_5 | apply IsS57.set_6) | exact HI288.out)); (case side2 => repeat (first | (with_reducible first | exact HB.out | apply below_alloc | apply pw_below_drewN | apply below_drew1 | refine below_set ?_ (IsS57.ge HI288.out)) | exact HB.out)); rintro e w29 ⟨rfl, hi, hb, hk⟩; have n0_ := Aside0.mk (hb); have n1_ := Aside0.mk (hi); clear HB; clear HI288; have HB := n0_; have HI288 := n1_; clear n0_ n1_; (try clear hb); (try clear hb2); (try clear hk); (try clear hi)) | (go_at_call 30; (with_reducible refine (breaker_Breaker_Send.calls g288 t313 t314 t315 t316 t317 t318 t319 (wrap64 ((wrap64 (a2)) + (wrap64 (a1)))) false t321 t322 t323 t324 t325 t326 t327 w _ ?side1 ?side2 A21.out).mono ?_); (case side1 => repeat (first | (with_reducible first | exact HI288.out | apply IsS57.alloc | apply IsS57.drewN | apply IsS57.drew | apply IsS57.set_0 | apply IsS57.set_1 | apply IsS57.set_2 | apply IsS57.set_3 | apply IsS57.set_4 | apply IsS57.set_5 | apply IsS57.set_6) | exact HI288.out)); (case side2 => repeat (first | (with_reducible first | exact HB.out | apply below_alloc | apply pw_below_drewN | apply below_drew1 | refine below_set ?_ (IsS57.ge HI288.out)) | exact HB.out)); rintro e w30 ⟨rfl, hi, hb, hk⟩; have n0_ := Aside0.mk (hb); have n1_ := Aside0.mk (hi); clear HB; clear HI288; have HB := n0_; have HI288 := n1_; clear n0_ n1_; (try clear hb); (try clear hb2); (try clear hk); (try clear hi)))
                  go_ret
                  exact ⟨by first | rfl | (simp [errW_none, errW_some] <;> rfl) | (simp [*, errW_none, errW_some] <;> rfl), by repeat (first | (with_reducible first | exact HB.out | apply below_alloc | apply pw_below_drewN | apply below_drew1 | refine below_set ?_ (IsS57.ge HI288.out)) | exact HB.out)⟩
              · rw [if_neg c20] at H
                have c20b0 : (a1 == 0) = false := beq_eq_false_iff_ne.mpr c20
                have c20b1 : (a1 != 0) = true := bne_iff_ne.mpr c20
                replace H := Option.bind_eq_some_iff.mp H
                obtain ⟨⟨t336, t337, t338, t339, t340, t341, t342, t343⟩, A310, H⟩ := H
                replace H : (if t336 = 1 then ((breaker_Breaker_Send.f t337 t338 t339 t340 t341 t342 t343 (wrap64 ((wrap64 (a2)) + (wrap64 (a1))))).bind fun bt344 => (if bt344.1 = true then ((breaker_Breaker_Send.f bt344.2.1 bt344.2.2.1 bt344.2.2.2.1 bt344.2.2.2.2.1 bt344.2.2.2.2.2.1 bt344.2.2.2.2.2.2.1 bt344.2.2.2.2.2.2.2 (wrap64 ((wrap64 (a2)) + (wrap64 (a1))))).bind fun bt352 => (some (!bt352.1))) else (some false))) else (some false)) = some r := H
                have A31 := Aside0.mk A310
                clear A310
                by_cases c32 : t336 = 1
                · rw [if_pos c32] at H
                  have c32b0 : (t336 == 1) = true := beq_iff_eq.mpr c32
                  have c32b1 : (t336 != 1) = false := bne_eq_false_iff_eq.mpr c32
                  clear c32
                  replace H := Option.bind_eq_some_iff.mp H
                  obtain ⟨⟨t344, t345, t346, t347, t348, t349, t350, t351⟩, A330, H⟩ := H
                  replace H : (if t344 = true then ((breaker_Breaker_Send.f t345 t346 t347 t348 t349 t350 t351 (wrap64 ((wrap64 (a2)) + (wrap64 (a1))))).bind fun bt352 => (some (!bt352.1))) else (some false)) = some r := H
                  have A33 := Aside0.mk A330
                  clear A330
                  by_cases c34 : t344 = true
                  · subst c34
                    have H1 : ((breaker_Breaker_Send.f t345 t346 t347 t348 t349 t350 t351 (wrap64 ((wrap64 (a2)) + (wrap64 (a1))))).bind fun bt352 => (some (!bt352.1))) = some r := by rw [if_pos rfl] at H; exact H
                    clear H
                    have H := H1
                    clear H1
                    replace H := Option.bind_eq_some_iff.mp H
                    obtain ⟨⟨t352, t353, t354, t355, t356, t357, t358, t359⟩, A350, H⟩ := H
                    replace H : (some (!t352)) = some r := H
                    have A35 := Aside0.mk A350
                    clear A350
                    obtain rfl := Option.some.inj H
                    go_wp2_with (first | ((with_reducible refine gate_callee (f := 29) rfl ?_); refine goesL_ (some 42) rfl rfl Try.func29 (by kernel_rfl) rfl #[.pointer (some ⟨g288, 0, none⟩)] rfl (by (try simp only [List.map_toArray, List.map_cons, List.map_nil]); first | done | rfl | (simp only [List.length_drop, List.length_take]; rfl)) ?_; (with_reducible refine (breaker_Breaker_Until.calls g288 x289000_1 x289001_1 x289002_1 x289003_1 x289004_1 x289005_1 x289006_1 t304 t305 t306 t307 t308 t309 t310 t311 w _ ?side1 ?side2 A16.out).mono ?_); (case side1 => repeat (first | (with_reducible first | exact HI288.out | apply IsS57.alloc | apply IsS57.drewN | apply IsS57.drew | apply IsS57.set_0 | apply IsS57.set_1 | apply IsS57.set_2 | apply IsS57.set_3 | apply IsS57.set_4 | apply IsS57.set_5 | apply IsS57.set_6) | exact HI288.out)); (case side2 => repeat (first | (with_reducible first | exact HB.out | apply below_alloc | apply pw_below_drewN | apply below_drew1 | refine below_set ?_ (IsS57.ge HI288.out)) | exact HB.out)); rintro e w36 ⟨rfl, hi, hb, hk⟩; refine ⟨_, rfl, ?_⟩; have n0_ := Aside0.mk (hb); have n1_ := Aside0.mk (hi); clear HB; clear HI288; have HB := n0_; have HI288 := n1_; clear n0_ n1_; (try clear hb); (try clear hb2); (try clear hk); (try clear hi)) | (go_at_call 27; (with_reducible refine (breaker_Breaker_State.calls g288 t305 t306 t307 t308 t309 t310 t311 (wrap64 ((wrap64 (a2)) + (wrap64 (a1)))) t312 t313 t314 t315 t316 t317 t318 t319 w _ ?side1 ?side2 A18.out).mono ?_); (case side1 => repeat (first | (with_reducible first | exact HI288.out | apply IsS57.alloc | apply IsS57.drewN | apply IsS57.drew | apply IsS57.set_0 | apply IsS57.set_1 | apply IsS57.set_2 | apply IsS57.set_3 | apply IsS57.set_4 | apply IsS57.set_5 | apply IsS57.set_6) | exact HI288.out)); (case side2 => repeat (first | (with_reducible first | exact HB.out | apply below_alloc | apply pw_below_drewN | apply below_drew1 | refine below_set ?_ (IsS57.ge HI288.out)) | exact HB.out)); rintro e w37 ⟨rfl, hi, hb, hk⟩; have n0_ := Aside0.mk (hb); have n1_ := Aside0.mk (hi); clear HB; clear HI288; have HB := n0_; have HI288 := n1_; clear n0_ n1_; (try clear hb); (try clear hb2); (try clear hk); (try clear hi)) | (go_at_call 27; (with_reducible refine (breaker_Breaker_State.calls g288 t313 t314 t315 t316 t317 t318 t319 (wrap64 ((wrap64 ((wrap64 (a2)) + (wrap64 (a1)))) - 1)) t336 t337 t338 t339 t340 t341 t342 t343 w _ ?side1 ?side2 A31.out).mono ?_); (case side1 => repeat (first | (with_reducible first | exact HI288.out | apply IsS57.alloc | apply IsS57.drewN | apply IsS57.drew | apply IsS57.set_0 | apply IsS57.set_1 | apply IsS57.set_2 | apply IsS57.set_3 | apply IsS57.set_4 | apply IsS57.set_5 | apply IsS57.set_6) | exact HI288.out)); (case side2 => repeat (first | (with_reducible first | exact HB.out | apply below_alloc | apply pw_below_drewN | apply below_drew1 | refine below_set ?_ (IsS57.ge HI288.out)) | exact HB.out)); rintro e w38 ⟨rfl, hi, hb, hk⟩; have n0_ := Aside0.mk (hb); have n1_ := Aside0.mk (hi); clear HB; clear HI288; have HB := n0_; have HI288 := n1_; clear n0_ n1_; (try clear hb); (try clear hb2); (try clear hk); (try clear hi)) | (go_at_call 30; (with_reducible refine (breaker_Breaker_Send.calls g288 t337 t338 t339 t340 t341 t342 t343 (wrap64 ((wrap64 (a2)) + (wrap64 (a1)))) true t345 t346 t347 t348 t349 t350 t351 w _ ?side1 ?side2 A33.out).mono ?_); (case side1 => repeat (first | (with_reducible first | exact HI288.out | apply IsS57.alloc | apply IsS57.drewN | apply IsS57.drew | apply IsS57.set_0 | apply IsS57.set_1 | apply IsS57.set_2 | apply IsS57.set_3 | apply IsS57.set_4 | apply IsS57.set_5 | apply IsS57.set_6) | exact HI288.out)); (case side2 => repeat (first | (with_reducible first | exact HB.out | apply below_alloc | apply pw_below_drewN | apply below_drew1 | refine below_set ?_ (IsS57.ge HI288.out)) | exact HB.out)); rintro e w39 ⟨rfl, hi, hb, hk⟩; have n0_ := Aside0.mk (hb); have n1_ := Aside0.mk (hi); clear HB; clear HI288; have HB := n0_; have HI288 := n1_; clear n0_ n1_; (try clear hb); (try clear hb2); (try clear hk); (try clear hi)) | (go_at_call 30; (with_reducible refine (breaker_Breaker_Send.calls g288 t345 t346 t347 t348 t349 t350 t351 (wrap64 ((wrap64 (a2)) + (wrap64 (a1)))) t352 t353 t354 t355 t356 t357 t358 t359 w _ ?side1 ?side2 A35.out).mono ?_); (case side1 => repeat (first | (with_reducible first | exact HI288.out | apply IsS57.alloc | apply IsS57.drewN | apply IsS57.drew | apply IsS57.set_0 | apply IsS57.set_1 | apply IsS57.set_2 | apply IsS57.set_3 | apply IsS57.set_4 | apply IsS57.set_5 | apply IsS57.set_6) | exact HI288.out)); (case side2 => repeat (first | (with_reducible first | exact HB.out | apply below_alloc | apply pw_below_drewN | apply below_drew1 | refine below_set ?_ (IsS57.ge HI288.out)) | exact HB.out)); rintro e w40 ⟨rfl, hi, hb, hk⟩; have n0_ := Aside0.mk (hb); have n1_ := Aside0.mk (hi); clear HB; clear HI288; have HB := n0_; have HI288 := n1_; clear n0_ n1_; (try clear hb); (try clear hb2); (try clear hk); (try clear hi)))
                    go_ret
                    exact ⟨by first | rfl | (simp [errW_none, errW_some] <;> rfl) | (simp [*, errW_none, errW_some] <;> rfl), by repeat (first | (with_reducible first | exact HB.out | apply below_alloc | apply pw_below_drewN | apply below_drew1 | refine below_set ?_ (IsS57.ge HI288.out)) | exact HB.out)⟩
                  · replace c34 := Bool.eq_false_iff.mpr c34
                    subst c34
                    have H1 : (some false) = some r := by rw [if_neg (show ¬ (false = true) by decide)] at H; exact H
                    clear H
                    have H := H1
                    clear H1
                    obtain rfl := Option.some.inj H
                    go_wp2_with (first | ((with_reducible refine gate_callee (f := 29) rfl ?_); refine goesL_ (some 42) rfl rfl Try.func29 (by kernel_rfl) rfl #[.pointer (some ⟨g288, 0, none⟩)] rfl (by (try simp only [List.map_toArray, List.map_cons, List.map_nil]); first | done | rfl | (simp only [List.length_drop, List.length_take]; rfl)) ?_; (with_reducible refine (breaker_Breaker_Until.calls g288 x289000_1 x289001_1 x289002_1 x289003_1 x289004_1 x289005_1 x289006_1 t304 t305 t306 t307 t308 t309 t310 t311 w _ ?side1 ?side2 A16.out).mono ?_); (case side1 => repeat (first | (with_reducible first | exact HI288.out | apply IsS57.alloc | apply IsS57.drewN | apply IsS57.drew | apply IsS57.set_0 | apply IsS57.set_1 | apply IsS57.set_2 | apply IsS57.set_3 | apply IsS57.set_4 | apply IsS57.set_5 | apply IsS57.set_6) | exact HI288.out)); (case side2 => repeat (first | (with_reducible first | exact HB.out | apply below_alloc | apply pw_below_drewN | apply below_drew1 | refine below_set ?_ (IsS57.ge HI288.out)) | exact HB.out)); rintro e w41 ⟨rfl, hi, hb, hk⟩; refine ⟨_, rfl, ?_⟩; have n0_ := Aside0.mk (hb); have n1_ := Aside0.mk (hi); clear HB; clear HI288; have HB := n0_; have HI288 := n1_; clear n0_ n1_; (try clear hb); (try clear hb2); (try clear hk); (try clear hi)) | (go_at_call 27; (with_reducible refine (breaker_Breaker_State.calls g288 t305 t306 t307 t308 t309 t310 t311 (wrap64 ((wrap64 (a2)) + (wrap64 (a1)))) t312 t313 t314 t315 t316 t317 t318 t319 w _ ?side1 ?side2 A18.out).mono ?_); (case side1 => repeat (first | (with_reducible first | exact HI288.out | apply IsS57.alloc | apply IsS57.drewN | apply IsS57.drew | apply IsS57.set_0 | apply IsS57.set_1 | apply IsS57.set_2 | apply IsS57.set_3 | apply IsS57.set_4 | apply IsS57.set_5 | apply IsS57.set_6) | exact HI288.out)); (case side2 => repeat (first | (with_reducible first | exact HB.out | apply below_alloc | apply pw_below_drewN | apply below_drew1 | refine below_set ?_ (IsS57.ge HI288.out)) | exact HB.out)); rintro e w42 ⟨rfl, hi, hb, hk⟩; have n0_ := Aside0.mk (hb); have n1_ := Aside0.mk (hi); clear HB; clear HI288; have HB := n0_; have HI288 := n1_; clear n0_ n1_; (try clear hb); (try clear hb2); (try clear hk); (try clear hi)) | (go_at_call 27; (with_reducible refine (breaker_Breaker_State.calls g288 t313 t314 t315 t316 t317 t318 t319 (wrap64 ((wrap64 ((wrap64 (a2)) + (wrap64 (a1)))) - 1)) t336 t337 t338 t339 t340 t341 t342 t343 w _ ?side1 ?side2 A31.out).mono ?_); (case side1 => repeat (first | (with_reducible first | exact HI288.out | apply IsS57.alloc | apply IsS57.drewN | apply IsS57.drew | apply IsS57.set_0 | apply IsS57.set_1 | apply IsS57.set_2 | apply IsS57.set_3 | apply IsS57.set_4 | apply IsS57.set_5 | apply IsS57.set_6) | exact HI288.out)); (case side2 => repeat (first | (with_reducible first | exact HB.out | apply below_alloc | apply pw_below_drewN | apply below_drew1 | refine below_set ?_ (IsS57.ge HI288.out)) | exact HB.out)); rintro e w43 ⟨rfl, hi, hb, hk⟩; have n0_ := Aside0.mk (hb); have n1_ := Aside0.mk (hi); clear HB; clear HI288; have HB := n0_; have HI288 := n1_; clear n0_ n1_; (try clear hb); (try clear hb2); (try clear hk); (try clear hi)) | (go_at_call 30; (with_reducible refine (breaker_Breaker_Send.calls g288 t337 t338 t339 t340 t341 t342 t343 (wrap64 ((wrap64 (a2)) + (wrap64 (a1)))) false t345 t346 t347 t348 t349 t350 t351 w _ ?side1 ?side2 A33.out).mono ?_); (case side1 => repeat (first | (with_reducible first | exact HI288.out | apply IsS57.alloc | apply IsS57.drewN | apply IsS57.drew | apply IsS57.set_0 | apply IsS57.set_1 | apply IsS57.set_2 | apply IsS57.set_3 | apply IsS57.set_4 | apply IsS57.set_5 | apply IsS57.set_6) | exact HI288.out)); (case side2 => repeat (first | (with_reducible first | exact HB.out | apply below_alloc | apply pw_below_drewN | apply below_drew1 | refine below_set ?_ (IsS57.ge HI288.out)) | exact HB.out)); rintro e w44 ⟨rfl, hi, hb, hk⟩; have n0_ := Aside0.mk (hb); have n1_ := Aside0.mk (hi); clear HB; clear HI288; have HB := n0_; have HI288 := n1_; clear n0_ n1_; (try clear hb); (try clear hb2); (try clear hk); (try clear hi)))
                    go_ret
                    exact ⟨by first | rfl | (simp [errW_none, errW_some] <;> rfl) | (simp [*, errW_none, errW_some] <;> rfl), by repeat (first | (with_reducible first | exact HB.out | apply below_alloc | apply pw_below_drewN | apply below_drew1 | refine below_set ?_ (IsS57.ge HI288.out)) | exact HB.out)⟩
                · rw [if_neg c32] at H
                  have c32b0 : (t336 == 1) = false := beq_eq_false_iff_ne.mpr c32
                  have c32b1 : (t336 != 1) = true := bne_iff_ne.mpr c32
                  obtain rfl := Option.some.inj H
                  go_wp2_with (first | ((with_reducible refine gate_callee (f := 29) rfl ?_); refine goesL_ (some 42) rfl rfl Try.func29 (by kernel_rfl) rfl #[.pointer (some ⟨g288, 0, none⟩)] rfl (by (try simp only [List.map_toArray, List.map_cons, List.map_nil]); first | done | rfl | (simp only [List.length_drop, List.length_take]; rfl)) ?_; (with_reducible refine (breaker_Breaker_Until.calls g288 x289000_1 x289001_1 x289002_1 x289003_1 x289004_1 x289005_1 x289006_1 t304 t305 t306 t307 t308 t309 t310 t311 w _ ?side1 ?side2 A16.out).mono ?_); (case side1 => repeat (first | (with_reducible first | exact HI288.out | apply IsS57.alloc | apply IsS57.drewN | apply IsS57.drew | apply IsS57.set_0 | apply IsS57.set_1 | apply IsS57.set_2 | apply IsS57.set_3 | apply IsS57.set_4 | apply IsS57.set_5 | apply IsS57.set_6) | exact HI288.out)); (case side2 => repeat (first | (with_reducible first | exact HB.out | apply below_alloc | apply pw_below_drewN | apply below_drew1 | refine below_set ?_ (IsS57.ge HI288.out)) | exact HB.out)); rintro e w45 ⟨rfl, hi, hb, hk⟩; refine ⟨_, rfl, ?_⟩; have n0_ := Aside0.mk (hb); have n1_ := Aside0.mk (hi); clear HB; clear HI288; have HB := n0_; have HI288 := n1_; clear n0_ n1_; (try clear hb); (try clear hb2); (try clear hk); (try clear hi)) | (go_at_call 27; (with_reducible refine (breaker_Breaker_State.calls g288 t305 t306 t307 t308 t309 t310 t311 (wrap64 ((wrap64 (a2)) + (wrap64 (a1)))) t312 t313 t314 t315 t316 t317 t318 t319 w _ ?side1 ?side2 A18.out).mono ?_); (case side1 => repeat (first | (with_reducible first | exact HI288.out | apply IsS57.alloc | apply IsS57.drewN | apply IsS57.drew | apply IsS57.set_0 | apply IsS57.set_1 | apply IsS57.set_2 | apply IsS57.set_3 | apply IsS57.set_4 | apply IsS57.set_5 | apply IsS57.set_6) | exact HI288.out)); (case side2 => repeat (first | (with_reducible first | exact HB.out | apply below_alloc | apply pw_below_drewN | apply below_drew1 | refine below_set ?_ (IsS57.ge HI288.out)) | exact HB.out)); rintro e w46 ⟨rfl, hi, hb, hk⟩; have n0_ := Aside0.mk (hb); have n1_ := Aside0.mk (hi); clear HB; clear HI288; have HB := n0_; have HI288 := n1_; clear n0_ n1_; (try clear hb); (try clear hb2); (try clear hk); (try clear hi)) | (go_at_call 27; (with_reducible refine (breaker_Breaker_State.calls g288 t313 t314 t315 t316 t317 t318 t319 (wrap64 ((wrap64 ((wrap64 (a2)) + (wrap64 (a1)))) - 1)) t336 t337 t338 t339 t340 t341 t342 t343 w _ ?side1 ?side2 A31.out).mono ?_); (case side1 => repeat (first | (with_reducible first | exact HI288.out | apply IsS57.alloc | apply IsS57.drewN | apply IsS57.drew | apply IsS57.set_0 | apply IsS57.set_1 | apply IsS57.set_2 | apply IsS57.set_3 | apply IsS57.set_4 | apply IsS57.set_5 | apply IsS57.set_6) | exact HI288.out)); (case side2 => repeat (first | (with_reducible first | exact HB.out | apply below_alloc | apply pw_below_drewN | apply below_drew1 | refine below_set ?_ (IsS57.ge HI288.out)) | exact HB.out)); rintro e w47 ⟨rfl, hi, hb, hk⟩; have n0_ := Aside0.mk (hb); have n1_ := Aside0.mk (hi); clear HB; clear HI288; have HB := n0_; have HI288 := n1_; clear n0_ n1_; (try clear hb); (try clear hb2); (try clear hk); (try clear hi)))
                  go_ret
                  exact ⟨by first | rfl | (simp [errW_none, errW_some] <;> rfl) | (simp [*, errW_none, errW_some] <;> rfl), by repeat (first | (with_reducible first | exact HB.out | apply below_alloc | apply pw_below_drewN | apply below_drew1 | refine below_set ?_ (IsS57.ge HI288.out)) | exact HB.out)⟩
            · rw [if_neg c19] at H
              have c19b0 : (t312 == 2) = false := beq_eq_false_iff_ne.mpr c19
              have c19b1 : (t312 != 2) = true := bne_iff_ne.mpr c19
              obtain rfl := Option.some.inj H
              go_wp2_with (first | ((with_reducible refine gate_callee (f := 29) rfl ?_); refine goesL_ (some 42) rfl rfl Try.func29 (by kernel_rfl) rfl #[.pointer (some ⟨g288, 0, none⟩)] rfl (by (try simp only [List.map_toArray, List.map_cons, List.map_nil]); first | done | rfl | (simp only [List.length_drop, List.length_take]; rfl)) ?_; (with_reducible refine (breaker_Breaker_Until.calls g288 x289000_1 x289001_1 x289002_1 x289003_1 x289004_1 x289005_1 x289006_1 t304 t305 t306 t307 t308 t309 t310 t311 w _ ?side1 ?side2 A16.out).mono ?_); (case side1 => repeat (first | (with_reducible first | exact HI288.out | apply IsS57.alloc | apply IsS57.drewN | apply IsS57.drew | apply IsS57.set_0 | apply IsS57.set_1 | apply IsS57.set_2 | apply IsS57.set_3 | apply IsS57.set_4 | apply IsS57.set_5 | apply IsS57.set_6) | exact HI288.out)); (case side2 => repeat (first | (with_reducible first | exact HB.out | apply below_alloc | apply pw_below_drewN | apply below_drew1 | refine below_set ?_ (IsS57.ge HI288.out)) | exact HB.out)); rintro e w48 ⟨rfl, hi, hb, hk⟩; refine ⟨_, rfl, ?_⟩; have n0_ := Aside0.mk (hb); have n1_ := Aside0.mk (hi); clear HB; clear HI288; have HB := n0_; have HI288 := n1_; clear n0_ n1_; (try clear hb); (try clear hb2); (try clear hk); (try clear hi)) | (go_at_call 27; (with_reducible refine (breaker_Breaker_State.calls g288 t305 t306 t307 t308 t309 t310 t311 (wrap64 ((wrap64 (a2)) + (wrap64 (a1)))) t312 t313 t314 t315 t316 t317 t318 t319 w _ ?side1 ?side2 A18.out).mono ?_); (case side1 => repeat (first | (with_reducible first | exact HI288.out | apply IsS57.alloc | apply IsS57.drewN | apply IsS57.drew | apply IsS57.set_0 | apply IsS57.set_1 | apply IsS57.set_2 | apply IsS57.set_3 | apply IsS57.set_4 | apply IsS57.set_5 | apply IsS57.set_6) | exact HI288.out)); (case side2 => repeat (first | (with_reducible first | exact HB.out | apply below_alloc | apply pw_below_drewN | apply below_drew1 | refine below_set ?_ (IsS57.ge HI288.out)) | exact HB.out)); rintro e w49 ⟨rfl, hi, hb, hk⟩; have n0_ := Aside0.mk (hb); have n1_ := Aside0.mk (hi); clear HB; clear HI288; have HB := n0_; have HI288 := n1_; clear n0_ n1_; (try clear hb); (try clear hb2); (try clear hk); (try clear hi)))
              go_ret
              exact ⟨by first | rfl | (simp [errW_none, errW_some] <;> rfl) | (simp [*, errW_none, errW_some] <;> rfl), by repeat (first | (with_reducible first | exact HB.out | apply below_alloc | apply pw_below_drewN | apply below_drew1 | refine below_set ?_ (IsS57.ge HI288.out)) | exact HB.out)⟩
          · rw [if_neg c17] at H
            have c17b0 : (t304 == (wrap64 ((wrap64 (a2)) + (wrap64 (a1))))) = false := beq_eq_false_iff_ne.mpr c17
            have c17b1 : (t304 != (wrap64 ((wrap64 (a2)) + (wrap64 (a1))))) = true := bne_iff_ne.mpr c17
            obtain rfl := Option.some.inj H
            go_wp2_with (first | ((with_reducible refine gate_callee (f := 29) rfl ?_); refine goesL_ (some 42) rfl rfl Try.func29 (by kernel_rfl) rfl #[.pointer (some ⟨g288, 0, none⟩)] rfl (by (try simp only [List.map_toArray, List.map_cons, List.map_nil]); first | done | rfl | (simp only [List.length_drop, List.length_take]; rfl)) ?_; (with_reducible refine (breaker_Breaker_Until.calls g288 x289000_1 x289001_1 x289002_1 x289003_1 x289004_1 x289005_1 x289006_1 t304 t305 t306 t307 t308 t309 t310 t311 w _ ?side1 ?side2 A16.out).mono ?_); (case side1 => repeat (first | (with_reducible first | exact HI288.out | apply IsS57.alloc | apply IsS57.drewN | apply IsS57.drew | apply IsS57.set_0 | apply IsS57.set_1 | apply IsS57.set_2 | apply IsS57.set_3 | apply IsS57.set_4 | apply IsS57.set_5 | apply IsS57.set_6) | exact HI288.out)); (case side2 => repeat (first | (with_reducible first | exact HB.out | apply below_alloc | apply pw_below_drewN | apply below_drew1 | refine below_set ?_ (IsS57.ge HI288.out)) | exact HB.out)); rintro e w50 ⟨rfl, hi, hb, hk⟩; refine ⟨_, rfl, ?_⟩; have n0_ := Aside0.mk (hb); have n1_ := Aside0.mk (hi); clear HB; clear HI288; have HB := n0_; have HI288 := n1_; clear n0_ n1_; (try clear hb); (try clear hb2); (try clear hk); (try clear hi)))
            go_ret
            exact ⟨by first | rfl | (simp [errW_none, errW_some] <;> rfl) | (simp [*, errW_none, errW_some] <;> rfl), by repeat (first | (with_reducible first | exact HB.out | apply below_alloc | apply pw_below_drewN | apply below_drew1 | refine below_set ?_ (IsS57.ge HI288.out)) | exact HB.out)⟩
  · replace c5 := Bool.eq_false_iff.mpr c5
    subst c5
    have H1 : (some false) = some r := by rw [if_neg (show ¬ (false = true) by decide)] at H; exact H
    clear H
    have H := H1
    clear H1
    obtain rfl := Option.some.inj H
    go_enter Try.func7, Try.ntmps7
    go_wp2_with (first | ((with_reducible refine gate_callee (f := 25) rfl ?_); refine goesL_ (some 11) rfl rfl Try.func25 (by kernel_rfl) rfl #[] rfl (by (try simp only [List.map_toArray, List.map_cons, List.map_nil]); first | done | rfl | (simp only [List.length_drop, List.length_take]; rfl)) ?_; (with_reducible refine (usufructlaw10_awake.calls  false _ A4.out).mono ?_); rintro e w51 ⟨rfl, hb⟩; refine ⟨_, rfl, ?_⟩; have n0_ := Aside0.mk (below_step (by repeat (first | (with_reducible first | exact HB.out | apply below_alloc | apply pw_below_drewN | apply below_drew1) | exact HB.out)) hb); clear HB; have HB := n0_; clear n0_; (try clear hb); (try clear hb2); (try clear hk); (try clear hi)))
    go_ret
    exact ⟨by first | rfl | (simp [errW_none, errW_some] <;> rfl) | (simp [*, errW_none, errW_some] <;> rfl), by repeat (first | (with_reducible first | exact HB.out | apply below_alloc | apply pw_below_drewN | apply below_drew1) | exact HB.out)⟩

/-- THE ONE PURE STATEMENT of usufructlaw10_BreakerTrips: yours. -/
def usufructlaw10_BreakerTrips.Pure : Prop := ∀ (a0 : Int) (a1 : Int) (a2 : Int), (Lit.int .u8 a0).wf = true → (Lit.int .u16 a1).wf = true → (Lit.int .u32 a2).wf = true → ∃ k, usufructlaw10_BreakerTrips.f k a0 a1 a2 = some true
theorem usufructlaw10_BreakerTrips.walk (P : usufructlaw10_BreakerTrips.Pure) (a0 : Int) (a1 : Int) (a2 : Int) (w : World) (w0 : (Lit.int .u8 a0).wf = true) (w1 : (Lit.int .u16 a1).wf = true) (w2 : (Lit.int .u32 a2).wf = true) :
    Calls Try.prog 7 #[.int .u8 a0, .int .u16 a1, .int .u32 a2] w fun e w' => e = .returned (.bool true) ∧ Below w.heap.size w w' := by
  obtain ⟨k, h⟩ := P a0 a1 a2 w0 w1 w2
  refine (usufructlaw10_BreakerTrips.calls k a0 a1 a2 true w h).mono ?_
  rintro e w' ⟨rfl, hd⟩
  exact ⟨rfl, hd⟩

end Go.Proofs.Ytiohhfjocmibdaa.Q
