-- written for this claim by a program of the session
import Derived.Test.YtiohhfjocmibdaaQx0
import Derived.Test.YtiohhfjocmibdaaQx1
import Derived.Test.YtiohhfjocmibdaaQx2
namespace Go.Proofs.Ytiohhfjocmibdaa.Q
open Go.RowKit Go.Proofs.YtiohhfjocmibdaaW.PrintWords Go.Proofs.YtiohhfjocmibdaaW.PrintLast Go.Proofs.YtiohhfjocmibdaaW.PrintMore
attribute [local go_sem] max2_int min2_int max_two min_two max_three min_three max_four min_four   -- for this text's walks alone
set_option linter.unusedVariables false
set_option linter.unusedSimpArgs false

/-! ### usufructlaw01_TickOrders: function 4 -/
mutual
def usufructlaw01_TickOrders.j0 : Nat → Int → Int → Int → Bool → Option (Bool)
  | 0, _, _, _, _ => none
  | k + 1, x0, x1, x2, x37 => if x37 = true then (some false) else (if x0 ≤ x1 then ((tick_Add.f x0 x2).bind fun t132 => ((tick_Add.f x1 x2).bind fun t133 => (if t132 > t133 then (usufructlaw01_TickOrders.j1 k x0 x1 true) else ((tick_Times.f x0 x2).bind fun t134 => ((tick_Times.f x1 x2).bind fun t135 => (if t134 > t135 then (usufructlaw01_TickOrders.j1 k x0 x1 true) else ((tick_Sub.f x0 x2).bind fun t136 => ((tick_Sub.f x1 x2).bind fun t137 => (usufructlaw01_TickOrders.j1 k x0 x1 (decide (t136 > t137))))))))))) else (usufructlaw01_TickOrders.j1 k x0 x1 false))
def usufructlaw01_TickOrders.j1 : Nat → Int → Int → Bool → Option (Bool)
  | 0, _, _, _ => none
  | k + 1, x0, x1, x67 => if x67 = true then (some false) else ((tick_Add.f x0 x1).bind fun t138 => ((tick_Good.f t138).bind fun t139 => (if t139 = true then ((tick_Sub.f x0 x1).bind fun t140 => ((tick_Good.f t140).bind fun t141 => (if t141 = true then ((tick_Times.f x0 x1).bind fun t142 => ((tick_Good.f t142).bind fun t143 => (if t143 = true then ((tick_Pow.f k x0 x1).bind fun t144 => ((tick_Good.f t144).bind fun t145 => (some t145))) else (some false)))) else (some false)))) else (some false))))
end
def usufructlaw01_TickOrders.f (k : Nat) (a0 : Int) (a1 : Int) (a2 : Int) : Option (Bool) := (usufructlaw01_awake.f k).bind fun t123 => (if t123 = true then ((tick_Add.f a0 a1).bind fun t124 => ((tick_Add.f a1 a0).bind fun t125 => (if t124 = t125 then ((tick_Times.f a0 a1).bind fun t126 => ((tick_Times.f a1 a0).bind fun t127 => (if t126 = t127 then ((tick_Add.f a0 a1).bind fun t128 => ((tick_Add.f t128 a2).bind fun t129 => ((tick_Add.f a1 a2).bind fun t130 => ((tick_Add.f a0 t130).bind fun t131 => (usufructlaw01_TickOrders.j0 k a0 a1 a2 (t129 != t131)))))) else (usufructlaw01_TickOrders.j0 k a0 a1 a2 true)))) else (usufructlaw01_TickOrders.j0 k a0 a1 a2 true)))) else (some false))
theorem usufructlaw01_TickOrders.mono_l : ∀ k, (∀ y0 y1 y2 y3, LeO (usufructlaw01_TickOrders.j0 k y0 y1 y2 y3) (usufructlaw01_TickOrders.j0 (k + 1) y0 y1 y2 y3)) ∧ (∀ y0 y1 y2, LeO (usufructlaw01_TickOrders.j1 k y0 y1 y2) (usufructlaw01_TickOrders.j1 (k + 1) y0 y1 y2))
  | 0 => ⟨fun _ _ _ _ r h => by simp [usufructlaw01_TickOrders.j0] at h, fun _ _ _ r h => by simp [usufructlaw01_TickOrders.j1] at h⟩
  | k + 1 => by
    obtain ⟨ih0, ih1⟩ := usufructlaw01_TickOrders.mono_l k
    refine ⟨?_, ?_⟩
    · intro y0 y1 y2 y3
      unfold usufructlaw01_TickOrders.j0
      repeat' first
      | (with_reducible exact ih0 _ _ _ _)
      | (with_reducible exact ih1 _ _ _)
      | (with_reducible exact tick_Pow.mono _ _ _)
      | (with_reducible exact usufructlaw01_awake.mono _)
      | (with_reducible exact LeO.refl _)
      | (with_reducible exact LeO.none _)
      | (with_reducible refine LeO.ite ?_ ?_)
      | (with_reducible refine LeO.bind ?_ (fun _ => ?_))
      | exact ih0 _ _ _ _
      | exact ih1 _ _ _
      | exact tick_Pow.mono _ _ _
      | exact usufructlaw01_awake.mono _
      | exact LeO.none _
      | refine LeO.ite ?_ ?_
      | refine LeO.bind ?_ (fun _ => ?_)
    · intro y0 y1 y2
      unfold usufructlaw01_TickOrders.j1
      repeat' first
      | (with_reducible exact ih0 _ _ _ _)
      | (with_reducible exact ih1 _ _ _)
      | (with_reducible exact tick_Pow.mono _ _ _)
      | (with_reducible exact usufructlaw01_awake.mono _)
      | (with_reducible exact LeO.refl _)
      | (with_reducible exact LeO.none _)
      | (with_reducible refine LeO.ite ?_ ?_)
      | (with_reducible refine LeO.bind ?_ (fun _ => ?_))
      | exact ih0 _ _ _ _
      | exact ih1 _ _ _
      | exact tick_Pow.mono _ _ _
      | exact usufructlaw01_awake.mono _
      | exact LeO.none _
      | refine LeO.ite ?_ ?_
      | refine LeO.bind ?_ (fun _ => ?_)
theorem usufructlaw01_TickOrders.mono : ∀ a0 a1 a2 k, LeO (usufructlaw01_TickOrders.f k a0 a1 a2) (usufructlaw01_TickOrders.f (k + 1) a0 a1 a2) := by
  intro a0 a1 a2 k
  obtain ⟨ih0, ih1⟩ := usufructlaw01_TickOrders.mono_l k
  unfold usufructlaw01_TickOrders.f
  repeat' first
      | (with_reducible exact ih0 _ _ _ _)
      | (with_reducible exact ih1 _ _ _)
      | (with_reducible exact tick_Pow.mono _ _ _)
      | (with_reducible exact usufructlaw01_awake.mono _)
      | (with_reducible exact LeO.refl _)
      | (with_reducible exact LeO.none _)
      | (with_reducible refine LeO.ite ?_ ?_)
      | (with_reducible refine LeO.bind ?_ (fun _ => ?_))
      | exact ih0 _ _ _ _
      | exact ih1 _ _ _
      | exact tick_Pow.mono _ _ _
      | exact usufructlaw01_awake.mono _
      | exact LeO.none _
      | refine LeO.ite ?_ ?_
      | refine LeO.bind ?_ (fun _ => ?_)
set_option maxHeartbeats 8000000 in
set_option maxRecDepth 100000 in
theorem usufructlaw01_TickOrders.calls (k : Nat) (a0 : Int) (a1 : Int) (a2 : Int) (r : Bool) (w : World) (h : usufructlaw01_TickOrders.f k a0 a1 a2 = some r) :
    Calls Try.prog 4 #[.int .i64 a0, .int .i64 a1, .int .i64 a2] w fun e w' => e = .returned (.bool r) ∧ Below w.heap.size w w' := by
  have HB := Aside0.mk (Below.refl w.heap.size w)
  have H : ((usufructlaw01_awake.f k).bind fun t123 => (if t123 = true then ((tick_Add.f a0 a1).bind fun t124 => ((tick_Add.f a1 a0).bind fun t125 => (if t124 = t125 then ((tick_Times.f a0 a1).bind fun t126 => ((tick_Times.f a1 a0).bind fun t127 => (if t126 = t127 then ((tick_Add.f a0 a1).bind fun t128 => ((tick_Add.f t128 a2).bind fun t129 => ((tick_Add.f a1 a2).bind fun t130 => ((tick_Add.f a0 t130).bind fun t131 => (usufructlaw01_TickOrders.j0 k a0 a1 a2 (t129 != t131)))))) else (usufructlaw01_TickOrders.j0 k a0 a1 a2 true)))) else (usufructlaw01_TickOrders.j0 k a0 a1 a2 true)))) else (some false))) = some r := h
  clear h
  replace H := Option.bind_eq_some_iff.mp H
  obtain ⟨t123, A40, H⟩ := H
  replace H : (if t123 = true then ((tick_Add.f a0 a1).bind fun t124 => ((tick_Add.f a1 a0).bind fun t125 => (if t124 = t125 then ((tick_Times.f a0 a1).bind fun t126 => ((tick_Times.f a1 a0).bind fun t127 => (if t126 = t127 then ((tick_Add.f a0 a1).bind fun t128 => ((tick_Add.f t128 a2).bind fun t129 => ((tick_Add.f a1 a2).bind fun t130 => ((tick_Add.f a0 t130).bind fun t131 => (usufructlaw01_TickOrders.j0 k a0 a1 a2 (t129 != t131)))))) else (usufructlaw01_TickOrders.j0 k a0 a1 a2 true)))) else (usufructlaw01_TickOrders.j0 k a0 a1 a2 true)))) else (some false)) = some r := H
  have A4 := Aside0.mk A40
  clear A40
  by_cases c5 : t123 = true
  · subst c5
    have H1 : ((tick_Add.f a0 a1).bind fun t124 => ((tick_Add.f a1 a0).bind fun t125 => (if t124 = t125 then ((tick_Times.f a0 a1).bind fun t126 => ((tick_Times.f a1 a0).bind fun t127 => (if t126 = t127 then ((tick_Add.f a0 a1).bind fun t128 => ((tick_Add.f t128 a2).bind fun t129 => ((tick_Add.f a1 a2).bind fun t130 => ((tick_Add.f a0 t130).bind fun t131 => (usufructlaw01_TickOrders.j0 k a0 a1 a2 (t129 != t131)))))) else (usufructlaw01_TickOrders.j0 k a0 a1 a2 true)))) else (usufructlaw01_TickOrders.j0 k a0 a1 a2 true)))) = some r := by rw [if_pos rfl] at H; exact H
    clear H
    have H := H1
    clear H1
    have HC6 := Aside0.mk H
    clear H
    go_enter Try.func4, Try.ntmps4
    go_upto_region 3 with (first | ((with_reducible refine gate_callee (f := 12) rfl ?_); refine goesL_ (some 7) rfl rfl Try.func12 (by kernel_rfl) rfl #[] rfl (by (try simp only [List.map_toArray, List.map_cons, List.map_nil]); first | done | rfl | (simp only [List.length_drop, List.length_take]; rfl)) ?_; (with_reducible refine (usufructlaw01_awake.calls k  true _ A4.out).mono ?_); rintro e w7 ⟨rfl, hb⟩; refine ⟨_, rfl, ?_⟩; have n0_ := Aside0.mk (below_step (by repeat (first | (with_reducible first | exact HB.out | apply below_alloc | apply pw_below_drewN | apply below_drew1) | exact HB.out)) hb); clear HB; have HB := n0_; clear n0_; (try clear hb); (try clear hb2); (try clear hk); (try clear hi)))
    (try simp only [Act.put, List.setIfInBounds_toArray, List.set_cons_zero, List.set_cons_succ])
    go_cut [37] (fun v37 wc => ∃ (kq : Nat) (x37_5 : Bool), v37 = .bool x37_5 ∧ Aside0 (usufructlaw01_TickOrders.j0 kq a0 a1 a2 x37_5 = some r) ∧ Aside0 (kq ≤ k) ∧ Aside0 (Below w.heap.size w wc))
    case first =>
      have H := HC6.out
      clear HC6
      replace H := Option.bind_eq_some_iff.mp H
      obtain ⟨t124, A80, H⟩ := H
      replace H : ((tick_Add.f a1 a0).bind fun t125 => (if t124 = t125 then ((tick_Times.f a0 a1).bind fun t126 => ((tick_Times.f a1 a0).bind fun t127 => (if t126 = t127 then ((tick_Add.f a0 a1).bind fun t128 => ((tick_Add.f t128 a2).bind fun t129 => ((tick_Add.f a1 a2).bind fun t130 => ((tick_Add.f a0 t130).bind fun t131 => (usufructlaw01_TickOrders.j0 k a0 a1 a2 (t129 != t131)))))) else (usufructlaw01_TickOrders.j0 k a0 a1 a2 true)))) else (usufructlaw01_TickOrders.j0 k a0 a1 a2 true))) = some r := H
      have A8 := Aside0.mk A80
      clear A80
      replace H := Option.bind_eq_some_iff.mp H
      obtain ⟨t125, A90, H⟩ := H
      replace H : (if t124 = t125 then ((tick_Times.f a0 a1).bind fun t126 => ((tick_Times.f a1 a0).bind fun t127 => (if t126 = t127 then ((tick_Add.f a0 a1).bind fun t128 => ((tick_Add.f t128 a2).bind fun t129 => ((tick_Add.f a1 a2).bind fun t130 => ((tick_Add.f a0 t130).bind fun t131 => (usufructlaw01_TickOrders.j0 k a0 a1 a2 (t129 != t131)))))) else (usufructlaw01_TickOrders.j0 k a0 a1 a2 true)))) else (usufructlaw01_TickOrders.j0 k a0 a1 a2 true)) = some r := H
      have A9 := Aside0.mk A90
      clear A90
      by_cases c10 : t124 = t125
      · rw [if_pos c10] at H
        have c10b0 : (t124 == t125) = true := beq_iff_eq.mpr c10
        have c10b1 : (t124 != t125) = false := bne_eq_false_iff_eq.mpr c10
        clear c10
        (first | rw [c10b0] | (simp only [i64_w, i32_w]; rw [c10b0]) | skip)
        replace H := Option.bind_eq_some_iff.mp H
        obtain ⟨t126, A110, H⟩ := H
        replace H : ((tick_Times.f a1 a0).bind fun t127 => (if t126 = t127 then ((tick_Add.f a0 a1).bind fun t128 => ((tick_Add.f t128 a2).bind fun t129 => ((tick_Add.f a1 a2).bind fun t130 => ((tick_Add.f a0 t130).bind fun t131 => (usufructlaw01_TickOrders.j0 k a0 a1 a2 (t129 != t131)))))) else (usufructlaw01_TickOrders.j0 k a0 a1 a2 true))) = some r := H
        have A11 := Aside0.mk A110
        clear A110
        replace H := Option.bind_eq_some_iff.mp H
        obtain ⟨t127, A120, H⟩ := H
        replace H : (if t126 = t127 then ((tick_Add.f a0 a1).bind fun t128 => ((tick_Add.f t128 a2).bind fun t129 => ((tick_Add.f a1 a2).bind fun t130 => ((tick_Add.f a0 t130).bind fun t131 => (usufructlaw01_TickOrders.j0 k a0 a1 a2 (t129 != t131)))))) else (usufructlaw01_TickOrders.j0 k a0 a1 a2 true)) = some r := H
        have A12 := Aside0.mk A120
        clear A120
        by_cases c13 : t126 = t127
        · rw [if_pos c13] at H
          have c13b0 : (t126 == t127) = true := beq_iff_eq.mpr c13
          have c13b1 : (t126 != t127) = false := bne_eq_false_iff_eq.mpr c13
          clear c13
          replace H := Option.bind_eq_some_iff.mp H
          obtain ⟨t128, A140, H⟩ := H
          replace H : ((tick_Add.f t128 a2).bind fun t129 => ((tick_Add.f a1 a2).bind fun t130 => ((tick_Add.f a0 t130).bind fun t131 => (usufructlaw01_TickOrders.j0 k a0 a1 a2 (t129 != t131))))) = some r := H
          have A14 := Aside0.mk A140
          have E14 := Aside0.mk (Option.some.inj (A14.out.symm.trans A8.out))
          clear A140
          replace H := Option.bind_eq_some_iff.mp H
          obtain ⟨t129, A150, H⟩ := H
          replace H : ((tick_Add.f a1 a2).bind fun t130 => ((tick_Add.f a0 t130).bind fun t131 => (usufructlaw01_TickOrders.j0 k a0 a1 a2 (t129 != t131)))) = some r := H
          have A15 := Aside0.mk A150
          clear A150
          replace H := Option.bind_eq_some_iff.mp H
          obtain ⟨t130, A160, H⟩ := H
          replace H : ((tick_Add.f a0 t130).bind fun t131 => (usufructlaw01_TickOrders.j0 k a0 a1 a2 (t129 != t131))) = some r := H
          have A16 := Aside0.mk A160
          clear A160
          replace H := Option.bind_eq_some_iff.mp H
          obtain ⟨t131, A170, H⟩ := H
          replace H : (usufructlaw01_TickOrders.j0 k a0 a1 a2 (t129 != t131)) = some r := H
          have A17 := Aside0.mk A170
          clear A170
          have H' := Aside0.mk H
          clear H
          go_wp2_with (first | ((with_reducible refine gate_callee (f := 16) rfl ?_); refine goesL_ (some 11) rfl rfl Try.func16 (by kernel_rfl) rfl #[.int .i64 a0, .int .i64 a1] rfl (by (try simp only [List.map_toArray, List.map_cons, List.map_nil]); first | done | rfl | (simp only [List.length_drop, List.length_take]; rfl)) ?_; (with_reducible refine (tick_Add.calls a0 a1 t124 _ A8.out).mono ?_); rintro e w18 ⟨rfl, hb⟩; refine ⟨_, rfl, ?_⟩; have n0_ := Aside0.mk (below_step (by repeat (first | (with_reducible first | exact HB.out | apply below_alloc | apply pw_below_drewN | apply below_drew1) | exact HB.out)) hb); clear HB; have HB := n0_; clear n0_; (try clear hb); (try clear hb2); (try clear hk); (try clear hi)) | ((with_reducible refine gate_callee (f := 16) rfl ?_); refine goesL_ (some 14) rfl rfl Try.func16 (by kernel_rfl) rfl #[.int .i64 a1, .int .i64 a0] rfl (by (try simp only [List.map_toArray, List.map_cons, List.map_nil]); first | done | rfl | (simp only [List.length_drop, List.length_take]; rfl)) ?_; (with_reducible refine (tick_Add.calls a1 a0 t125 _ A9.out).mono ?_); rintro e w19 ⟨rfl, hb⟩; refine ⟨_, rfl, ?_⟩; have n0_ := Aside0.mk (below_step (by repeat (first | (with_reducible first | exact HB.out | apply below_alloc | apply pw_below_drewN | apply below_drew1) | exact HB.out)) hb); clear HB; have HB := n0_; clear n0_; (try clear hb); (try clear hb2); (try clear hk); (try clear hi)) | (go_at_call 14; (with_reducible refine (tick_Times.calls a0 a1 t126 _ A11.out).mono ?_); rintro e w20 ⟨rfl, hb⟩; have n0_ := Aside0.mk (below_step (by repeat (first | (with_reducible first | exact HB.out | apply below_alloc | apply pw_below_drewN | apply below_drew1) | exact HB.out)) hb); clear HB; have HB := n0_; clear n0_; (try clear hb); (try clear hb2); (try clear hk); (try clear hi)) | (go_at_call 14; (with_reducible refine (tick_Times.calls a1 a0 t127 _ A12.out).mono ?_); rintro e w21 ⟨rfl, hb⟩; have n0_ := Aside0.mk (below_step (by repeat (first | (with_reducible first | exact HB.out | apply below_alloc | apply pw_below_drewN | apply below_drew1) | exact HB.out)) hb); clear HB; have HB := n0_; clear n0_; (try clear hb); (try clear hb2); (try clear hk); (try clear hi)) | (go_at_call 16; (with_reducible refine (tick_Add.calls a0 a1 t128 _ A14.out).mono ?_); rintro e w22 ⟨rfl, hb⟩; have n0_ := Aside0.mk (below_step (by repeat (first | (with_reducible first | exact HB.out | apply below_alloc | apply pw_below_drewN | apply below_drew1) | exact HB.out)) hb); clear HB; have HB := n0_; clear n0_; (try clear hb); (try clear hb2); (try clear hk); (try clear hi)) | (go_at_call 16; (with_reducible refine (tick_Add.calls t128 a2 t129 _ A15.out).mono ?_); rintro e w23 ⟨rfl, hb⟩; have n0_ := Aside0.mk (below_step (by repeat (first | (with_reducible first | exact HB.out | apply below_alloc | apply pw_below_drewN | apply below_drew1) | exact HB.out)) hb); clear HB; have HB := n0_; clear n0_; (try clear hb); (try clear hb2); (try clear hk); (try clear hi)) | (go_at_call 16; (with_reducible refine (tick_Add.calls a1 a2 t130 _ A16.out).mono ?_); rintro e w24 ⟨rfl, hb⟩; have n0_ := Aside0.mk (below_step (by repeat (first | (with_reducible first | exact HB.out | apply below_alloc | apply pw_below_drewN | apply below_drew1) | exact HB.out)) hb); clear HB; have HB := n0_; clear n0_; (try clear hb); (try clear hb2); (try clear hk); (try clear hi)) | (go_at_call 16; (with_reducible refine (tick_Add.calls a0 t130 t131 _ A17.out).mono ?_); rintro e w25 ⟨rfl, hb⟩; have n0_ := Aside0.mk (below_step (by repeat (first | (with_reducible first | exact HB.out | apply below_alloc | apply pw_below_drewN | apply below_drew1) | exact HB.out)) hb); clear HB; have HB := n0_; clear n0_; (try clear hb); (try clear hb2); (try clear hk); (try clear hi)))
          go_meet
          case rel => exact ⟨_, ((t129 != t131)), (by first | rfl | (simp; done) | (simp [*]; done)), H', ⟨by first | omega | exact Nat.le_refl _⟩, ⟨by repeat (first | (with_reducible first | exact HB.out | apply below_alloc | apply pw_below_drewN | apply below_drew1) | exact HB.out)⟩⟩
        · rw [if_neg c13] at H
          have c13b0 : (t126 == t127) = false := beq_eq_false_iff_ne.mpr c13
          have c13b1 : (t126 != t127) = true := bne_iff_ne.mpr c13
          have H' := Aside0.mk H
          clear H
          go_wp2_with (first | ((with_reducible refine gate_callee (f := 16) rfl ?_); refine goesL_ (some 11) rfl rfl Try.func16 (by kernel_rfl) rfl #[.int .i64 a0, .int .i64 a1] rfl (by (try simp only [List.map_toArray, List.map_cons, List.map_nil]); first | done | rfl | (simp only [List.length_drop, List.length_take]; rfl)) ?_; (with_reducible refine (tick_Add.calls a0 a1 t124 _ A8.out).mono ?_); rintro e w26 ⟨rfl, hb⟩; refine ⟨_, rfl, ?_⟩; have n0_ := Aside0.mk (below_step (by repeat (first | (with_reducible first | exact HB.out | apply below_alloc | apply pw_below_drewN | apply below_drew1) | exact HB.out)) hb); clear HB; have HB := n0_; clear n0_; (try clear hb); (try clear hb2); (try clear hk); (try clear hi)) | ((with_reducible refine gate_callee (f := 16) rfl ?_); refine goesL_ (some 14) rfl rfl Try.func16 (by kernel_rfl) rfl #[.int .i64 a1, .int .i64 a0] rfl (by (try simp only [List.map_toArray, List.map_cons, List.map_nil]); first | done | rfl | (simp only [List.length_drop, List.length_take]; rfl)) ?_; (with_reducible refine (tick_Add.calls a1 a0 t125 _ A9.out).mono ?_); rintro e w27 ⟨rfl, hb⟩; refine ⟨_, rfl, ?_⟩; have n0_ := Aside0.mk (below_step (by repeat (first | (with_reducible first | exact HB.out | apply below_alloc | apply pw_below_drewN | apply below_drew1) | exact HB.out)) hb); clear HB; have HB := n0_; clear n0_; (try clear hb); (try clear hb2); (try clear hk); (try clear hi)) | (go_at_call 14; (with_reducible refine (tick_Times.calls a0 a1 t126 _ A11.out).mono ?_); rintro e w28 ⟨rfl, hb⟩; have n0_ := Aside0.mk (below_step (by repeat (first | (with_reducible first | exact HB.out | apply below_alloc | apply pw_below_drewN | apply below_drew1) | exact HB.out)) hb); clear HB; have HB := n0_; clear n0_; (try clear hb); (try clear hb2); (try clear hk); (try clear hi)) | (go_at_call 14; (with_reducible refine (tick_Times.calls a1 a0 t127 _ A12.out).mono ?_); rintro e w29 ⟨rfl, hb⟩; have n0_ := Aside0.mk (below_step (by repeat (first | (with_reducible first | exact HB.out | apply below_alloc | apply pw_below_drewN | apply below_drew1) | exact HB.out)) hb); clear HB; have HB := n0_; clear n0_; (try clear hb); (try clear hb2); (try clear hk); (try clear hi)))
          go_meet
          case rel => exact ⟨_, (true), (by first | rfl | (simp; done) | (simp [*]; done)), H', ⟨by first | omega | exact Nat.le_refl _⟩, ⟨by repeat (first | (with_reducible first | exact HB.out | apply below_alloc | apply pw_below_drewN | apply below_drew1) | exact HB.out)⟩⟩
      · rw [if_neg c10] at H
        have c10b0 : (t124 == t125) = false := beq_eq_false_iff_ne.mpr c10
        have c10b1 : (t124 != t125) = true := bne_iff_ne.mpr c10
        (first | rw [c10b0] | (simp only [i64_w, i32_w]; rw [c10b0]) | skip)
        have H' := Aside0.mk H
        clear H
        go_wp2_with (first | ((with_reducible refine gate_callee (f := 16) rfl ?_); refine goesL_ (some 11) rfl rfl Try.func16 (by kernel_rfl) rfl #[.int .i64 a0, .int .i64 a1] rfl (by (try simp only [List.map_toArray, List.map_cons, List.map_nil]); first | done | rfl | (simp only [List.length_drop, List.length_take]; rfl)) ?_; (with_reducible refine (tick_Add.calls a0 a1 t124 _ A8.out).mono ?_); rintro e w30 ⟨rfl, hb⟩; refine ⟨_, rfl, ?_⟩; have n0_ := Aside0.mk (below_step (by repeat (first | (with_reducible first | exact HB.out | apply below_alloc | apply pw_below_drewN | apply below_drew1) | exact HB.out)) hb); clear HB; have HB := n0_; clear n0_; (try clear hb); (try clear hb2); (try clear hk); (try clear hi)) | ((with_reducible refine gate_callee (f := 16) rfl ?_); refine goesL_ (some 14) rfl rfl Try.func16 (by kernel_rfl) rfl #[.int .i64 a1, .int .i64 a0] rfl (by (try simp only [List.map_toArray, List.map_cons, List.map_nil]); first | done | rfl | (simp only [List.length_drop, List.length_take]; rfl)) ?_; (with_reducible refine (tick_Add.calls a1 a0 t125 _ A9.out).mono ?_); rintro e w31 ⟨rfl, hb⟩; refine ⟨_, rfl, ?_⟩; have n0_ := Aside0.mk (below_step (by repeat (first | (with_reducible first | exact HB.out | apply below_alloc | apply pw_below_drewN | apply below_drew1) | exact HB.out)) hb); clear HB; have HB := n0_; clear n0_; (try clear hb); (try clear hb2); (try clear hk); (try clear hi)))
        go_meet
        case rel => exact ⟨_, (true), (by first | rfl | (simp; done) | (simp [*]; done)), H', ⟨by first | omega | exact Nat.le_refl _⟩, ⟨by repeat (first | (with_reducible first | exact HB.out | apply below_alloc | apply pw_below_drewN | apply below_drew1) | exact HB.out)⟩⟩
    case rest =>
      clear HC6
      try clear c1
      try clear p2
      try clear c4
      try clear c5
      try clear c10
      try clear c10b0
      try clear c10b1
      try clear c12
      try clear c13
      try clear c13b0
      try clear c13b1
      try clear c16
      obtain ⟨kq, x37_5, rfl, HA, HJ5, HB⟩ := hcut
      cases kq with
      | zero => exact absurd HA.out (by simp [usufructlaw01_TickOrders.j0])
      | succ kj5 =>
        have H := HA.out
        clear HA
        simp only [usufructlaw01_TickOrders.j0] at H
        by_cases c32 : x37_5 = true
        · subst c32
          have H1 : (some false) = some r := by rw [if_pos rfl] at H; exact H
          clear H
          have H := H1
          clear H1
          obtain rfl := Option.some.inj H
          go_wp2
          go_ret
          exact ⟨by first | rfl | (simp [errW_none, errW_some] <;> rfl) | (simp [*, errW_none, errW_some] <;> rfl), by repeat (first | (with_reducible first | exact HB.out | apply below_alloc | apply pw_below_drewN | apply below_drew1) | exact HB.out)⟩
        · replace c32 := Bool.eq_false_iff.mpr c32
          subst c32
          have H1 : (if a0 ≤ a1 then ((tick_Add.f a0 a2).bind fun t132 => ((tick_Add.f a1 a2).bind fun t133 => (if t132 > t133 then (usufructlaw01_TickOrders.j1 kj5 a0 a1 true) else ((tick_Times.f a0 a2).bind fun t134 => ((tick_Times.f a1 a2).bind fun t135 => (if t134 > t135 then (usufructlaw01_TickOrders.j1 kj5 a0 a1 true) else ((tick_Sub.f a0 a2).bind fun t136 => ((tick_Sub.f a1 a2).bind fun t137 => (usufructlaw01_TickOrders.j1 kj5 a0 a1 (decide (t136 > t137))))))))))) else (usufructlaw01_TickOrders.j1 kj5 a0 a1 false)) = some r := by rw [if_neg (show ¬ (false = true) by decide)] at H; exact H
          clear H
          have H := H1
          clear H1
          have HC33 := Aside0.mk H
          clear H
          go_upto_region 5 with (fail)
          go_cut [67] (fun v67 wc => ∃ (kq : Nat) (x67_32 : Bool), v67 = .bool x67_32 ∧ Aside0 (usufructlaw01_TickOrders.j1 kq a0 a1 x67_32 = some r) ∧ Aside0 (kq ≤ kj5) ∧ Aside0 (Below w.heap.size w wc))
          case first =>
            have H := HC33.out
            clear HC33
            by_cases c34 : a0 ≤ a1
            · rw [if_pos c34] at H
              have c34b0 : decide (a0 ≤ a1) = true := decide_eq_true c34
              clear c34
              (first | rw [c34b0] | (simp only [i64_w, i32_w]; rw [c34b0]) | skip)
              replace H := Option.bind_eq_some_iff.mp H
              obtain ⟨t132, A350, H⟩ := H
              replace H : ((tick_Add.f a1 a2).bind fun t133 => (if t132 > t133 then (usufructlaw01_TickOrders.j1 kj5 a0 a1 true) else ((tick_Times.f a0 a2).bind fun t134 => ((tick_Times.f a1 a2).bind fun t135 => (if t134 > t135 then (usufructlaw01_TickOrders.j1 kj5 a0 a1 true) else ((tick_Sub.f a0 a2).bind fun t136 => ((tick_Sub.f a1 a2).bind fun t137 => (usufructlaw01_TickOrders.j1 kj5 a0 a1 (decide (t136 > t137)))))))))) = some r := H
              have A35 := Aside0.mk A350
              clear A350
              replace H := Option.bind_eq_some_iff.mp H
              obtain ⟨t133, A360, H⟩ := H
              replace H : (if t132 > t133 then (usufructlaw01_TickOrders.j1 kj5 a0 a1 true) else ((tick_Times.f a0 a2).bind fun t134 => ((tick_Times.f a1 a2).bind fun t135 => (if t134 > t135 then (usufructlaw01_TickOrders.j1 kj5 a0 a1 true) else ((tick_Sub.f a0 a2).bind fun t136 => ((tick_Sub.f a1 a2).bind fun t137 => (usufructlaw01_TickOrders.j1 kj5 a0 a1 (decide (t136 > t137))))))))) = some r := H
              have A36 := Aside0.mk A360
              clear A360
              by_cases c37 : t132 > t133
              · rw [if_pos c37] at H
                have c37b0 : decide (t133 < t132) = true := decide_eq_true c37
                clear c37
                have H' := Aside0.mk H
                clear H
                go_wp2_with (first | (go_at_call 16; (with_reducible refine (tick_Add.calls a0 a2 t132 _ A35.out).mono ?_); rintro e w38 ⟨rfl, hb⟩; have n0_ := Aside0.mk (below_step (by repeat (first | (with_reducible first | exact HB.out | apply below_alloc | apply pw_below_drewN | apply below_drew1) | exact HB.out)) hb); clear HB; have HB := n0_; clear n0_; (try clear hb); (try clear hb2); (try clear hk); (try clear hi)) | (go_at_call 16; (with_reducible refine (tick_Add.calls a1 a2 t133 _ A36.out).mono ?_); rintro e w39 ⟨rfl, hb⟩; have n0_ := Aside0.mk (below_step (by repeat (first | (with_reducible first | exact HB.out | apply below_alloc | apply pw_below_drewN | apply below_drew1) | exact HB.out)) hb); clear HB; have HB := n0_; clear n0_; (try clear hb); (try clear hb2); (try clear hk); (try clear hi)))
                go_meet
                case rel => exact ⟨_, (true), (by first | rfl | (simp; done) | (simp [*]; done)), H', ⟨by have := HJ5.out; first | omega | exact Nat.le_refl _⟩, ⟨by repeat (first | (with_reducible first | exact HB.out | apply below_alloc | apply pw_below_drewN | apply below_drew1) | exact HB.out)⟩⟩
              · rw [if_neg c37] at H
                have c37b0 : decide (t133 < t132) = false := decide_eq_false c37
                clear c37
                replace H := Option.bind_eq_some_iff.mp H
                obtain ⟨t134, A400, H⟩ := H
                replace H : ((tick_Times.f a1 a2).bind fun t135 => (if t134 > t135 then (usufructlaw01_TickOrders.j1 kj5 a0 a1 true) else ((tick_Sub.f a0 a2).bind fun t136 => ((tick_Sub.f a1 a2).bind fun t137 => (usufructlaw01_TickOrders.j1 kj5 a0 a1 (decide (t136 > t137))))))) = some r := H
                have A40 := Aside0.mk A400
                clear A400
                replace H := Option.bind_eq_some_iff.mp H
                obtain ⟨t135, A410, H⟩ := H
                replace H : (if t134 > t135 then (usufructlaw01_TickOrders.j1 kj5 a0 a1 true) else ((tick_Sub.f a0 a2).bind fun t136 => ((tick_Sub.f a1 a2).bind fun t137 => (usufructlaw01_TickOrders.j1 kj5 a0 a1 (decide (t136 > t137)))))) = some r := H
                have A41 := Aside0.mk A410
                clear A410
                by_cases c42 : t134 > t135
                · rw [if_pos c42] at H
                  have c42b0 : decide (t135 < t134) = true := decide_eq_true c42
                  clear c42
                  have H' := Aside0.mk H
                  clear H
                  go_wp2_with (first | (go_at_call 16; (with_reducible refine (tick_Add.calls a0 a2 t132 _ A35.out).mono ?_); rintro e w43 ⟨rfl, hb⟩; have n0_ := Aside0.mk (below_step (by repeat (first | (with_reducible first | exact HB.out | apply below_alloc | apply pw_below_drewN | apply below_drew1) | exact HB.out)) hb); clear HB; have HB := n0_; clear n0_; (try clear hb); (try clear hb2); (try clear hk); (try clear hi)) | (go_at_call 16; (with_reducible refine (tick_Add.calls a1 a2 t133 _ A36.out).mono ?_); rintro e w44 ⟨rfl, hb⟩; have n0_ := Aside0.mk (below_step (by repeat (first | (with_reducible first | exact HB.out | apply below_alloc | apply pw_below_drewN | apply below_drew1) | exact HB.out)) hb); clear HB; have HB := n0_; clear n0_; (try clear hb); (try clear hb2); (try clear hk); (try clear hi)) | (go_at_call 14; (with_reducible refine (tick_Times.calls a0 a2 t134 _ A40.out).mono ?_); rintro e w45 ⟨rfl, hb⟩; have n0_ := Aside0.mk (below_step (by repeat (first | (with_reducible first | exact HB.out | apply below_alloc | apply pw_below_drewN | apply below_drew1) | exact HB.out)) hb); clear HB; have HB := n0_; clear n0_; (try clear hb); (try clear hb2); (try clear hk); (try clear hi)) | (go_at_call 14; (with_reducible refine (tick_Times.calls a1 a2 t135 _ A41.out).mono ?_); rintro e w46 ⟨rfl, hb⟩; have n0_ := Aside0.mk (below_step (by repeat (first | (with_reducible first | exact HB.out | apply below_alloc | apply pw_below_drewN | apply below_drew1) | exact HB.out)) hb); clear HB; have HB := n0_; clear n0_; (try clear hb); (try clear hb2); (try clear hk); (try clear hi)))
                  go_meet
                  case rel => exact ⟨_, (true), (by first | rfl | (simp; done) | (simp [*]; done)), H', ⟨by have := HJ5.out; first | omega | exact Nat.le_refl _⟩, ⟨by repeat (first | (with_reducible first | exact HB.out | apply below_alloc | apply pw_below_drewN | apply below_drew1) | exact HB.out)⟩⟩
                · rw [if_neg c42] at H
                  have c42b0 : decide (t135 < t134) = false := decide_eq_false c42
                  clear c42
                  replace H := Option.bind_eq_some_iff.mp H
                  obtain ⟨t136, A470, H⟩ := H
                  replace H : ((tick_Sub.f a1 a2).bind fun t137 => (usufructlaw01_TickOrders.j1 kj5 a0 a1 (decide (t136 > t137)))) = some r := H
                  have A47 := Aside0.mk A470
                  clear A470
                  replace H := Option.bind_eq_some_iff.mp H
                  obtain ⟨t137, A480, H⟩ := H
                  replace H : (usufructlaw01_TickOrders.j1 kj5 a0 a1 (decide (t136 > t137))) = some r := H
                  have A48 := Aside0.mk A480
                  clear A480
                  have H' := Aside0.mk H
                  clear H
                  go_wp2_with (first | (go_at_call 16; (with_reducible refine (tick_Add.calls a0 a2 t132 _ A35.out).mono ?_); rintro e w49 ⟨rfl, hb⟩; have n0_ := Aside0.mk (below_step (by repeat (first | (with_reducible first | exact HB.out | apply below_alloc | apply pw_below_drewN | apply below_drew1) | exact HB.out)) hb); clear HB; have HB := n0_; clear n0_; (try clear hb); (try clear hb2); (try clear hk); (try clear hi)) | (go_at_call 16; (with_reducible refine (tick_Add.calls a1 a2 t133 _ A36.out).mono ?_); rintro e w50 ⟨rfl, hb⟩; have n0_ := Aside0.mk (below_step (by repeat (first | (with_reducible first | exact HB.out | apply below_alloc | apply pw_below_drewN | apply below_drew1) | exact HB.out)) hb); clear HB; have HB := n0_; clear n0_; (try clear hb); (try clear hb2); (try clear hk); (try clear hi)) | (go_at_call 14; (with_reducible refine (tick_Times.calls a0 a2 t134 _ A40.out).mono ?_); rintro e w51 ⟨rfl, hb⟩; have n0_ := Aside0.mk (below_step (by repeat (first | (with_reducible first | exact HB.out | apply below_alloc | apply pw_below_drewN | apply below_drew1) | exact HB.out)) hb); clear HB; have HB := n0_; clear n0_; (try clear hb); (try clear hb2); (try clear hk); (try clear hi)) | (go_at_call 14; (with_reducible refine (tick_Times.calls a1 a2 t135 _ A41.out).mono ?_); rintro e w52 ⟨rfl, hb⟩; have n0_ := Aside0.mk (below_step (by repeat (first | (with_reducible first | exact HB.out | apply below_alloc | apply pw_below_drewN | apply below_drew1) | exact HB.out)) hb); clear HB; have HB := n0_; clear n0_; (try clear hb); (try clear hb2); (try clear hk); (try clear hi)) | (go_at_call 17; (with_reducible refine (tick_Sub.calls a0 a2 t136 _ A47.out).mono ?_); rintro e w53 ⟨rfl, hb⟩; have n0_ := Aside0.mk (below_step (by repeat (first | (with_reducible first | exact HB.out | apply below_alloc | apply pw_below_drewN | apply below_drew1) | exact HB.out)) hb); clear HB; have HB := n0_; clear n0_; (try clear hb); (try clear hb2); (try clear hk); (try clear hi)) | (go_at_call 17; (with_reducible refine (tick_Sub.calls a1 a2 t137 _ A48.out).mono ?_); rintro e w54 ⟨rfl, hb⟩; have n0_ := Aside0.mk (below_step (by repeat (first | (with_reducible first | exact HB.out | apply below_alloc | apply pw_below_drewN | apply below_drew1) | exact HB.out)) hb); clear HB; have HB := n0_; clear n0_; (try clear hb); (try clear hb2); (try clear hk); (try clear hi)))
                  go_meet
                  case rel => exact ⟨_, (decide (t136 > t137)), (by first | rfl | (simp; done) | (simp [*]; done)), H', ⟨by have := HJ5.out; first | omega | exact Nat.le_refl _⟩, ⟨by repeat (first | (with_reducible first | exact HB.out | apply below_alloc | apply pw_below_drewN | apply below_drew1) | exact HB.out)⟩⟩
            · rw [if_neg c34] at H
              have c34b0 : decide (a0 ≤ a1) = false := decide_eq_false c34
              clear c34
              (first | rw [c34b0] | (simp only [i64_w, i32_w]; rw [c34b0]) | skip)
              have H' := Aside0.mk H
              clear H
              go_wp2
              go_meet
              case rel => exact ⟨_, (false), (by first | rfl | (simp; done) | (simp [*]; done)), H', ⟨by have := HJ5.out; first | omega | exact Nat.le_refl _⟩, ⟨by repeat (first | (with_reducible first | exact HB.out | apply below_alloc | apply pw_below_drewN | apply below_drew1) | exact HB.out)⟩⟩
          case rest =>
            clear HC33
            try clear c1
            try clear p2
            try clear c3
            try clear c4
            try clear c5
            try clear c10
            try clear c10b0
            try clear c10b1
            try clear c12
            try clear c13
            try clear c13b0
            try clear c13b1
            try clear c16
            try clear c32
            try clear c34
            try clear c34b0
            try clear c37
            try clear c37b0
            try clear c42
            try clear c42b0
            try clear p2
            obtain ⟨kq, x67_32, rfl, HA, HJ32, HB⟩ := hcut
            cases kq with
            | zero => exact absurd HA.out (by simp [usufructlaw01_TickOrders.j1])
            | succ kj32 =>
              have H := HA.out
              clear HA
              simp only [usufructlaw01_TickOrders.j1] at H
              by_cases c55 : x67_32 = true
              · subst c55
                have H1 : (some false) = some r := by rw [if_pos rfl] at H; exact H
                clear H
                have H := H1
                clear H1
                obtain rfl := Option.some.inj H
                go_wp2
                go_ret
                exact ⟨by first | rfl | (simp [errW_none, errW_some] <;> rfl) | (simp [*, errW_none, errW_some] <;> rfl), by repeat (first | (with_reducible first | exact HB.out | apply below_alloc | apply pw_below_drewN | apply below_drew1) | exact HB.out)⟩
              · replace c55 := Bool.eq_false_iff.mpr c55
                subst c55
                have H1 : ((tick_Add.f a0 a1).bind fun t138 => ((tick_Good.f t138).bind fun t139 => (if t139 = true then ((tick_Sub.f a0 a1).bind fun t140 => ((tick_Good.f t140).bind fun t141 => (if t141 = true then ((tick_Times.f a0 a1).bind fun t142 => ((tick_Good.f t142).bind fun t143 => (if t143 = true then ((tick_Pow.f kj32 a0 a1).bind fun t144 => ((tick_Good.f t144).bind fun t145 => (some t145))) else (some false)))) else (some false)))) else (some false)))) = some r := by rw [if_neg (show ¬ (false = true) by decide)] at H; exact H
                clear H
                have H := H1
                clear H1
                replace H := Option.bind_eq_some_iff.mp H
                obtain ⟨t138, A560, H⟩ := H
                replace H : ((tick_Good.f t138).bind fun t139 => (if t139 = true then ((tick_Sub.f a0 a1).bind fun t140 => ((tick_Good.f t140).bind fun t141 => (if t141 = true then ((tick_Times.f a0 a1).bind fun t142 => ((tick_Good.f t142).bind fun t143 => (if t143 = true then ((tick_Pow.f kj32 a0 a1).bind fun t144 => ((tick_Good.f t144).bind fun t145 => (some t145))) else (some false)))) else (some false)))) else (some false))) = some r := H
                have A56 := Aside0.mk A560
                clear A560
                replace H := Option.bind_eq_some_iff.mp H
                obtain ⟨t139, A570, H⟩ := H
                replace H : (if t139 = true then ((tick_Sub.f a0 a1).bind fun t140 => ((tick_Good.f t140).bind fun t141 => (if t141 = true then ((tick_Times.f a0 a1).bind fun t142 => ((tick_Good.f t142).bind fun t143 => (if t143 = true then ((tick_Pow.f kj32 a0 a1).bind fun t144 => ((tick_Good.f t144).bind fun t145 => (some t145))) else (some false)))) else (some false)))) else (some false)) = some r := H
                have A57 := Aside0.mk A570
                clear A570
                by_cases c58 : t139 = true
                · subst c58
                  have H1 : ((tick_Sub.f a0 a1).bind fun t140 => ((tick_Good.f t140).bind fun t141 => (if t141 = true then ((tick_Times.f a0 a1).bind fun t142 => ((tick_Good.f t142).bind fun t143 => (if t143 = true then ((tick_Pow.f kj32 a0 a1).bind fun t144 => ((tick_Good.f t144).bind fun t145 => (some t145))) else (some false)))) else (some false)))) = some r := by rw [if_pos rfl] at H; exact H
                  clear H
                  have H := H1
                  clear H1
                  replace H := Option.bind_eq_some_iff.mp H
                  obtain ⟨t140, A590, H⟩ := H
                  replace H : ((tick_Good.f t140).bind fun t141 => (if t141 = true then ((tick_Times.f a0 a1).bind fun t142 => ((tick_Good.f t142).bind fun t143 => (if t143 = true then ((tick_Pow.f kj32 a0 a1).bind fun t144 => ((tick_Good.f t144).bind fun t145 => (some t145))) else (some false)))) else (some false))) = some r := H
                  have A59 := Aside0.mk A590
                  clear A590
                  replace H := Option.bind_eq_some_iff.mp H
                  obtain ⟨t141, A600, H⟩ := H
                  replace H : (if t141 = true then ((tick_Times.f a0 a1).bind fun t142 => ((tick_Good.f t142).bind fun t143 => (if t143 = true then ((tick_Pow.f kj32 a0 a1).bind fun t144 => ((tick_Good.f t144).bind fun t145 => (some t145))) else (some false)))) else (some false)) = some r := H
                  have A60 := Aside0.mk A600
                  clear A600
                  by_cases c61 : t141 = true
                  · subst c61
                    have H1 : ((tick_Times.f a0 a1).bind fun t142 => ((tick_Good.f t142).bind fun t143 => (if t143 = true then ((tick_Pow.f kj32 a0 a1).bind fun t144 => ((tick_Good.f t144).bind fun t145 => (some t145))) else (some false)))) = some r := by rw [if_pos rfl] at H; exact H
                    clear H
                    have H := H1
                    clear H1
                    replace H := Option.bind_eq_some_iff.mp H
                    obtain ⟨t142, A620, H⟩ := H
                    replace H : ((tick_Good.f t142).bind fun t143 => (if t143 = true then ((tick_Pow.f kj32 a0 a1).bind fun t144 => ((tick_Good.f t144).bind fun t145 => (some t145))) else (some false))) = some r := H
                    have A62 := Aside0.mk A620
                    clear A620
                    replace H := Option.bind_eq_some_iff.mp H
                    obtain ⟨t143, A630, H⟩ := H
                    replace H : (if t143 = true then ((tick_Pow.f kj32 a0 a1).bind fun t144 => ((tick_Good.f t144).bind fun t145 => (some t145))) else (some false)) = some r := H
                    have A63 := Aside0.mk A630
                    clear A630
                    by_cases c64 : t143 = true
                    · subst c64
                      have H1 : ((tick_Pow.f kj32 a0 a1).bind fun t144 => ((tick_Good.f t144).bind fun t145 => (some t145))) = some r := by rw [if_pos rfl] at H; exact H
                      clear H
                      have H := H1
                      clear H1
                      replace H := Option.bind_eq_some_iff.mp H
                      obtain ⟨t144, A650, H⟩ := H
                      replace H : ((tick_Good.f t144).bind fun t145 => (some t145)) = some r := H
                      have A65 := Aside0.mk A650
                      clear A650
                      replace H := Option.bind_eq_some_iff.mp H
                      obtain ⟨t145, A660, H⟩ := H
                      replace H : (some t145) = some r := H
                      have A66 := Aside0.mk A660
                      clear A660
                      obtain rfl := Option.some.inj H
                      go_wp2_with (first | ((with_reducible refine gate_callee (f := 16) rfl ?_); refine goesL_ (some 70) rfl rfl Try.func16 (by kernel_rfl) rfl #[.int .i64 a0, .int .i64 a1] rfl (by (try simp only [List.map_toArray, List.map_cons, List.map_nil]); first | done | rfl | (simp only [List.length_drop, List.length_take]; rfl)) ?_; (with_reducible refine (tick_Add.calls a0 a1 t138 _ A56.out).mono ?_); rintro e w67 ⟨rfl, hb⟩; refine ⟨_, rfl, ?_⟩; have n0_ := Aside0.mk (below_step (by repeat (first | (with_reducible first | exact HB.out | apply below_alloc | apply pw_below_drewN | apply below_drew1) | exact HB.out)) hb); clear HB; have HB := n0_; clear n0_; (try clear hb); (try clear hb2); (try clear hk); (try clear hi)) | ((with_reducible refine gate_callee (f := 18) rfl ?_); refine goesL_ (some 71) rfl rfl Try.func18 (by kernel_rfl) rfl #[.int .i64 t138] rfl (by (try simp only [List.map_toArray, List.map_cons, List.map_nil]); first | done | rfl | (simp only [List.length_drop, List.length_take]; rfl)) ?_; (with_reducible refine (tick_Good.calls t138 true _ A57.out).mono ?_); rintro e w' ⟨rfl, ⟨nd, rfl⟩⟩; refine ⟨_, rfl, ?_⟩) | (go_at_call 17; (with_reducible refine (tick_Sub.calls a0 a1 t140 _ A59.out).mono ?_); rintro e w68 ⟨rfl, hb⟩; have n0_ := Aside0.mk (below_step (by repeat (first | (with_reducible first | exact HB.out | apply below_alloc | apply pw_below_drewN | apply below_drew1) | exact HB.out)) hb); clear HB; have HB := n0_; clear n0_; (try clear hb); (try clear hb2); (try clear hk); (try clear hi)) | (go_at_call 18; (with_reducible refine (tick_Good.calls t140 true _ A60.out).mono ?_); rintro e w' ⟨rfl, ⟨nd, rfl⟩⟩) | (go_at_call 14; (with_reducible refine (tick_Times.calls a0 a1 t142 _ A62.out).mono ?_); rintro e w69 ⟨rfl, hb⟩; have n0_ := Aside0.mk (below_step (by repeat (first | (with_reducible first | exact HB.out | apply below_alloc | apply pw_below_drewN | apply below_drew1) | exact HB.out)) hb); clear HB; have HB := n0_; clear n0_; (try clear hb); (try clear hb2); (try clear hk); (try clear hi)) | (go_at_call 18; (with_reducible refine (tick_Good.calls t142 true _ A63.out).mono ?_); rintro e w' ⟨rfl, ⟨nd, rfl⟩⟩) | (go_at_call 13; (with_reducible refine (tick_Pow.calls kj32 a0 a1 t144 _ A65.out).mono ?_); rintro e w70 ⟨rfl, hb⟩; have n0_ := Aside0.mk (below_step (by repeat (first | (with_reducible first | exact HB.out | apply below_alloc | apply pw_below_drewN | apply below_drew1) | exact HB.out)) hb); clear HB; have HB := n0_; clear n0_; (try clear hb); (try clear hb2); (try clear hk); (try clear hi)) | (go_at_call 18; (with_reducible refine (tick_Good.calls t144 t145 _ A66.out).mono ?_); rintro e w' ⟨rfl, ⟨nd, rfl⟩⟩))
                      go_ret
                      exact ⟨by first | rfl | (simp [errW_none, errW_some] <;> rfl) | (simp [*, errW_none, errW_some] <;> rfl), by repeat (first | (with_reducible first | exact HB.out | apply below_alloc | apply pw_below_drewN | apply below_drew1) | exact HB.out)⟩
                    · replace c64 := Bool.eq_false_iff.mpr c64
                      subst c64
                      have H1 : (some false) = some r := by rw [if_neg (show ¬ (false = true) by decide)] at H; exact H
                      clear H
                      have H := H1
                      clear H1
                      obtain rfl := Option.some.inj H
                      go_wp2_with (first | ((with_reducible refine gate_callee (f := 16) rfl ?_); refine goesL_ (some 70) rfl rfl Try.func16 (by kernel_rfl) rfl #[.int .i64 a0, .int .i64 a1] rfl (by (try simp only [List.map_toArray, List.map_cons, List.map_nil]); first | done | rfl | (simp only [List.length_drop, List.length_take]; rfl)) ?_; (with_reducible refine (tick_Add.calls a0 a1 t138 _ A56.out).mono ?_); rintro e w71 ⟨rfl, hb⟩; refine ⟨_, rfl, ?_⟩; have n0_ := Aside0.mk (below_step (by repeat (first | (with_reducible first | exact HB.out | apply below_alloc | apply pw_below_drewN | apply below_drew1) | exact HB.out)) hb); clear HB; have HB := n0_; clear n0_; (try clear hb); (try clear hb2); (try clear hk); (try clear hi)) | ((with_reducible refine gate_callee (f := 18) rfl ?_); refine goesL_ (some 71) rfl rfl Try.func18 (by kernel_rfl) rfl #[.int .i64 t138] rfl (by (try simp only [List.map_toArray, List.map_cons, List.map_nil]); first | done | rfl | (simp only [List.length_drop, List.length_take]; rfl)) ?_; (with_reducible refine (tick_Good.calls t138 true _ A57.out).mono ?_); rintro e w' ⟨rfl, ⟨nd, rfl⟩⟩; refine ⟨_, rfl, ?_⟩) | (go_at_call 17; (with_reducible refine (tick_Sub.calls a0 a1 t140 _ A59.out).mono ?_); rintro e w72 ⟨rfl, hb⟩; have n0_ := Aside0.mk (below_step (by repeat (first | (with_reducible first | exact HB.out | apply below_alloc | apply pw_below_drewN | apply below_drew1) | exact HB.out)) hb); clear HB; have HB := n0_; clear n0_; (try clear hb); (try clear hb2); (try clear hk); (try clear hi)) | (go_at_call 18; (with_reducible refine (tick_Good.calls t140 true _ A60.out).mono ?_); rintro e w' ⟨rfl, ⟨nd, rfl⟩⟩) | (go_at_call 14; (with_reducible refine (tick_Times.calls a0 a1 t142 _ A62.out).mono ?_); rintro e w73 ⟨rfl, hb⟩; have n0_ := Aside0.mk (below_step (by repeat (first | (with_reducible first | exact HB.out | apply below_alloc | apply pw_below_drewN | apply below_drew1) | exact HB.out)) hb); clear HB; have HB := n0_; clear n0_; (try clear hb); (try clear hb2); (try clear hk); (try clear hi)) | (go_at_call 18; (with_reducible refine (tick_Good.calls t142 false _ A63.out).mono ?_); rintro e w' ⟨rfl, ⟨nd, rfl⟩⟩))
                      go_ret
                      exact ⟨by first | rfl | (simp [errW_none, errW_some] <;> rfl) | (simp [*, errW_none, errW_some] <;> rfl), by repeat (first | (with_reducible first | exact HB.out | apply below_alloc | apply pw_below_drewN | apply below_drew1) | exact HB.out)⟩
                  · replace c61 := Bool.eq_false_iff.mpr c61
                    subst c61
                    have H1 : (some false) = some r := by rw [if_neg (show ¬ (false = true) by decide)] at H; exact H
                    clear H
                    have H := H1
                    clear H1
                    obtain rfl := Option.some.inj H
                    go_wp2_with (first | ((with_reducible refine gate_callee (f := 16) rfl ?_); refine goesL_ (some 70) rfl rfl Try.func16 (by kernel_rfl) rfl #[.int .i64 a0, .int .i64 a1] rfl (by (try simp only [List.map_toArray, List.map_cons, List.map_nil]); first | done | rfl | (simp only [List.length_drop, List.length_take]; rfl)) ?_; (with_reducible refine (tick_Add.calls a0 a1 t138 _ A56.out).mono ?_); rintro e w74 ⟨rfl, hb⟩; refine ⟨_, rfl, ?_⟩; have n0_ := Aside0.mk (below_step (by repeat (first | (with_reducible first | exact HB.out | apply below_alloc | apply pw_below_drewN | apply below_drew1) | exact HB.out)) hb); clear HB; have HB := n0_; clear n0_; (try clear hb); (try clear hb2); (try clear hk); (try clear hi)) | ((with_reducible refine gate_callee (f := 18) rfl ?_); refine goesL_ (some 71) rfl rfl Try.func18 (by kernel_rfl) rfl #[.int .i64 t138] rfl (by (try simp only [List.map_toArray, List.map_cons, List.map_nil]); first | done | rfl | (simp only [List.length_drop, List.length_take]; rfl)) ?_; (with_reducible refine (tick_Good.calls t138 true _ A57.out).mono ?_); rintro e w' ⟨rfl, ⟨nd, rfl⟩⟩; refine ⟨_, rfl, ?_⟩) | (go_at_call 17; (with_reducible refine (tick_Sub.calls a0 a1 t140 _ A59.out).mono ?_); rintro e w75 ⟨rfl, hb⟩; have n0_ := Aside0.mk (below_step (by repeat (first | (with_reducible first | exact HB.out | apply below_alloc | apply pw_below_drewN | apply below_drew1) | exact HB.out)) hb); clear HB; have HB := n0_; clear n0_; (try clear hb); (try clear hb2); (try clear hk); (try clear hi)) | (go_at_call 18; (with_reducible refine (tick_Good.calls t140 false _ A60.out).mono ?_); rintro e w' ⟨rfl, ⟨nd, rfl⟩⟩))
                    go_ret
                    exact ⟨by first | rfl | (simp [errW_none, errW_some] <;> rfl) | (simp [*, errW_none, errW_some] <;> rfl), by repeat (first | (with_reducible first | exact HB.out | apply below_alloc | apply pw_below_drewN | apply below_drew1) | exact HB.out)⟩
                · replace c58 := Bool.eq_false_iff.mpr c58
                  subst c58
                  have H1 : (some false) = some r := by rw [if_neg (show ¬ (false = true) by decide)] at H; exact H
                  clear H
                  have H := H1
                  clear H1
                  obtain rfl := Option.some.inj H
                  go_wp2_with (first | ((with_reducible refine gate_callee (f := 16) rfl ?_); refine goesL_ (some 70) rfl rfl Try.func16 (by kernel_rfl) rfl #[.int .i64 a0, .int .i64 a1] rfl (by (try simp only [List.map_toArray, List.map_cons, List.map_nil]); first | done | rfl | (simp only [List.length_drop, List.length_take]; rfl)) ?_; (with_reducible refine (tick_Add.calls a0 a1 t138 _ A56.out).mono ?_); rintro e w76 ⟨rfl, hb⟩; refine ⟨_, rfl, ?_⟩; have n0_ := Aside0.mk (below_step (by repeat (first | (with_reducible first | exact HB.out | apply below_alloc | apply pw_below_drewN | apply below_drew1) | exact HB.out)) hb); clear HB; have HB := n0_; clear n0_; (try clear hb); (try clear hb2); (try clear hk); (try clear hi)) | ((with_reducible refine gate_callee (f := 18) rfl ?_); refine goesL_ (some 71) rfl rfl Try.func18 (by kernel_rfl) rfl #[.int .i64 t138] rfl (by (try simp only [List.map_toArray, List.map_cons, List.map_nil]); first | done | rfl | (simp only [List.length_drop, List.length_take]; rfl)) ?_; (with_reducible refine (tick_Good.calls t138 false _ A57.out).mono ?_); rintro e w' ⟨rfl, ⟨nd, rfl⟩⟩; refine ⟨_, rfl, ?_⟩))
                  go_ret
                  exact ⟨by first | rfl | (simp [errW_none, errW_some] <;> rfl) | (simp [*, errW_none, errW_some] <;> rfl), by repeat (first | (with_reducible first | exact HB.out | apply below_alloc | apply pw_below_drewN | apply below_drew1) | exact HB.out)⟩
  · replace c5 := Bool.eq_false_iff.mpr c5
    subst c5
    have H1 : (some false) = some r := by rw [if_neg (show ¬ (false = true) by decide)] at H; exact H
    clear H
    have H := H1
    clear H1
    obtain rfl := Option.some.inj H
    go_enter Try.func4, Try.ntmps4
    go_wp2_with (first | ((with_reducible refine gate_callee (f := 12) rfl ?_); refine goesL_ (some 7) rfl rfl Try.func12 (by kernel_rfl) rfl #[] rfl (by (try simp only [List.map_toArray, List.map_cons, List.map_nil]); first | done | rfl | (simp only [List.length_drop, List.length_take]; rfl)) ?_; (with_reducible refine (usufructlaw01_awake.calls k  false _ A4.out).mono ?_); rintro e w77 ⟨rfl, hb⟩; refine ⟨_, rfl, ?_⟩; have n0_ := Aside0.mk (below_step (by repeat (first | (with_reducible first | exact HB.out | apply below_alloc | apply pw_below_drewN | apply below_drew1) | exact HB.out)) hb); clear HB; have HB := n0_; clear n0_; (try clear hb); (try clear hb2); (try clear hk); (try clear hi)))
    go_ret
    exact ⟨by first | rfl | (simp [errW_none, errW_some] <;> rfl) | (simp [*, errW_none, errW_some] <;> rfl), by repeat (first | (with_reducible first | exact HB.out | apply below_alloc | apply pw_below_drewN | apply below_drew1) | exact HB.out)⟩

/-- THE ONE PURE STATEMENT of usufructlaw01_TickOrders: yours. -/
def usufructlaw01_TickOrders.Pure : Prop := ∀ (a0 : Int) (a1 : Int) (a2 : Int), (Lit.int .i64 a0).wf = true → (Lit.int .i64 a1).wf = true → (Lit.int .i64 a2).wf = true → ∃ k, usufructlaw01_TickOrders.f k a0 a1 a2 = some true
theorem usufructlaw01_TickOrders.walk (P : usufructlaw01_TickOrders.Pure) (a0 : Int) (a1 : Int) (a2 : Int) (w : World) (w0 : (Lit.int .i64 a0).wf = true) (w1 : (Lit.int .i64 a1).wf = true) (w2 : (Lit.int .i64 a2).wf = true) :
    Calls Try.prog 4 #[.int .i64 a0, .int .i64 a1, .int .i64 a2] w fun e w' => e = .returned (.bool true) ∧ Below w.heap.size w w' := by
  obtain ⟨k, h⟩ := P a0 a1 a2 w0 w1 w2
  refine (usufructlaw01_TickOrders.calls k a0 a1 a2 true w h).mono ?_
  rintro e w' ⟨rfl, hd⟩
  exact ⟨rfl, hd⟩

end Go.Proofs.Ytiohhfjocmibdaa.Q
