-- written for this claim by a program of the session
import Derived.Test.YtiohhfjocmibdaaQx0
import Derived.Test.YtiohhfjocmibdaaQx1
import Derived.Test.YtiohhfjocmibdaaQx2
import Derived.Test.YtiohhfjocmibdaaQx4
import Derived.Test.YtiohhfjocmibdaaQx5
namespace Go.Proofs.Ytiohhfjocmibdaa.Q
open Go.RowKit Go.Proofs.YtiohhfjocmibdaaW.PrintWords Go.Proofs.YtiohhfjocmibdaaW.PrintLast Go.Proofs.YtiohhfjocmibdaaW.PrintMore
attribute [local go_sem] max2_int min2_int max_two min_two max_three min_three max_four min_four   -- for this text's walks alone
set_option linter.unusedVariables false
set_option linter.unusedSimpArgs false

/-! ### usufructlaw01_TickSums: function 6 -/
def usufructlaw01_TickSums.f (k : Nat) (a0 : Int) (a1 : Int) : Option (Bool) := (usufructlaw01_awake.f k).bind fun t170 => (if t170 = true then ((tick_Good.f a0).bind fun t171 => ((usufructref01_Of.f a0).bind fun t172 => (if (t171 == (t172 == a0)) = true then ((tick_Of.f a0).bind fun t173 => ((usufructref01_Of.f a0).bind fun t174 => (if t173 = t174 then ((tick_Add.f a0 a1).bind fun t175 => ((usufructref01_Add.f a0 a1).bind fun t176 => (if t175 = t176 then ((tick_Sub.f a0 a1).bind fun t177 => ((usufructref01_Sub.f a0 a1).bind fun t178 => (if t177 = t178 then ((tick_Times.f a0 a1).bind fun t179 => ((usufructref01_Times.f k a0 a1).bind fun t180 => (if t179 = t180 then ((tick_Pow.f k a0 a1).bind fun t181 => ((usufructref01_Pow.f k a0 a1).bind fun t182 => (if t181 = t182 then ((tick_Due.f a0 a1).bind fun t183 => ((usufructref01_Of.f a1).bind fun t184 => ((usufructref01_Of.f a0).bind fun t185 => (some (t183 == (decide (t184 ≤ t185))))))) else (some false)))) else (some false)))) else (some false)))) else (some false)))) else (some false)))) else (some false)))) else (some false))
theorem usufructlaw01_TickSums.mono : ∀ a0 a1 k, LeO (usufructlaw01_TickSums.f k a0 a1) (usufructlaw01_TickSums.f (k + 1) a0 a1) := by
  intro a0 a1 k
  unfold usufructlaw01_TickSums.f
  repeat' first
      | (with_reducible exact tick_Pow.mono _ _ _)
      | (with_reducible exact usufructlaw01_awake.mono _)
      | (with_reducible exact usufructref01_Pow.mono _ _ _)
      | (with_reducible exact usufructref01_Times.mono _ _ _)
      | (with_reducible exact LeO.refl _)
      | (with_reducible exact LeO.none _)
      | (with_reducible refine LeO.ite ?_ ?_)
      | (with_reducible refine LeO.bind ?_ (fun _ => ?_))
      | exact tick_Pow.mono _ _ _
      | exact usufructlaw01_awake.mono _
      | exact usufructref01_Pow.mono _ _ _
      | exact usufructref01_Times.mono _ _ _
      | exact LeO.none _
      | refine LeO.ite ?_ ?_
      | refine LeO.bind ?_ (fun _ => ?_)
set_option maxHeartbeats 8000000 in
set_option maxRecDepth 100000 in
theorem usufructlaw01_TickSums.calls (k : Nat) (a0 : Int) (a1 : Int) (r : Bool) (w : World) (h : usufructlaw01_TickSums.f k a0 a1 = some r) :
    Calls Try.prog 6 #[.int .i64 a0, .int .i64 a1] w fun e w' => e = .returned (.bool r) ∧ Below w.heap.size w w' := by
  have HB := Aside0.mk (Below.refl w.heap.size w)
  have H : ((usufructlaw01_awake.f k).bind fun t170 => (if t170 = true then ((tick_Good.f a0).bind fun t171 => ((usufructref01_Of.f a0).bind fun t172 => (if (t171 == (t172 == a0)) = true then ((tick_Of.f a0).bind fun t173 => ((usufructref01_Of.f a0).bind fun t174 => (if t173 = t174 then ((tick_Add.f a0 a1).bind fun t175 => ((usufructref01_Add.f a0 a1).bind fun t176 => (if t175 = t176 then ((tick_Sub.f a0 a1).bind fun t177 => ((usufructref01_Sub.f a0 a1).bind fun t178 => (if t177 = t178 then ((tick_Times.f a0 a1).bind fun t179 => ((usufructref01_Times.f k a0 a1).bind fun t180 => (if t179 = t180 then ((tick_Pow.f k a0 a1).bind fun t181 => ((usufructref01_Pow.f k a0 a1).bind fun t182 => (if t181 = t182 then ((tick_Due.f a0 a1).bind fun t183 => ((usufructref01_Of.f a1).bind fun t184 => ((usufructref01_Of.f a0).bind fun t185 => (some (t183 == (decide (t184 ≤ t185))))))) else (some false)))) else (some false)))) else (some false)))) else (some false)))) else (some false)))) else (some false)))) else (some false))) = some r := h
  clear h
  replace H := Option.bind_eq_some_iff.mp H
  obtain ⟨t170, A30, H⟩ := H
  replace H : (if t170 = true then ((tick_Good.f a0).bind fun t171 => ((usufructref01_Of.f a0).bind fun t172 => (if (t171 == (t172 == a0)) = true then ((tick_Of.f a0).bind fun t173 => ((usufructref01_Of.f a0).bind fun t174 => (if t173 = t174 then ((tick_Add.f a0 a1).bind fun t175 => ((usufructref01_Add.f a0 a1).bind fun t176 => (if t175 = t176 then ((tick_Sub.f a0 a1).bind fun t177 => ((usufructref01_Sub.f a0 a1).bind fun t178 => (if t177 = t178 then ((tick_Times.f a0 a1).bind fun t179 => ((usufructref01_Times.f k a0 a1).bind fun t180 => (if t179 = t180 then ((tick_Pow.f k a0 a1).bind fun t181 => ((usufructref01_Pow.f k a0 a1).bind fun t182 => (if t181 = t182 then ((tick_Due.f a0 a1).bind fun t183 => ((usufructref01_Of.f a1).bind fun t184 => ((usufructref01_Of.f a0).bind fun t185 => (some (t183 == (decide (t184 ≤ t185))))))) else (some false)))) else (some false)))) else (some false)))) else (some false)))) else (some false)))) else (some false)))) else (some false)) = some r := H
  have A3 := Aside0.mk A30
  clear A30
  by_cases c4 : t170 = true
  · subst c4
    have H1 : ((tick_Good.f a0).bind fun t171 => ((usufructref01_Of.f a0).bind fun t172 => (if (t171 == (t172 == a0)) = true then ((tick_Of.f a0).bind fun t173 => ((usufructref01_Of.f a0).bind fun t174 => (if t173 = t174 then ((tick_Add.f a0 a1).bind fun t175 => ((usufructref01_Add.f a0 a1).bind fun t176 => (if t175 = t176 then ((tick_Sub.f a0 a1).bind fun t177 => ((usufructref01_Sub.f a0 a1).bind fun t178 => (if t177 = t178 then ((tick_Times.f a0 a1).bind fun t179 => ((usufructref01_Times.f k a0 a1).bind fun t180 => (if t179 = t180 then ((tick_Pow.f k a0 a1).bind fun t181 => ((usufructref01_Pow.f k a0 a1).bind fun t182 => (if t181 = t182 then ((tick_Due.f a0 a1).bind fun t183 => ((usufructref01_Of.f a1).bind fun t184 => ((usufructref01_Of.f a0).bind fun t185 => (some (t183 == (decide (t184 ≤ t185))))))) else (some false)))) else (some false)))) else (some false)))) else (some false)))) else (some false)))) else (some false)))) = some r := by rw [if_pos rfl] at H; exact H
    clear H
    have H := H1
    clear H1
    replace H := Option.bind_eq_some_iff.mp H
    obtain ⟨t171, A50, H⟩ := H
    replace H : ((usufructref01_Of.f a0).bind fun t172 => (if (t171 == (t172 == a0)) = true then ((tick_Of.f a0).bind fun t173 => ((usufructref01_Of.f a0).bind fun t174 => (if t173 = t174 then ((tick_Add.f a0 a1).bind fun t175 => ((usufructref01_Add.f a0 a1).bind fun t176 => (if t175 = t176 then ((tick_Sub.f a0 a1).bind fun t177 => ((usufructref01_Sub.f a0 a1).bind fun t178 => (if t177 = t178 then ((tick_Times.f a0 a1).bind fun t179 => ((usufructref01_Times.f k a0 a1).bind fun t180 => (if t179 = t180 then ((tick_Pow.f k a0 a1).bind fun t181 => ((usufructref01_Pow.f k a0 a1).bind fun t182 => (if t181 = t182 then ((tick_Due.f a0 a1).bind fun t183 => ((usufructref01_Of.f a1).bind fun t184 => ((usufructref01_Of.f a0).bind fun t185 => (some (t183 == (decide (t184 ≤ t185))))))) else (some false)))) else (some false)))) else (some false)))) else (some false)))) else (some false)))) else (some false))) = some r := H
    have A5 := Aside0.mk A50
    clear A50
    replace H := Option.bind_eq_some_iff.mp H
    obtain ⟨t172, A60, H⟩ := H
    replace H : (if (t171 == (t172 == a0)) = true then ((tick_Of.f a0).bind fun t173 => ((usufructref01_Of.f a0).bind fun t174 => (if t173 = t174 then ((tick_Add.f a0 a1).bind fun t175 => ((usufructref01_Add.f a0 a1).bind fun t176 => (if t175 = t176 then ((tick_Sub.f a0 a1).bind fun t177 => ((usufructref01_Sub.f a0 a1).bind fun t178 => (if t177 = t178 then ((tick_Times.f a0 a1).bind fun t179 => ((usufructref01_Times.f k a0 a1).bind fun t180 => (if t179 = t180 then ((tick_Pow.f k a0 a1).bind fun t181 => ((usufructref01_Pow.f k a0 a1).bind fun t182 => (if t181 = t182 then ((tick_Due.f a0 a1).bind fun t183 => ((usufructref01_Of.f a1).bind fun t184 => ((usufructref01_Of.f a0).bind fun t185 => (some (t183 == (decide (t184 ≤ t185))))))) else (some false)))) else (some false)))) else (some false)))) else (some false)))) else (some false)))) else (some false)) = some r := H
    have A6 := Aside0.mk A60
    clear A60
    by_cases c7 : (t171 == (t172 == a0)) = true
    · rw [if_pos c7] at H
      have c7b0 : (t171 == (t172 == a0)) = true := c7
      (try (have c7b1 : decide (t171 = (t172 == a0)) = true := by simpa using c7))
      (try (have c7b2 : (t171 == (t172 == a0)) = true := by simpa using c7))
      clear c7
      replace H := Option.bind_eq_some_iff.mp H
      obtain ⟨t173, A80, H⟩ := H
      replace H : ((usufructref01_Of.f a0).bind fun t174 => (if t173 = t174 then ((tick_Add.f a0 a1).bind fun t175 => ((usufructref01_Add.f a0 a1).bind fun t176 => (if t175 = t176 then ((tick_Sub.f a0 a1).bind fun t177 => ((usufructref01_Sub.f a0 a1).bind fun t178 => (if t177 = t178 then ((tick_Times.f a0 a1).bind fun t179 => ((usufructref01_Times.f k a0 a1).bind fun t180 => (if t179 = t180 then ((tick_Pow.f k a0 a1).bind fun t181 => ((usufructref01_Pow.f k a0 a1).bind fun t182 => (if t181 = t182 then ((tick_Due.f a0 a1).bind fun t183 => ((usufructref01_Of.f a1).bind fun t184 => ((usufructref01_Of.f a0).bind fun t185 => (some (t183 == (decide (t184 ≤ t185))))))) else (some false)))) else (some false)))) else (some false)))) else (some false)))) else (some false))) = some r := H
      have A8 := Aside0.mk A80
      clear A80
      replace H := Option.bind_eq_some_iff.mp H
      obtain ⟨t174, A90, H⟩ := H
      replace H : (if t173 = t174 then ((tick_Add.f a0 a1).bind fun t175 => ((usufructref01_Add.f a0 a1).bind fun t176 => (if t175 = t176 then ((tick_Sub.f a0 a1).bind fun t177 => ((usufructref01_Sub.f a0 a1).bind fun t178 => (if t177 = t178 then ((tick_Times.f a0 a1).bind fun t179 => ((usufructref01_Times.f k a0 a1).bind fun t180 => (if t179 = t180 then ((tick_Pow.f k a0 a1).bind fun t181 => ((usufructref01_Pow.f k a0 a1).bind fun t182 => (if t181 = t182 then ((tick_Due.f a0 a1).bind fun t183 => ((usufructref01_Of.f a1).bind fun t184 => ((usufructref01_Of.f a0).bind fun t185 => (some (t183 == (decide (t184 ≤ t185))))))) else (some false)))) else (some false)))) else (some false)))) else (some false)))) else (some false)) = some r := H
      have A9 := Aside0.mk A90
      have E9 := Aside0.mk (Option.some.inj (A9.out.symm.trans A6.out))
      clear A90
      by_cases c10 : t173 = t174
      · rw [if_pos c10] at H
        have c10b0 : (t173 == t174) = true := beq_iff_eq.mpr c10
        have c10b1 : (t173 != t174) = false := bne_eq_false_iff_eq.mpr c10
        clear c10
        replace H := Option.bind_eq_some_iff.mp H
        obtain ⟨t175, A110, H⟩ := H
        replace H : ((usufructref01_Add.f a0 a1).bind fun t176 => (if t175 = t176 then ((tick_Sub.f a0 a1).bind fun t177 => ((usufructref01_Sub.f a0 a1).bind fun t178 => (if t177 = t178 then ((tick_Times.f a0 a1).bind fun t179 => ((usufructref01_Times.f k a0 a1).bind fun t180 => (if t179 = t180 then ((tick_Pow.f k a0 a1).bind fun t181 => ((usufructref01_Pow.f k a0 a1).bind fun t182 => (if t181 = t182 then ((tick_Due.f a0 a1).bind fun t183 => ((usufructref01_Of.f a1).bind fun t184 => ((usufructref01_Of.f a0).bind fun t185 => (some (t183 == (decide (t184 ≤ t185))))))) else (some false)))) else (some false)))) else (some false)))) else (some false))) = some r := H
        have A11 := Aside0.mk A110
        clear A110
        replace H := Option.bind_eq_some_iff.mp H
        obtain ⟨t176, A120, H⟩ := H
        replace H : (if t175 = t176 then ((tick_Sub.f a0 a1).bind fun t177 => ((usufructref01_Sub.f a0 a1).bind fun t178 => (if t177 = t178 then ((tick_Times.f a0 a1).bind fun t179 => ((usufructref01_Times.f k a0 a1).bind fun t180 => (if t179 = t180 then ((tick_Pow.f k a0 a1).bind fun t181 => ((usufructref01_Pow.f k a0 a1).bind fun t182 => (if t181 = t182 then ((tick_Due.f a0 a1).bind fun t183 => ((usufructref01_Of.f a1).bind fun t184 => ((usufructref01_Of.f a0).bind fun t185 => (some (t183 == (decide (t184 ≤ t185))))))) else (some false)))) else (some false)))) else (some false)))) else (some false)) = some r := H
        have A12 := Aside0.mk A120
        clear A120
        by_cases c13 : t175 = t176
        · rw [if_pos c13] at H
          have c13b0 : (t175 == t176) = true := beq_iff_eq.mpr c13
          have c13b1 : (t175 != t176) = false := bne_eq_false_iff_eq.mpr c13
          clear c13
          replace H := Option.bind_eq_some_iff.mp H
          obtain ⟨t177, A140, H⟩ := H
          replace H : ((usufructref01_Sub.f a0 a1).bind fun t178 => (if t177 = t178 then ((tick_Times.f a0 a1).bind fun t179 => ((usufructref01_Times.f k a0 a1).bind fun t180 => (if t179 = t180 then ((tick_Pow.f k a0 a1).bind fun t181 => ((usufructref01_Pow.f k a0 a1).bind fun t182 => (if t181 = t182 then ((tick_Due.f a0 a1).bind fun t183 => ((usufructref01_Of.f a1).bind fun t184 => ((usufructref01_Of.f a0).bind fun t185 => (some (t183 == (decide (t184 ≤ t185))))))) else (some false)))) else (some false)))) else (some false))) = some r := H
          have A14 := Aside0.mk A140
          clear A140
          replace H := Option.bind_eq_some_iff.mp H
          obtain ⟨t178, A150, H⟩ := H
          replace H : (if t177 = t178 then ((tick_Times.f a0 a1).bind fun t179 => ((usufructref01_Times.f k a0 a1).bind fun t180 => (if t179 = t180 then ((tick_Pow.f k a0 a1).bind fun t181 => ((usufructref01_Pow.f k a0 a1).bind fun t182 => (if t181 = t182 then ((tick_Due.f a0 a1).bind fun t183 => ((usufructref01_Of.f a1).bind fun t184 => ((usufructref01_Of.f a0).bind fun t185 => (some (t183 == (decide (t184 ≤ t185))))))) else (some false)))) else (some false)))) else (some false)) = some r := H
          have A15 := Aside0.mk A150
          clear A150
          by_cases c16 : t177 = t178
          · rw [if_pos c16] at H
            have c16b0 : (t177 == t178) = true := beq_iff_eq.mpr c16
            have c16b1 : (t177 != t178) = false := bne_eq_false_iff_eq.mpr c16
            clear c16
            replace H := Option.bind_eq_some_iff.mp H
            obtain ⟨t179, A170, H⟩ := H
            replace H : ((usufructref01_Times.f k a0 a1).bind fun t180 => (if t179 = t180 then ((tick_Pow.f k a0 a1).bind fun t181 => ((usufructref01_Pow.f k a0 a1).bind fun t182 => (if t181 = t182 then ((tick_Due.f a0 a1).bind fun t183 => ((usufructref01_Of.f a1).bind fun t184 => ((usufructref01_Of.f a0).bind fun t185 => (some (t183 == (decide (t184 ≤ t185))))))) else (some false)))) else (some false))) = some r := H
            have A17 := Aside0.mk A170
            clear A170
            replace H := Option.bind_eq_some_iff.mp H
            obtain ⟨t180, A180, H⟩ := H
            replace H : (if t179 = t180 then ((tick_Pow.f k a0 a1).bind fun t181 => ((usufructref01_Pow.f k a0 a1).bind fun t182 => (if t181 = t182 then ((tick_Due.f a0 a1).bind fun t183 => ((usufructref01_Of.f a1).bind fun t184 => ((usufructref01_Of.f a0).bind fun t185 => (some (t183 == (decide (t184 ≤ t185))))))) else (some false)))) else (some false)) = some r := H
            have A18 := Aside0.mk A180
            clear A180
            by_cases c19 : t179 = t180
            · rw [if_pos c19] at H
              have c19b0 : (t179 == t180) = true := beq_iff_eq.mpr c19
              have c19b1 : (t179 != t180) = false := bne_eq_false_iff_eq.mpr c19
              clear c19
              replace H := Option.bind_eq_some_iff.mp H
              obtain ⟨t181, A200, H⟩ := H
              replace H : ((usufructref01_Pow.f k a0 a1).bind fun t182 => (if t181 = t182 then ((tick_Due.f a0 a1).bind fun t183 => ((usufructref01_Of.f a1).bind fun t184 => ((usufructref01_Of.f a0).bind fun t185 => (some (t183 == (decide (t184 ≤ t185))))))) else (some false))) = some r := H
              have A20 := Aside0.mk A200
              clear A200
              replace H := Option.bind_eq_some_iff.mp H
              obtain ⟨t182, A210, H⟩ := H
              replace H : (if t181 = t182 then ((tick_Due.f a0 a1).bind fun t183 => ((usufructref01_Of.f a1).bind fun t184 => ((usufructref01_Of.f a0).bind fun t185 => (some (t183 == (decide (t184 ≤ t185))))))) else (some false)) = some r := H
              have A21 := Aside0.mk A210
              clear A210
              by_cases c22 : t181 = t182
              · rw [if_pos c22] at H
                have c22b0 : (t181 == t182) = true := beq_iff_eq.mpr c22
                have c22b1 : (t181 != t182) = false := bne_eq_false_iff_eq.mpr c22
                clear c22
                replace H := Option.bind_eq_some_iff.mp H
                obtain ⟨t183, A230, H⟩ := H
                replace H : ((usufructref01_Of.f a1).bind fun t184 => ((usufructref01_Of.f a0).bind fun t185 => (some (t183 == (decide (t184 ≤ t185)))))) = some r := H
                have A23 := Aside0.mk A230
                clear A230
                replace H := Option.bind_eq_some_iff.mp H
                obtain ⟨t184, A240, H⟩ := H
                replace H : ((usufructref01_Of.f a0).bind fun t185 => (some (t183 == (decide (t184 ≤ t185))))) = some r := H
                have A24 := Aside0.mk A240
                clear A240
                replace H := Option.bind_eq_some_iff.mp H
                obtain ⟨t185, A250, H⟩ := H
                replace H : (some (t183 == (decide (t184 ≤ t185)))) = some r := H
                have A25 := Aside0.mk A250
                have E25 := Aside0.mk (Option.some.inj (A25.out.symm.trans A6.out))
                clear A250
                obtain rfl := Option.some.inj H
                go_enter Try.func6, Try.ntmps6
                go_wp2_with (first | ((with_reducible refine gate_callee (f := 12) rfl ?_); refine goesL_ (some 5) rfl rfl Try.func12 (by kernel_rfl) rfl #[] rfl (by (try simp only [List.map_toArray, List.map_cons, List.map_nil]); first | done | rfl | (simp only [List.length_drop, List.length_take]; rfl)) ?_; (with_reducible refine (usufructlaw01_awake.calls k  true _ A3.out).mono ?_); rintro e w26 ⟨rfl, hb⟩; refine ⟨_, rfl, ?_⟩; have n0_ := Aside0.mk (below_step (by repeat (first | (with_reducible first | exact HB.out | apply below_alloc | apply pw_below_drewN | apply below_drew1) | exact HB.out)) hb); clear HB; have HB := n0_; clear n0_; (try clear hb); (try clear hb2); (try clear hk); (try clear hi)) | ((with_reducible refine gate_callee (f := 18) rfl ?_); refine goesL_ (some 8) rfl rfl Try.func18 (by kernel_rfl) rfl #[.int .i64 a0] rfl (by (try simp only [List.map_toArray, List.map_cons, List.map_nil]); first | done | rfl | (simp only [List.length_drop, List.length_take]; rfl)) ?_; (with_reducible refine (tick_Good.calls a0 t171 _ A5.out).mono ?_); rintro e w' ⟨rfl, ⟨nd, rfl⟩⟩; refine ⟨_, rfl, ?_⟩) | ((with_reducible refine gate_callee (f := 20) rfl ?_); refine goesL_ (some 10) rfl rfl Try.func20 (by kernel_rfl) rfl #[.int .i64 a0] rfl (by (try simp only [List.map_toArray, List.map_cons, List.map_nil]); first | done | rfl | (simp only [List.length_drop, List.length_take]; rfl)) ?_; (with_reducible refine (usufructref01_Of.calls a0 t172 _ A6.out).mono ?_); rintro e w' ⟨rfl, ⟨nd, rfl⟩⟩; refine ⟨_, rfl, ?_⟩) | (go_at_call 15; (with_reducible refine (tick_Of.calls a0 t173 _ A8.out).mono ?_); rintro e w27 ⟨rfl, hb⟩; have n0_ := Aside0.mk (below_step (by repeat (first | (with_reducible first | exact HB.out | apply below_alloc | apply pw_below_drewN | apply below_drew1) | exact HB.out)) hb); clear HB; have HB := n0_; clear n0_; (try clear hb); (try clear hb2); (try clear hk); (try clear hi)) | (go_at_call 20; (with_reducible refine (usufructref01_Of.calls a0 t174 _ A9.out).mono ?_); rintro e w' ⟨rfl, ⟨nd, rfl⟩⟩) | (go_at_call 16; (with_reducible refine (tick_Add.calls a0 a1 t175 _ A11.out).mono ?_); rintro e w28 ⟨rfl, hb⟩; have n0_ := Aside0.mk (below_step (by repeat (first | (with_reducible first | exact HB.out | apply below_alloc | apply pw_below_drewN | apply below_drew1) | exact HB.out)) hb); clear HB; have HB := n0_; clear n0_; (try clear hb); (try clear hb2); (try clear hk); (try clear hi)) | (go_at_call 21; (with_reducible refine (usufructref01_Add.calls a0 a1 t176 _ A12.out).mono ?_); rintro e w' ⟨rfl, ⟨nd, rfl⟩⟩) | (go_at_call 17; (with_reducible refine (tick_Sub.calls a0 a1 t177 _ A14.out).mono ?_); rintro e w29 ⟨rfl, hb⟩; have n0_ := Aside0.mk (below_step (by repeat (first | (with_reducible first | exact HB.out | apply below_alloc | apply pw_below_drewN | apply below_drew1) | exact HB.out)) hb); clear HB; have HB := n0_; clear n0_; (try clear hb); (try clear hb2); (try clear hk); (try clear hi)) | (go_at_call 22; (with_reducible refine (usufructref01_Sub.calls a0 a1 t178 _ A15.out).mono ?_); rintro e w' ⟨rfl, ⟨nd, rfl⟩⟩) | (go_at_call 14; (with_reducible refine (tick_Times.calls a0 a1 t179 _ A17.out).mono ?_); rintro e w30 ⟨rfl, hb⟩; have n0_ := Aside0.mk (below_step (by repeat (first | (with_reducible first | exact HB.out | apply below_alloc | apply pw_below_drewN | apply below_drew1) | exact HB.out)) hb); clear HB; have HB := n0_; clear n0_; (try clear hb); (try clear hb2); (try clear hk); (try clear hi)) | (go_at_call 23; (with_reducible refine (usufructref01_Times.calls k a0 a1 t180 _ A18.out).mono ?_); rintro e w' ⟨rfl, ⟨nd, rfl⟩⟩) | (go_at_call 13; (with_reducible refine (tick_Pow.calls k a0 a1 t181 _ A20.out).mono ?_); rintro e w31 ⟨rfl, hb⟩; have n0_ := Aside0.mk (below_step (by repeat (first | (with_reducible first | exact HB.out | apply below_alloc | apply pw_below_drewN | apply below_drew1) | exact HB.out)) hb); clear HB; have HB := n0_; clear n0_; (try clear hb); (try clear hb2); (try clear hk); (try clear hi)) | (go_at_call 24; (with_reducible refine (usufructref01_Pow.calls k a0 a1 t182 _ A21.out).mono ?_); rintro e w' ⟨rfl, ⟨nd, rfl⟩⟩) | (go_at_call 19; (with_reducible refine (tick_Due.calls a0 a1 t183 _ A23.out).mono ?_); rintro e w32 ⟨rfl, hb⟩; have n0_ := Aside0.mk (below_step (by repeat (first | (with_reducible first | exact HB.out | apply below_alloc | apply pw_below_drewN | apply below_drew1) | exact HB.out)) hb); clear HB; have HB := n0_; clear n0_; (try clear hb); (try clear hb2); (try clear hk); (try clear hi)) | (go_at_call 20; (with_reducible refine (usufructref01_Of.calls a1 t184 _ A24.out).mono ?_); rintro e w' ⟨rfl, ⟨nd, rfl⟩⟩) | (go_at_call 20; (with_reducible refine (usufructref01_Of.calls a0 t185 _ A25.out).mono ?_); rintro e w' ⟨rfl, ⟨nd, rfl⟩⟩))
                go_ret
                exact ⟨by first | rfl | (simp only [E9.out, E25.out]; done) | (simp only [E9.out, E25.out]; rfl) | (simp [errW_none, errW_some] <;> rfl) | (simp [*, errW_none, errW_some] <;> rfl), by repeat (first | (with_reducible first | exact HB.out | apply below_alloc | apply pw_below_drewN | apply below_drew1) | exact HB.out)⟩
              · rw [if_neg c22] at H
                have c22b0 : (t181 == t182) = false := beq_eq_false_iff_ne.mpr c22
                have c22b1 : (t181 != t182) = true := bne_iff_ne.mpr c22
                obtain rfl := Option.some.inj H
                go_enter Try.func6, Try.ntmps6
                go_wp2_with (first | ((with_reducible refine gate_callee (f := 12) rfl ?_); refine goesL_ (some 5) rfl rfl Try.func12 (by kernel_rfl) rfl #[] rfl (by (try simp only [List.map_toArray, List.map_cons, List.map_nil]); first | done | rfl | (simp only [List.length_drop, List.length_take]; rfl)) ?_; (with_reducible refine (usufructlaw01_awake.calls k  true _ A3.out).mono ?_); rintro e w33 ⟨rfl, hb⟩; refine ⟨_, rfl, ?_⟩; have n0_ := Aside0.mk (below_step (by repeat (first | (with_reducible first | exact HB.out | apply below_alloc | apply pw_below_drewN | apply below_drew1) | exact HB.out)) hb); clear HB; have HB := n0_; clear n0_; (try clear hb); (try clear hb2); (try clear hk); (try clear hi)) | ((with_reducible refine gate_callee (f := 18) rfl ?_); refine goesL_ (some 8) rfl rfl Try.func18 (by kernel_rfl) rfl #[.int .i64 a0] rfl (by (try simp only [List.map_toArray, List.map_cons, List.map_nil]); first | done | rfl | (simp only [List.length_drop, List.length_take]; rfl)) ?_; (with_reducible refine (tick_Good.calls a0 t171 _ A5.out).mono ?_); rintro e w' ⟨rfl, ⟨nd, rfl⟩⟩; refine ⟨_, rfl, ?_⟩) | ((with_reducible refine gate_callee (f := 20) rfl ?_); refine goesL_ (some 10) rfl rfl Try.func20 (by kernel_rfl) rfl #[.int .i64 a0] rfl (by (try simp only [List.map_toArray, List.map_cons, List.map_nil]); first | done | rfl | (simp only [List.length_drop, List.length_take]; rfl)) ?_; (with_reducible refine (usufructref01_Of.calls a0 t172 _ A6.out).mono ?_); rintro e w' ⟨rfl, ⟨nd, rfl⟩⟩; refine ⟨_, rfl, ?_⟩) | (go_at_call 15; (with_reducible refine (tick_Of.calls a0 t173 _ A8.out).mono ?_); rintro e w34 ⟨rfl, hb⟩; have n0_ := Aside0.mk (below_step (by repeat (first | (with_reducible first | exact HB.out | apply below_alloc | apply pw_below_drewN | apply below_drew1) | exact HB.out)) hb); clear HB; have HB := n0_; clear n0_; (try clear hb); (try clear hb2); (try clear hk); (try clear hi)) | (go_at_call 20; (with_reducible refine (usufructref01_Of.calls a0 t174 _ A9.out).mono ?_); rintro e w' ⟨rfl, ⟨nd, rfl⟩⟩) | (go_at_call 16; (with_reducible refine (tick_Add.calls a0 a1 t175 _ A11.out).mono ?_); rintro e w35 ⟨rfl, hb⟩; have n0_ := Aside0.mk (below_step (by repeat (first | (with_reducible first | exact HB.out | apply below_alloc | apply pw_below_drewN | apply below_drew1) | exact HB.out)) hb); clear HB; have HB := n0_; clear n0_; (try clear hb); (try clear hb2); (try clear hk); (try clear hi)) | (go_at_call 21; (with_reducible refine (usufructref01_Add.calls a0 a1 t176 _ A12.out).mono ?_); rintro e w' ⟨rfl, ⟨nd, rfl⟩⟩) | (go_at_call 17; (with_reducible refine (tick_Sub.calls a0 a1 t177 _ A14.out).mono ?_); rintro e w36 ⟨rfl, hb⟩; have n0_ := Aside0.mk (below_step (by repeat (first | (with_reducible first | exact HB.out | apply below_alloc | apply pw_below_drewN | apply below_drew1) | exact HB.out)) hb); clear HB; have HB := n0_; clear n0_; (try clear hb); (try clear hb2); (try clear hk); (try clear hi)) | (go_at_call 22; (with_reducible refine (usufructref01_Sub.calls a0 a1 t178 _ A15.out).mono ?_); rintro e w' ⟨rfl, ⟨nd, rfl⟩⟩) | (go_at_call 14; (with_reducible refine (tick_Times.calls a0 a1 t179 _ A17.out).mono ?_); rintro e w37 ⟨rfl, hb⟩; have n0_ := Aside0.mk (below_step (by repeat (first | (with_reducible first | exact HB.out | apply below_alloc | apply pw_below_drewN | apply below_drew1) | exact HB.out)) hb); clear HB; have HB := n0_; clear n0_; (try clear hb); (try clear hb2); (try clear hk); (try clear hi)) | (go_at_call 23; (with_reducible refine (usufructref01_Times.calls k a0 a1 t180 _ A18.out).mono ?_); rintro e w' ⟨rfl, ⟨nd, rfl⟩⟩) | (go_at_call 13; (with_reducible refine (tick_Pow.calls k a0 a1 t181 _ A20.out).mono ?_); rintro e w38 ⟨rfl, hb⟩; have n0_ := Aside0.mk (below_step (by repeat (first | (with_reducible first | exact HB.out | apply below_alloc | apply pw_below_drewN | apply below_drew1) | exact HB.out)) hb); clear HB; have HB := n0_; clear n0_; (try clear hb); (try clear hb2); (try clear hk); (try clear hi)) | (go_at_call 24; (with_reducible refine (usufructref01_Pow.calls k a0 a1 t182 _ A21.out).mono ?_); rintro e w' ⟨rfl, ⟨nd, rfl⟩⟩))
                go_ret
                exact ⟨by first | rfl | (simp only [E9.out]; done) | (simp only [E9.out]; rfl) | (simp [errW_none, errW_some] <;> rfl) | (simp [*, errW_none, errW_some] <;> rfl), by repeat (first | (with_reducible first | exact HB.out | apply below_alloc | apply pw_below_drewN | apply below_drew1) | exact HB.out)⟩
            · rw [if_neg c19] at H
              have c19b0 : (t179 == t180) = false := beq_eq_false_iff_ne.mpr c19
              have c19b1 : (t179 != t180) = true := bne_iff_ne.mpr c19
              obtain rfl := Option.some.inj H
              go_enter Try.func6, Try.ntmps6
              go_wp2_with (first | ((with_reducible refine gate_callee (f := 12) rfl ?_); refine goesL_ (some 5) rfl rfl Try.func12 (by kernel_rfl) rfl #[] rfl (by (try simp only [List.map_toArray, List.map_cons, List.map_nil]); first | done | rfl | (simp only [List.length_drop, List.length_take]; rfl)) ?_; (with_reducible refine (usufructlaw01_awake.calls k  true _ A3.out).mono ?_); rintro e w39 ⟨rfl, hb⟩; refine ⟨_, rfl, ?_⟩; have n0_ := Aside0.mk (below_step (by repeat (first | (with_reducible first | exact HB.out | apply below_alloc | apply pw_below_drewN | apply below_drew1) | exact HB.out)) hb); clear HB; have HB := n0_; clear n0_; (try clear hb); (try clear hb2); (try clear hk); (try clear hi)) | ((with_reducible refine gate_callee (f := 18) rfl ?_); refine goesL_ (some 8) rfl rfl Try.func18 (by kernel_rfl) rfl #[.int .i64 a0] rfl (by (try simp only [List.map_toArray, List.map_cons, List.map_nil]); first | done | rfl | (simp only [List.length_drop, List.length_take]; rfl)) ?_; (with_reducible refine (tick_Good.calls a0 t171 _ A5.out).mono ?_); rintro e w' ⟨rfl, ⟨nd, rfl⟩⟩; refine ⟨_, rfl, ?_⟩) | ((with_reducible refine gate_callee (f := 20) rfl ?_); refine goesL_ (some 10) rfl rfl Try.func20 (by kernel_rfl) rfl #[.int .i64 a0] rfl (by (try simp only [List.map_toArray, List.map_cons, List.map_nil]); first | done | rfl | (simp only [List.length_drop, List.length_take]; rfl)) ?_; (with_reducible refine (usufructref01_Of.calls a0 t172 _ A6.out).mono ?_); rintro e w' ⟨rfl, ⟨nd, rfl⟩⟩; refine ⟨_, rfl, ?_⟩) | (go_at_call 15; (with_reducible refine (tick_Of.calls a0 t173 _ A8.out).mono ?_); rintro e w40 ⟨rfl, hb⟩; have n0_ := Aside0.mk (below_step (by repeat (first | (with_reducible first | exact HB.out | apply below_alloc | apply pw_below_drewN | apply below_drew1) | exact HB.out)) hb); clear HB; have HB := n0_; clear n0_; (try clear hb); (try clear hb2); (try clear hk); (try clear hi)) | (go_at_call 20; (with_reducible refine (usufructref01_Of.calls a0 t174 _ A9.out).mono ?_); rintro e w' ⟨rfl, ⟨nd, rfl⟩⟩) | (go_at_call 16; (with_reducible refine (tick_Add.calls a0 a1 t175 _ A11.out).mono ?_); rintro e w41 ⟨rfl, hb⟩; have n0_ := Aside0.mk (below_step (by repeat (first | (with_reducible first | exact HB.out | apply below_alloc | apply pw_below_drewN | apply below_drew1) | exact HB.out)) hb); clear HB; have HB := n0_; clear n0_; (try clear hb); (try clear hb2); (try clear hk); (try clear hi)) | (go_at_call 21; (with_reducible refine (usufructref01_Add.calls a0 a1 t176 _ A12.out).mono ?_); rintro e w' ⟨rfl, ⟨nd, rfl⟩⟩) | (go_at_call 17; (with_reducible refine (tick_Sub.calls a0 a1 t177 _ A14.out).mono ?_); rintro e w42 ⟨rfl, hb⟩; have n0_ := Aside0.mk (below_step (by repeat (first | (with_reducible first | exact HB.out | apply below_alloc | apply pw_below_drewN | apply below_drew1) | exact HB.out)) hb); clear HB; have HB := n0_; clear n0_; (try clear hb); (try clear hb2); (try clear hk); (try clear hi)) | (go_at_call 22; (with_reducible refine (usufructref01_Sub.calls a0 a1 t178 _ A15.out).mono ?_); rintro e w' ⟨rfl, ⟨nd, rfl⟩⟩) | (go_at_call 14; (with_reducible refine (tick_Times.calls a0 a1 t179 _ A17.out).mono ?_); rintro e w43 ⟨rfl, hb⟩; have n0_ := Aside0.mk (below_step (by repeat (first | (with_reducible first | exact HB.out | apply below_alloc | apply pw_below_drewN | apply below_drew1) | exact HB.out)) hb); clear HB; have HB := n0_; clear n0_; (try clear hb); (try clear hb2); (try clear hk); (try clear hi)) | (go_at_call 23; (with_reducible refine (usufructref01_Times.calls k a0 a1 t180 _ A18.out).mono ?_); rintro e w' ⟨rfl, ⟨nd, rfl⟩⟩))
              go_ret
              exact ⟨by first | rfl | (simp only [E9.out]; done) | (simp only [E9.out]; rfl) | (simp [errW_none, errW_some] <;> rfl) | (simp [*, errW_none, errW_some] <;> rfl), by repeat (first | (with_reducible first | exact HB.out | apply below_alloc | apply pw_below_drewN | apply below_drew1) | exact HB.out)⟩
          · rw [if_neg c16] at H
            have c16b0 : (t177 == t178) = false := beq_eq_false_iff_ne.mpr c16
            have c16b1 : (t177 != t178) = true := bne_iff_ne.mpr c16
            obtain rfl := Option.some.inj H
            go_enter Try.func6, Try.ntmps6
            go_wp2_with (first | ((with_reducible refine gate_callee (f := 12) rfl ?_); refine goesL_ (some 5) rfl rfl Try.func12 (by kernel_rfl) rfl #[] rfl (by (try simp only [List.map_toArray, List.map_cons, List.map_nil]); first | done | rfl | (simp only [List.length_drop, List.length_take]; rfl)) ?_; (with_reducible refine (usufructlaw01_awake.calls k  true _ A3.out).mono ?_); rintro e w44 ⟨rfl, hb⟩; refine ⟨_, rfl, ?_⟩; have n0_ := Aside0.mk (below_step (by repeat (first | (with_reducible first | exact HB.out | apply below_alloc | apply pw_below_drewN | apply below_drew1) | exact HB.out)) hb); clear HB; have HB := n0_; clear n0_; (try clear hb); (try clear hb2); (try clear hk); (try clear hi)) | ((with_reducible refine gate_callee (f := 18) rfl ?_); refine goesL_ (some 8) rfl rfl Try.func18 (by kernel_rfl) rfl #[.int .i64 a0] rfl (by (try simp only [List.map_toArray, List.map_cons, List.map_nil]); first | done | rfl | (simp only [List.length_drop, List.length_take]; rfl)) ?_; (with_reducible refine (tick_Good.calls a0 t171 _ A5.out).mono ?_); rintro e w' ⟨rfl, ⟨nd, rfl⟩⟩; refine ⟨_, rfl, ?_⟩) | ((with_reducible refine gate_callee (f := 20) rfl ?_); refine goesL_ (some 10) rfl rfl Try.func20 (by kernel_rfl) rfl #[.int .i64 a0] rfl (by (try simp only [List.map_toArray, List.map_cons, List.map_nil]); first | done | rfl | (simp only [List.length_drop, List.length_take]; rfl)) ?_; (with_reducible refine (usufructref01_Of.calls a0 t172 _ A6.out).mono ?_); rintro e w' ⟨rfl, ⟨nd, rfl⟩⟩; refine ⟨_, rfl, ?_⟩) | (go_at_call 15; (with_reducible refine (tick_Of.calls a0 t173 _ A8.out).mono ?_); rintro e w45 ⟨rfl, hb⟩; have n0_ := Aside0.mk (below_step (by repeat (first | (with_reducible first | exact HB.out | apply below_alloc | apply pw_below_drewN | apply below_drew1) | exact HB.out)) hb); clear HB; have HB := n0_; clear n0_; (try clear hb); (try clear hb2); (try clear hk); (try clear hi)) | (go_at_call 20; (with_reducible refine (usufructref01_Of.calls a0 t174 _ A9.out).mono ?_); rintro e w' ⟨rfl, ⟨nd, rfl⟩⟩) | (go_at_call 16; (with_reducible refine (tick_Add.calls a0 a1 t175 _ A11.out).mono ?_); rintro e w46 ⟨rfl, hb⟩; have n0_ := Aside0.mk (below_step (by repeat (first | (with_reducible first | exact HB.out | apply below_alloc | apply pw_below_drewN | apply below_drew1) | exact HB.out)) hb); clear HB; have HB := n0_; clear n0_; (try clear hb); (try clear hb2); (try clear hk); (try clear hi)) | (go_at_call 21; (with_reducible refine (usufructref01_Add.calls a0 a1 t176 _ A12.out).mono ?_); rintro e w' ⟨rfl, ⟨nd, rfl⟩⟩) | (go_at_call 17; (with_reducible refine (tick_Sub.calls a0 a1 t177 _ A14.out).mono ?_); rintro e w47 ⟨rfl, hb⟩; have n0_ := Aside0.mk (below_step (by repeat (first | (with_reducible first | exact HB.out | apply below_alloc | apply pw_below_drewN | apply below_drew1) | exact HB.out)) hb); clear HB; have HB := n0_; clear n0_; (try clear hb); (try clear hb2); (try clear hk); (try clear hi)) | (go_at_call 22; (with_reducible refine (usufructref01_Sub.calls a0 a1 t178 _ A15.out).mono ?_); rintro e w' ⟨rfl, ⟨nd, rfl⟩⟩))
            go_ret
            exact ⟨by first | rfl | (simp only [E9.out]; done) | (simp only [E9.out]; rfl) | (simp [errW_none, errW_some] <;> rfl) | (simp [*, errW_none, errW_some] <;> rfl), by repeat (first | (with_reducible first | exact HB.out | apply below_alloc | apply pw_below_drewN | apply below_drew1) | exact HB.out)⟩
        · rw [if_neg c13] at H
          have c13b0 : (t175 == t176) = false := beq_eq_false_iff_ne.mpr c13
          have c13b1 : (t175 != t176) = true := bne_iff_ne.mpr c13
          obtain rfl := Option.some.inj H
          go_enter Try.func6, Try.ntmps6
          go_wp2_with (first | ((with_reducible refine gate_callee (f := 12) rfl ?_); refine goesL_ (some 5) rfl rfl Try.func12 (by kernel_rfl) rfl #[] rfl (by (try simp only [List.map_toArray, List.map_cons, List.map_nil]); first | done | rfl | (simp only [List.length_drop, List.length_take]; rfl)) ?_; (with_reducible refine (usufructlaw01_awake.calls k  true _ A3.out).mono ?_); rintro e w48 ⟨rfl, hb⟩; refine ⟨_, rfl, ?_⟩; have n0_ := Aside0.mk (below_step (by repeat (first | (with_reducible first | exact HB.out | apply below_alloc | apply pw_below_drewN | apply below_drew1) | exact HB.out)) hb); clear HB; have HB := n0_; clear n0_; (try clear hb); (try clear hb2); (try clear hk); (try clear hi)) | ((with_reducible refine gate_callee (f := 18) rfl ?_); refine goesL_ (some 8) rfl rfl Try.func18 (by kernel_rfl) rfl #[.int .i64 a0] rfl (by (try simp only [List.map_toArray, List.map_cons, List.map_nil]); first | done | rfl | (simp only [List.length_drop, List.length_take]; rfl)) ?_; (with_reducible refine (tick_Good.calls a0 t171 _ A5.out).mono ?_); rintro e w' ⟨rfl, ⟨nd, rfl⟩⟩; refine ⟨_, rfl, ?_⟩) | ((with_reducible refine gate_callee (f := 20) rfl ?_); refine goesL_ (some 10) rfl rfl Try.func20 (by kernel_rfl) rfl #[.int .i64 a0] rfl (by (try simp only [List.map_toArray, List.map_cons, List.map_nil]); first | done | rfl | (simp only [List.length_drop, List.length_take]; rfl)) ?_; (with_reducible refine (usufructref01_Of.calls a0 t172 _ A6.out).mono ?_); rintro e w' ⟨rfl, ⟨nd, rfl⟩⟩; refine ⟨_, rfl, ?_⟩) | (go_at_call 15; (with_reducible refine (tick_Of.calls a0 t173 _ A8.out).mono ?_); rintro e w49 ⟨rfl, hb⟩; have n0_ := Aside0.mk (below_step (by repeat (first | (with_reducible first | exact HB.out | apply below_alloc | apply pw_below_drewN | apply below_drew1) | exact HB.out)) hb); clear HB; have HB := n0_; clear n0_; (try clear hb); (try clear hb2); (try clear hk); (try clear hi)) | (go_at_call 20; (with_reducible refine (usufructref01_Of.calls a0 t174 _ A9.out).mono ?_); rintro e w' ⟨rfl, ⟨nd, rfl⟩⟩) | (go_at_call 16; (with_reducible refine (tick_Add.calls a0 a1 t175 _ A11.out).mono ?_); rintro e w50 ⟨rfl, hb⟩; have n0_ := Aside0.mk (below_step (by repeat (first | (with_reducible first | exact HB.out | apply below_alloc | apply pw_below_drewN | apply below_drew1) | exact HB.out)) hb); clear HB; have HB := n0_; clear n0_; (try clear hb); (try clear hb2); (try clear hk); (try clear hi)) | (go_at_call 21; (with_reducible refine (usufructref01_Add.calls a0 a1 t176 _ A12.out).mono ?_); rintro e w' ⟨rfl, ⟨nd, rfl⟩⟩))
          go_ret
          exact ⟨by first | rfl | (simp only [E9.out]; done) | (simp only [E9.out]; rfl) | (simp [errW_none, errW_some] <;> rfl) | (simp [*, errW_none, errW_some] <;> rfl), by repeat (first | (with_reducible first | exact HB.out | apply below_alloc | apply pw_below_drewN | apply below_drew1) | exact HB.out)⟩
      · rw [if_neg c10] at H
        have c10b0 : (t173 == t174) = false := beq_eq_false_iff_ne.mpr c10
        have c10b1 : (t173 != t174) = true := bne_iff_ne.mpr c10
        obtain rfl := Option.some.inj H
        go_enter Try.func6, Try.ntmps6
        go_wp2_with (first | ((with_reducible refine gate_callee (f := 12) rfl ?_); refine goesL_ (some 5) rfl rfl Try.func12 (by kernel_rfl) rfl #[] rfl (by (try simp only [List.map_toArray, List.map_cons, List.map_nil]); first | done | rfl | (simp only [List.length_drop, List.length_take]; rfl)) ?_; (with_reducible refine (usufructlaw01_awake.calls k  true _ A3.out).mono ?_); rintro e w51 ⟨rfl, hb⟩; refine ⟨_, rfl, ?_⟩; have n0_ := Aside0.mk (below_step (by repeat (first | (with_reducible first | exact HB.out | apply below_alloc | apply pw_below_drewN | apply below_drew1) | exact HB.out)) hb); clear HB; have HB := n0_; clear n0_; (try clear hb); (try clear hb2); (try clear hk); (try clear hi)) | ((with_reducible refine gate_callee (f := 18) rfl ?_); refine goesL_ (some 8) rfl rfl Try.func18 (by kernel_rfl) rfl #[.int .i64 a0] rfl (by (try simp only [List.map_toArray, List.map_cons, List.map_nil]); first | done | rfl | (simp only [List.length_drop, List.length_take]; rfl)) ?_; (with_reducible refine (tick_Good.calls a0 t171 _ A5.out).mono ?_); rintro e w' ⟨rfl, ⟨nd, rfl⟩⟩; refine ⟨_, rfl, ?_⟩) | ((with_reducible refine gate_callee (f := 20) rfl ?_); refine goesL_ (some 10) rfl rfl Try.func20 (by kernel_rfl) rfl #[.int .i64 a0] rfl (by (try simp only [List.map_toArray, List.map_cons, List.map_nil]); first | done | rfl | (simp only [List.length_drop, List.length_take]; rfl)) ?_; (with_reducible refine (usufructref01_Of.calls a0 t172 _ A6.out).mono ?_); rintro e w' ⟨rfl, ⟨nd, rfl⟩⟩; refine ⟨_, rfl, ?_⟩) | (go_at_call 15; (with_reducible refine (tick_Of.calls a0 t173 _ A8.out).mono ?_); rintro e w52 ⟨rfl, hb⟩; have n0_ := Aside0.mk (below_step (by repeat (first | (with_reducible first | exact HB.out | apply below_alloc | apply pw_below_drewN | apply below_drew1) | exact HB.out)) hb); clear HB; have HB := n0_; clear n0_; (try clear hb); (try clear hb2); (try clear hk); (try clear hi)) | (go_at_call 20; (with_reducible refine (usufructref01_Of.calls a0 t174 _ A9.out).mono ?_); rintro e w' ⟨rfl, ⟨nd, rfl⟩⟩))
        go_ret
        exact ⟨by first | rfl | (simp only [E9.out]; done) | (simp only [E9.out]; rfl) | (simp [errW_none, errW_some] <;> rfl) | (simp [*, errW_none, errW_some] <;> rfl), by repeat (first | (with_reducible first | exact HB.out | apply below_alloc | apply pw_below_drewN | apply below_drew1) | exact HB.out)⟩
    · rw [if_neg c7] at H
      have c7b0 : (t171 == (t172 == a0)) = false := by simpa using c7
      (try (have c7b1 : decide (t171 = (t172 == a0)) = false := by simpa using c7))
      (try (have c7b2 : (t171 == (t172 == a0)) = false := by simpa using c7))
      (try (have c7b3 : ¬ (t171 = (t172 == a0)) := by simpa using c7))
      clear c7
      obtain rfl := Option.some.inj H
      go_enter Try.func6, Try.ntmps6
      go_wp2_with (first | ((with_reducible refine gate_callee (f := 12) rfl ?_); refine goesL_ (some 5) rfl rfl Try.func12 (by kernel_rfl) rfl #[] rfl (by (try simp only [List.map_toArray, List.map_cons, List.map_nil]); first | done | rfl | (simp only [List.length_drop, List.length_take]; rfl)) ?_; (with_reducible refine (usufructlaw01_awake.calls k  true _ A3.out).mono ?_); rintro e w53 ⟨rfl, hb⟩; refine ⟨_, rfl, ?_⟩; have n0_ := Aside0.mk (below_step (by repeat (first | (with_reducible first | exact HB.out | apply below_alloc | apply pw_below_drewN | apply below_drew1) | exact HB.out)) hb); clear HB; have HB := n0_; clear n0_; (try clear hb); (try clear hb2); (try clear hk); (try clear hi)) | ((with_reducible refine gate_callee (f := 18) rfl ?_); refine goesL_ (some 8) rfl rfl Try.func18 (by kernel_rfl) rfl #[.int .i64 a0] rfl (by (try simp only [List.map_toArray, List.map_cons, List.map_nil]); first | done | rfl | (simp only [List.length_drop, List.length_take]; rfl)) ?_; (with_reducible refine (tick_Good.calls a0 t171 _ A5.out).mono ?_); rintro e w' ⟨rfl, ⟨nd, rfl⟩⟩; refine ⟨_, rfl, ?_⟩) | ((with_reducible refine gate_callee (f := 20) rfl ?_); refine goesL_ (some 10) rfl rfl Try.func20 (by kernel_rfl) rfl #[.int .i64 a0] rfl (by (try simp only [List.map_toArray, List.map_cons, List.map_nil]); first | done | rfl | (simp only [List.length_drop, List.length_take]; rfl)) ?_; (with_reducible refine (usufructref01_Of.calls a0 t172 _ A6.out).mono ?_); rintro e w' ⟨rfl, ⟨nd, rfl⟩⟩; refine ⟨_, rfl, ?_⟩))
      go_ret
      exact ⟨by first | rfl | (simp [errW_none, errW_some] <;> rfl) | (simp [*, errW_none, errW_some] <;> rfl), by repeat (first | (with_reducible first | exact HB.out | apply below_alloc | apply pw_below_drewN | apply below_drew1) | exact HB.out)⟩
  · replace c4 := Bool.eq_false_iff.mpr c4
    subst c4
    have H1 : (some false) = some r := by rw [if_neg (show ¬ (false = true) by decide)] at H; exact H
    clear H
    have H := H1
    clear H1
    obtain rfl := Option.some.inj H
    go_enter Try.func6, Try.ntmps6
    go_wp2_with (first | ((with_reducible refine gate_callee (f := 12) rfl ?_); refine goesL_ (some 5) rfl rfl Try.func12 (by kernel_rfl) rfl #[] rfl (by (try simp only [List.map_toArray, List.map_cons, List.map_nil]); first | done | rfl | (simp only [List.length_drop, List.length_take]; rfl)) ?_; (with_reducible refine (usufructlaw01_awake.calls k  false _ A3.out).mono ?_); rintro e w54 ⟨rfl, hb⟩; refine ⟨_, rfl, ?_⟩; have n0_ := Aside0.mk (below_step (by repeat (first | (with_reducible first | exact HB.out | apply below_alloc | apply pw_below_drewN | apply below_drew1) | exact HB.out)) hb); clear HB; have HB := n0_; clear n0_; (try clear hb); (try clear hb2); (try clear hk); (try clear hi)))
    go_ret
    exact ⟨by first | rfl | (simp [errW_none, errW_some] <;> rfl) | (simp [*, errW_none, errW_some] <;> rfl), by repeat (first | (with_reducible first | exact HB.out | apply below_alloc | apply pw_below_drewN | apply below_drew1) | exact HB.out)⟩

/-- THE ONE PURE STATEMENT of usufructlaw01_TickSums: yours. -/
def usufructlaw01_TickSums.Pure : Prop := ∀ (a0 : Int) (a1 : Int), (Lit.int .i64 a0).wf = true → (Lit.int .i64 a1).wf = true → ∃ k, usufructlaw01_TickSums.f k a0 a1 = some true
theorem usufructlaw01_TickSums.walk (P : usufructlaw01_TickSums.Pure) (a0 : Int) (a1 : Int) (w : World) (w0 : (Lit.int .i64 a0).wf = true) (w1 : (Lit.int .i64 a1).wf = true) :
    Calls Try.prog 6 #[.int .i64 a0, .int .i64 a1] w fun e w' => e = .returned (.bool true) ∧ Below w.heap.size w w' := by
  obtain ⟨k, h⟩ := P a0 a1 w0 w1
  refine (usufructlaw01_TickSums.calls k a0 a1 true w h).mono ?_
  rintro e w' ⟨rfl, hd⟩
  exact ⟨rfl, hd⟩

-- NOT PRINTED: function 26 (breaker_New)

end Go.Proofs.Ytiohhfjocmibdaa.Q
