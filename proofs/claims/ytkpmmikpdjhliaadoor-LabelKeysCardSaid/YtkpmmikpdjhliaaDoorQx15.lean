-- written for this claim by a program of the session
import Derived.Test.YtkpmmikpdjhliaaDoorQx0
import Derived.Test.YtkpmmikpdjhliaaDoorQx11
import Derived.Test.YtkpmmikpdjhliaaDoorQx12
import Derived.Test.YtkpmmikpdjhliaaDoorQx13
import Derived.Test.YtkpmmikpdjhliaaDoorQx14
namespace Go.Proofs.YtkpmmikpdjhliaaDoor.Q
open Go.RowKit Go.Proofs.YtkpmmikpdjhliaaDoorW.PrintWords Go.Proofs.YtkpmmikpdjhliaaDoorW.PrintLast Go.Proofs.YtkpmmikpdjhliaaDoorW.PrintMore
attribute [local go_sem] max2_int min2_int max_two min_two max_three min_three max_four min_four   -- for this text's walks alone
set_option linter.unusedVariables false
set_option linter.unusedSimpArgs false

/-! ### usufructref02_Good: function 9 -/
def usufructref02_Good.l0 : Nat → ByteArray → Int → Option (Bool)
  | 0, _, _ => none
  | k + 1, x0, x3 => if x3 < (x0.size : Int) then ((usufructref02_At.f k x0 x3).bind fun bt160 => (if bt160.2 = 0 then (some false) else ((usufructref02_may.f bt160.1).bind fun t162 => (if t162 = true then (if x3 = 0 then ((usufructref02_letter.f bt160.1).bind fun t163 => (if t163 = true then (usufructref02_Good.l0 k x0 (wrap64 (x3 + bt160.2))) else (some false))) else (usufructref02_Good.l0 k x0 (wrap64 (x3 + bt160.2)))) else (some false))))) else (if x0.toList = ([] : List UInt8) then (some false) else ((usufructref02_Runes.f k x0).bind fun t159 => (some (decide (t159 ≤ 64)))))
def usufructref02_Good.f (k : Nat) (a0 : ByteArray) : Option (Bool) := usufructref02_Good.l0 k a0 0
theorem usufructref02_Good.mono_l : ∀ k, (∀ y0 y1, LeO (usufructref02_Good.l0 k y0 y1) (usufructref02_Good.l0 (k + 1) y0 y1))
  | 0 => fun _ _ r h => by simp [usufructref02_Good.l0] at h
  | k + 1 => by
    have ih0 := usufructref02_Good.mono_l k
    · intro y0 y1
      unfold usufructref02_Good.l0
      repeat' first
      | (with_reducible exact ih0 _ _)
      | (with_reducible exact usufructref02_At.mono _ _ _)
      | (with_reducible exact usufructref02_Runes.mono _ _)
      | (with_reducible exact LeO.refl _)
      | (with_reducible exact LeO.none _)
      | (with_reducible refine LeO.ite ?_ ?_)
      | (with_reducible refine LeO.bind ?_ (fun _ => ?_))
      | exact ih0 _ _
      | exact usufructref02_At.mono _ _ _
      | exact usufructref02_Runes.mono _ _
      | exact LeO.none _
      | refine LeO.ite ?_ ?_
      | refine LeO.bind ?_ (fun _ => ?_)
theorem usufructref02_Good.mono : ∀ a0 k, LeO (usufructref02_Good.f k a0) (usufructref02_Good.f (k + 1) a0) := by
  intro a0 k
  have ih0 := usufructref02_Good.mono_l k
  unfold usufructref02_Good.f
  repeat' first
      | (with_reducible exact ih0 _ _)
      | (with_reducible exact usufructref02_At.mono _ _ _)
      | (with_reducible exact usufructref02_Runes.mono _ _)
      | (with_reducible exact LeO.refl _)
      | (with_reducible exact LeO.none _)
      | (with_reducible refine LeO.ite ?_ ?_)
      | (with_reducible refine LeO.bind ?_ (fun _ => ?_))
      | exact ih0 _ _
      | exact usufructref02_At.mono _ _ _
      | exact usufructref02_Runes.mono _ _
      | exact LeO.none _
      | refine LeO.ite ?_ ?_
      | refine LeO.bind ?_ (fun _ => ?_)
set_option maxHeartbeats 8000000 in
set_option maxRecDepth 100000 in
theorem usufructref02_Good.calls (k : Nat) (a0 : ByteArray) (r : Bool) (w : World) (h : usufructref02_Good.f k a0 = some r) :
    Calls Tryd.prog 9 #[.string a0] w fun e w' => e = .returned (.bool r) ∧ Drawn0 w w' := by
  have H : (usufructref02_Good.l0 k a0 0) = some r := h
  clear h
  have H' := Aside0.mk H
  clear H
  go_enter Tryd.func9, Tryd.ntmps9
  go_wp2
  go_loopg [3] k (fun kq v3 w' => ∃ (x3_1 : Int), v3 = .int .i64 x3_1 ∧ Aside0 (usufructref02_Good.l0 kq a0 x3_1 = some r) ∧ Aside0 (kq ≤ k) ∧ Drawn0 w w')
  case atStart => exact ⟨(0), (by first | rfl | (simp; done) | (simp [*]; done)), H', ⟨Nat.le_refl _⟩, by repeat (first | exact Drawn0.refl _ | apply Drawn0.step)⟩
  case round =>
    clear H'
    obtain ⟨x3_1, rfl, HA, HK1, ⟨m1, rfl⟩⟩ := hrel
    cases gk with
    | zero => exact absurd HA.out (by simp [usufructref02_Good.l0])
    | succ k1 =>
      have H := HA.out
      clear HA
      simp only [usufructref02_Good.l0] at H
      by_cases c2 : x3_1 < (a0.size : Int)
      · rw [if_pos c2] at H
        have c2b0 : decide (x3_1 < (a0.size : Int)) = true := decide_eq_true c2
        clear c2
        replace H := Option.bind_eq_some_iff.mp H
        obtain ⟨⟨t160, t161⟩, A30, H⟩ := H
        replace H : (if t161 = 0 then (some false) else ((usufructref02_may.f t160).bind fun t162 => (if t162 = true then (if x3_1 = 0 then ((usufructref02_letter.f t160).bind fun t163 => (if t163 = true then (usufructref02_Good.l0 k1 a0 (wrap64 (x3_1 + t161))) else (some false))) else (usufructref02_Good.l0 k1 a0 (wrap64 (x3_1 + t161)))) else (some false)))) = some r := H
        have A3 := Aside0.mk A30
        clear A30
        by_cases c4 : t161 = 0
        · rw [if_pos c4] at H
          have c4b0 : (t161 == 0) = true := beq_iff_eq.mpr c4
          have c4b1 : (t161 != 0) = false := bne_eq_false_iff_eq.mpr c4
          clear c4
          obtain rfl := Option.some.inj H
          go_wp2_with (first | ((with_reducible refine gate_callee (f := 21) rfl ?_); refine goesL_ (some 13) rfl rfl Tryd.func21 (by kernel_rfl) rfl #[.string a0, .int .i64 x3_1] rfl (by (try simp only [List.map_toArray, List.map_cons, List.map_nil]); first | done | rfl | (simp only [List.length_drop, List.length_take]; rfl)) ?_; (with_reducible refine (usufructref02_At.calls k1 a0 x3_1 t160 t161 _ A3.out).mono ?_); rintro e w' ⟨rfl, ⟨nd, rfl⟩⟩; refine ⟨_, rfl, ?_⟩))
          go_ret
          exact ⟨by first | rfl | (simp; done) | (simp [*]; done), by repeat (first | exact Drawn0.refl _ | apply Drawn0.step)⟩
        · rw [if_neg c4] at H
          have c4b0 : (t161 == 0) = false := beq_eq_false_iff_ne.mpr c4
          have c4b1 : (t161 != 0) = true := bne_iff_ne.mpr c4
          replace H := Option.bind_eq_some_iff.mp H
          obtain ⟨t162, A50, H⟩ := H
          replace H : (if t162 = true then (if x3_1 = 0 then ((usufructref02_letter.f t160).bind fun t163 => (if t163 = true then (usufructref02_Good.l0 k1 a0 (wrap64 (x3_1 + t161))) else (some false))) else (usufructref02_Good.l0 k1 a0 (wrap64 (x3_1 + t161)))) else (some false)) = some r := H
          have A5 := Aside0.mk A50
          clear A50
          by_cases c6 : t162 = true
          · subst c6
            have H1 : (if x3_1 = 0 then ((usufructref02_letter.f t160).bind fun t163 => (if t163 = true then (usufructref02_Good.l0 k1 a0 (wrap64 (x3_1 + t161))) else (some false))) else (usufructref02_Good.l0 k1 a0 (wrap64 (x3_1 + t161)))) = some r := by rw [if_pos rfl] at H; exact H
            clear H
            have H := H1
            clear H1
            by_cases c7 : x3_1 = 0
            · rw [if_pos c7] at H
              have c7b0 : (x3_1 == 0) = true := beq_iff_eq.mpr c7
              have c7b1 : (x3_1 != 0) = false := bne_eq_false_iff_eq.mpr c7
              clear c7
              replace H := Option.bind_eq_some_iff.mp H
              obtain ⟨t163, A80, H⟩ := H
              replace H : (if t163 = true then (usufructref02_Good.l0 k1 a0 (wrap64 (x3_1 + t161))) else (some false)) = some r := H
              have A8 := Aside0.mk A80
              clear A80
              by_cases c9 : t163 = true
              · subst c9
                have H1 : (usufructref02_Good.l0 k1 a0 (wrap64 (x3_1 + t161))) = some r := by rw [if_pos rfl] at H; exact H
                clear H
                have H := H1
                clear H1
                have H' := Aside0.mk H
                clear H
                go_wp2_with (first | ((with_reducible refine gate_callee (f := 21) rfl ?_); refine goesL_ (some 13) rfl rfl Tryd.func21 (by kernel_rfl) rfl #[.string a0, .int .i64 x3_1] rfl (by (try simp only [List.map_toArray, List.map_cons, List.map_nil]); first | done | rfl | (simp only [List.length_drop, List.length_take]; rfl)) ?_; (with_reducible refine (usufructref02_At.calls k1 a0 x3_1 t160 t161 _ A3.out).mono ?_); rintro e w' ⟨rfl, ⟨nd, rfl⟩⟩; refine ⟨_, rfl, ?_⟩) | (go_at_call 22; (with_reducible refine (usufructref02_may.calls t160 true _ A5.out).mono ?_); rintro e w' ⟨rfl, ⟨nd, rfl⟩⟩) | (go_at_call 23; (with_reducible refine (usufructref02_letter.calls t160 true _ A8.out).mono ?_); rintro e w' ⟨rfl, ⟨nd, rfl⟩⟩))
                go_roundg k1
                case measure => have := HK1.out; omega
                case rel => exact ⟨(wrap64 (x3_1 + t161)), (by first | rfl | (simp; done) | (simp [*]; done)), H', ⟨by have := HK1.out; omega⟩, by repeat (first | exact Drawn0.refl _ | apply Drawn0.step)⟩
              · replace c9 := Bool.eq_false_iff.mpr c9
                subst c9
                have H1 : (some false) = some r := by rw [if_neg (show ¬ (false = true) by decide)] at H; exact H
                clear H
                have H := H1
                clear H1
                obtain rfl := Option.some.inj H
                go_wp2_with (first | ((with_reducible refine gate_callee (f := 21) rfl ?_); refine goesL_ (some 13) rfl rfl Tryd.func21 (by kernel_rfl) rfl #[.string a0, .int .i64 x3_1] rfl (by (try simp only [List.map_toArray, List.map_cons, List.map_nil]); first | done | rfl | (simp only [List.length_drop, List.length_take]; rfl)) ?_; (with_reducible refine (usufructref02_At.calls k1 a0 x3_1 t160 t161 _ A3.out).mono ?_); rintro e w' ⟨rfl, ⟨nd, rfl⟩⟩; refine ⟨_, rfl, ?_⟩) | (go_at_call 22; (with_reducible refine (usufructref02_may.calls t160 true _ A5.out).mono ?_); rintro e w' ⟨rfl, ⟨nd, rfl⟩⟩) | (go_at_call 23; (with_reducible refine (usufructref02_letter.calls t160 false _ A8.out).mono ?_); rintro e w' ⟨rfl, ⟨nd, rfl⟩⟩))
                go_ret
                exact ⟨by first | rfl | (simp; done) | (simp [*]; done), by repeat (first | exact Drawn0.refl _ | apply Drawn0.step)⟩
            · rw [if_neg c7] at H
              have c7b0 : (x3_1 == 0) = false := beq_eq_false_iff_ne.mpr c7
              have c7b1 : (x3_1 != 0) = true := bne_iff_ne.mpr c7
              have H' := Aside0.mk H
              clear H
              go_wp2_with (first | ((with_reducible refine gate_callee (f := 21) rfl ?_); refine goesL_ (some 13) rfl rfl Tryd.func21 (by kernel_rfl) rfl #[.string a0, .int .i64 x3_1] rfl (by (try simp only [List.map_toArray, List.map_cons, List.map_nil]); first | done | rfl | (simp only [List.length_drop, List.length_take]; rfl)) ?_; (with_reducible refine (usufructref02_At.calls k1 a0 x3_1 t160 t161 _ A3.out).mono ?_); rintro e w' ⟨rfl, ⟨nd, rfl⟩⟩; refine ⟨_, rfl, ?_⟩) | (go_at_call 22; (with_reducible refine (usufructref02_may.calls t160 true _ A5.out).mono ?_); rintro e w' ⟨rfl, ⟨nd, rfl⟩⟩))
              go_roundg k1
              case measure => have := HK1.out; omega
              case rel => exact ⟨(wrap64 (x3_1 + t161)), (by first | rfl | (simp; done) | (simp [*]; done)), H', ⟨by have := HK1.out; omega⟩, by repeat (first | exact Drawn0.refl _ | apply Drawn0.step)⟩
          · replace c6 := Bool.eq_false_iff.mpr c6
            subst c6
            have H1 : (some false) = some r := by rw [if_neg (show ¬ (false = true) by decide)] at H; exact H
            clear H
            have H := H1
            clear H1
            obtain rfl := Option.some.inj H
            go_wp2_with (first | ((with_reducible refine gate_callee (f := 21) rfl ?_); refine goesL_ (some 13) rfl rfl Tryd.func21 (by kernel_rfl) rfl #[.string a0, .int .i64 x3_1] rfl (by (try simp only [List.map_toArray, List.map_cons, List.map_nil]); first | done | rfl | (simp only [List.length_drop, List.length_take]; rfl)) ?_; (with_reducible refine (usufructref02_At.calls k1 a0 x3_1 t160 t161 _ A3.out).mono ?_); rintro e w' ⟨rfl, ⟨nd, rfl⟩⟩; refine ⟨_, rfl, ?_⟩) | (go_at_call 22; (with_reducible refine (usufructref02_may.calls t160 false _ A5.out).mono ?_); rintro e w' ⟨rfl, ⟨nd, rfl⟩⟩))
            go_ret
            exact ⟨by first | rfl | (simp; done) | (simp [*]; done), by repeat (first | exact Drawn0.refl _ | apply Drawn0.step)⟩
      · rw [if_neg c2] at H
        have c2b0 : decide (x3_1 < (a0.size : Int)) = false := decide_eq_false c2
        clear c2
        by_cases c10 : a0.toList = ([] : List UInt8)
        · rw [if_pos c10] at H
          have c10b0 : (a0.toList == ([] : List UInt8)) = true := beq_iff_eq.mpr c10
          have c10b1 : (a0.toList != ([] : List UInt8)) = false := bne_eq_false_iff_eq.mpr c10
          clear c10
          obtain rfl := Option.some.inj H
          go_wp2
          go_ret
          exact ⟨by first | rfl | (simp; done) | (simp [*]; done), by repeat (first | exact Drawn0.refl _ | apply Drawn0.step)⟩
        · rw [if_neg c10] at H
          have c10b0 : (a0.toList == ([] : List UInt8)) = false := beq_eq_false_iff_ne.mpr c10
          have c10b1 : (a0.toList != ([] : List UInt8)) = true := bne_iff_ne.mpr c10
          replace H := Option.bind_eq_some_iff.mp H
          obtain ⟨t159, A110, H⟩ := H
          replace H : (some (decide (t159 ≤ 64))) = some r := H
          have A11 := Aside0.mk A110
          clear A110
          obtain rfl := Option.some.inj H
          go_wp2_with (first | (go_at_call 11; (with_reducible refine (usufructref02_Runes.calls k1 a0 t159 _ A11.out).mono ?_); rintro e w' ⟨rfl, ⟨nd, rfl⟩⟩))
          go_ret
          exact ⟨by first | rfl | (simp; done) | (simp [*]; done), by repeat (first | exact Drawn0.refl _ | apply Drawn0.step)⟩

end Go.Proofs.YtkpmmikpdjhliaaDoor.Q
