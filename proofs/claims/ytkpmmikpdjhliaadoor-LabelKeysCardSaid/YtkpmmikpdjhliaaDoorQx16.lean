-- written for this claim by a program of the session
import Derived.Test.YtkpmmikpdjhliaaDoorQx0
import Derived.Test.YtkpmmikpdjhliaaDoorQx11
import Derived.Test.YtkpmmikpdjhliaaDoorQx14
namespace Go.Proofs.YtkpmmikpdjhliaaDoor.Q
open Go.RowKit Go.Proofs.YtkpmmikpdjhliaaDoorW.PrintWords Go.Proofs.YtkpmmikpdjhliaaDoorW.PrintLast Go.Proofs.YtkpmmikpdjhliaaDoorW.PrintMore
attribute [local go_sem] max2_int min2_int max_two min_two max_three min_three max_four min_four   -- for this text's walks alone
set_option linter.unusedVariables false
set_option linter.unusedSimpArgs false

/-! ### usufructref02_Mask: function 13 -/
mutual
def usufructref02_Mask.l0 : Nat → ByteArray → ByteArray → Int → Option (ByteArray)
  | 0, _, _, _ => none
  | k + 1, x0, x3, x4 => if x4 < (x0.size : Int) then ((usufructref02_At.f k x0 x4).bind fun bt164 => (if bt164.2 = 0 then (usufructref02_Mask.j1 k x0 x3 x4 bt164.2 true) else ((usufructref02_may.f bt164.1).bind fun t166 => (usufructref02_Mask.j1 k x0 x3 x4 bt164.2 (!t166))))) else (some x3)
def usufructref02_Mask.j1 : Nat → ByteArray → ByteArray → Int → Int → Bool → Option (ByteArray)
  | 0, _, _, _, _, _ => none
  | k + 1, x0, x3, x4, x6, x23 => if x23 = true then (if x3.size + 1 ≤ 9223372036854775807 then (if x6 = 0 then (usufructref02_Mask.l0 k x0 (x3 ++ (⟨#[95]⟩ : ByteArray)) (wrap64 (x4 + 1))) else (usufructref02_Mask.l0 k x0 (x3 ++ (⟨#[95]⟩ : ByteArray)) (wrap64 (x4 + x6)))) else (none)) else (if 0 ≤ x4 then (if x4 ≤ (wrap64 (x4 + x6)) then (if (wrap64 (x4 + x6)) ≤ (x0.size : Int) then (if x3.size + (x0.extract (x4 : Int).toNat ((wrap64 (x4 + x6)) : Int).toNat).size ≤ 9223372036854775807 then (if x6 = 0 then (usufructref02_Mask.l0 k x0 (x3 ++ (x0.extract (x4 : Int).toNat ((wrap64 (x4 + x6)) : Int).toNat)) (wrap64 (x4 + 1))) else (usufructref02_Mask.l0 k x0 (x3 ++ (x0.extract (x4 : Int).toNat ((wrap64 (x4 + x6)) : Int).toNat)) (wrap64 (x4 + x6)))) else (none)) else (none)) else (none)) else (none))
end
def usufructref02_Mask.f (k : Nat) (a0 : ByteArray) : Option (ByteArray) := usufructref02_Mask.l0 k a0 (⟨#[]⟩ : ByteArray) 0
theorem usufructref02_Mask.mono_l : ∀ k, (∀ y0 y1 y2, LeO (usufructref02_Mask.l0 k y0 y1 y2) (usufructref02_Mask.l0 (k + 1) y0 y1 y2)) ∧ (∀ y0 y1 y2 y3 y4, LeO (usufructref02_Mask.j1 k y0 y1 y2 y3 y4) (usufructref02_Mask.j1 (k + 1) y0 y1 y2 y3 y4))
  | 0 => ⟨fun _ _ _ r h => by simp [usufructref02_Mask.l0] at h, fun _ _ _ _ _ r h => by simp [usufructref02_Mask.j1] at h⟩
  | k + 1 => by
    obtain ⟨ih0, ih1⟩ := usufructref02_Mask.mono_l k
    refine ⟨?_, ?_⟩
    · intro y0 y1 y2
      unfold usufructref02_Mask.l0
      repeat' first
      | (with_reducible exact ih0 _ _ _)
      | (with_reducible exact ih1 _ _ _ _ _)
      | (with_reducible exact usufructref02_At.mono _ _ _)
      | (with_reducible exact LeO.refl _)
      | (with_reducible exact LeO.none _)
      | (with_reducible refine LeO.ite ?_ ?_)
      | (with_reducible refine LeO.bind ?_ (fun _ => ?_))
      | exact ih0 _ _ _
      | exact ih1 _ _ _ _ _
      | exact usufructref02_At.mono _ _ _
      | exact LeO.none _
      | refine LeO.ite ?_ ?_
      | refine LeO.bind ?_ (fun _ => ?_)
    · intro y0 y1 y2 y3 y4
      unfold usufructref02_Mask.j1
      repeat' first
      | (with_reducible exact ih0 _ _ _)
      | (with_reducible exact ih1 _ _ _ _ _)
      | (with_reducible exact usufructref02_At.mono _ _ _)
      | (with_reducible exact LeO.refl _)
      | (with_reducible exact LeO.none _)
      | (with_reducible refine LeO.ite ?_ ?_)
      | (with_reducible refine LeO.bind ?_ (fun _ => ?_))
      | exact ih0 _ _ _
      | exact ih1 _ _ _ _ _
      | exact usufructref02_At.mono _ _ _
      | exact LeO.none _
      | refine LeO.ite ?_ ?_
      | refine LeO.bind ?_ (fun _ => ?_)
theorem usufructref02_Mask.mono : ∀ a0 k, LeO (usufructref02_Mask.f k a0) (usufructref02_Mask.f (k + 1) a0) := by
  intro a0 k
  obtain ⟨ih0, ih1⟩ := usufructref02_Mask.mono_l k
  unfold usufructref02_Mask.f
  repeat' first
      | (with_reducible exact ih0 _ _ _)
      | (with_reducible exact ih1 _ _ _ _ _)
      | (with_reducible exact usufructref02_At.mono _ _ _)
      | (with_reducible exact LeO.refl _)
      | (with_reducible exact LeO.none _)
      | (with_reducible refine LeO.ite ?_ ?_)
      | (with_reducible refine LeO.bind ?_ (fun _ => ?_))
      | exact ih0 _ _ _
      | exact ih1 _ _ _ _ _
      | exact usufructref02_At.mono _ _ _
      | exact LeO.none _
      | refine LeO.ite ?_ ?_
      | refine LeO.bind ?_ (fun _ => ?_)
set_option maxHeartbeats 8000000 in
set_option maxRecDepth 100000 in
theorem usufructref02_Mask.calls (k : Nat) (a0 : ByteArray) (r : ByteArray) (w : World) (h : usufructref02_Mask.f k a0 = some r) :
    Calls Tryd.prog 13 #[.string a0] w fun e w' => e = .returned (.string r) ∧ Drawn0 w w' := by
  have H : (usufructref02_Mask.l0 k a0 (⟨#[]⟩ : ByteArray) 0) = some r := h
  clear h
  have H' := Aside0.mk H
  clear H
  go_enter Tryd.func13, Tryd.ntmps13
  go_wp2
  go_loopg [3, 4] k (fun kq v3 v4 w' => ∃ (x3_1 : ByteArray) (x4_1 : Int), v3 = .string x3_1 ∧ v4 = .int .i64 x4_1 ∧ Aside0 (usufructref02_Mask.l0 kq a0 x3_1 x4_1 = some r) ∧ Aside0 (kq ≤ k) ∧ Drawn0 w w')
  case atStart => exact ⟨((⟨#[]⟩ : ByteArray)), (0), (by first | rfl | (simp; done) | (simp [*]; done)), (by first | rfl | (simp; done) | (simp [*]; done)), H', ⟨Nat.le_refl _⟩, by repeat (first | exact Drawn0.refl _ | apply Drawn0.step)⟩
  case round =>
    clear H'
    try clear c1
    obtain ⟨x3_1, x4_1, rfl, rfl, HA, HK1, ⟨m1, rfl⟩⟩ := hrel
    cases gk with
    | zero => exact absurd HA.out (by simp [usufructref02_Mask.l0])
    | succ k1 =>
      have H := HA.out
      clear HA
      simp only [usufructref02_Mask.l0] at H
      by_cases c2 : x4_1 < (a0.size : Int)
      · rw [if_pos c2] at H
        have c2b0 : decide (x4_1 < (a0.size : Int)) = true := decide_eq_true c2
        clear c2
        replace H := Option.bind_eq_some_iff.mp H
        obtain ⟨⟨t164, t165⟩, A30, H⟩ := H
        replace H : (if t165 = 0 then (usufructref02_Mask.j1 k1 a0 x3_1 x4_1 t165 true) else ((usufructref02_may.f t164).bind fun t166 => (usufructref02_Mask.j1 k1 a0 x3_1 x4_1 t165 (!t166)))) = some r := H
        have A3 := Aside0.mk A30
        clear A30
        have HC4 := Aside0.mk H
        clear H
        go_upto_region 5 with (first | ((with_reducible refine gate_callee (f := 21) rfl ?_); refine goesL_ (some 14) rfl rfl Tryd.func21 (by kernel_rfl) rfl #[.string a0, .int .i64 x4_1] rfl (by (try simp only [List.map_toArray, List.map_cons, List.map_nil]); first | done | rfl | (simp only [List.length_drop, List.length_take]; rfl)) ?_; (with_reducible refine (usufructref02_At.calls k1 a0 x4_1 t164 t165 _ A3.out).mono ?_); rintro e w' ⟨rfl, ⟨nd, rfl⟩⟩; refine ⟨_, rfl, ?_⟩))
        (try simp only [Act.put, List.setIfInBounds_toArray, List.set_cons_zero, List.set_cons_succ])
        go_cut [23] (fun v23 wc => ∃ (kq : Nat) (x23_3 : Bool), v23 = .bool x23_3 ∧ Aside0 (usufructref02_Mask.j1 kq a0 x3_1 x4_1 t165 x23_3 = some r) ∧ Aside0 (kq ≤ k1) ∧ Drawn0 w wc)
        case first =>
          have H := HC4.out
          clear HC4
          by_cases c5 : t165 = 0
          · rw [if_pos c5] at H
            have c5b0 : (t165 == 0) = true := beq_iff_eq.mpr c5
            have c5b1 : (t165 != 0) = false := bne_eq_false_iff_eq.mpr c5
            clear c5
            (first | rw [c5b0] | (simp only [i64_w, i32_w]; rw [c5b0]) | skip)
            have H' := Aside0.mk H
            clear H
            go_wp2
            go_meet
            case rel => exact ⟨_, (true), (by first | rfl | (simp; done) | (simp [*]; done)), H', ⟨by have := HK1.out; first | omega | exact Nat.le_refl _⟩, by repeat (first | exact Drawn0.refl _ | apply Drawn0.step)⟩
          · rw [if_neg c5] at H
            have c5b0 : (t165 == 0) = false := beq_eq_false_iff_ne.mpr c5
            have c5b1 : (t165 != 0) = true := bne_iff_ne.mpr c5
            (first | rw [c5b0] | (simp only [i64_w, i32_w]; rw [c5b0]) | skip)
            replace H := Option.bind_eq_some_iff.mp H
            obtain ⟨t166, A60, H⟩ := H
            replace H : (usufructref02_Mask.j1 k1 a0 x3_1 x4_1 t165 (!t166)) = some r := H
            have A6 := Aside0.mk A60
            clear A60
            have H' := Aside0.mk H
            clear H
            go_wp2_with (first | (go_at_call 22; (with_reducible refine (usufructref02_may.calls t164 t166 _ A6.out).mono ?_); rintro e w' ⟨rfl, ⟨nd, rfl⟩⟩))
            go_meet
            case rel => exact ⟨_, (!t166), (by first | rfl | (simp; done) | (simp [*]; done)), H', ⟨by have := HK1.out; first | omega | exact Nat.le_refl _⟩, by repeat (first | exact Drawn0.refl _ | apply Drawn0.step)⟩
        case rest =>
          clear HC4
          try clear c1
          try clear c2
          try clear c2b0
          try clear p2
          try clear c5
          try clear c5b0
          try clear c5b1
          obtain ⟨kq, x23_3, rfl, HA, HJ3, ⟨mc3, rfl⟩⟩ := hcut
          cases kq with
          | zero => exact absurd HA.out (by simp [usufructref02_Mask.j1])
          | succ kj3 =>
            have H := HA.out
            clear HA
            simp only [usufructref02_Mask.j1] at H
            by_cases c7 : x23_3 = true
            · subst c7
              have H1 : (if x3_1.size + 1 ≤ 9223372036854775807 then (if t165 = 0 then (usufructref02_Mask.l0 kj3 a0 (x3_1 ++ (⟨#[95]⟩ : ByteArray)) (wrap64 (x4_1 + 1))) else (usufructref02_Mask.l0 kj3 a0 (x3_1 ++ (⟨#[95]⟩ : ByteArray)) (wrap64 (x4_1 + t165)))) else (none)) = some r := by rw [if_pos rfl] at H; exact H
              clear H
              have H := H1
              clear H1
              by_cases c8 : x3_1.size + 1 ≤ 9223372036854775807
              · rw [if_pos c8] at H
                have c8b0 := eq_true c8
                have c8b1 : decide (x3_1.size + 1 ≤ 9223372036854775807) = true := decide_eq_true c8
                try have c8b2 : (9223372036854775807 < x3_1.size + 1) = False := eq_false (Nat.not_lt.2 c8)
                by_cases c9 : t165 = 0
                · rw [if_pos c9] at H
                  have c9b0 : (t165 == 0) = true := beq_iff_eq.mpr c9
                  have c9b1 : (t165 != 0) = false := bne_eq_false_iff_eq.mpr c9
                  clear c9
                  have H' := Aside0.mk H
                  clear H
                  go_wp2
                  go_roundg kj3
                  case measure => have := HK1.out; have := HJ3.out; omega
                  case rel => exact ⟨(x3_1 ++ (⟨#[95]⟩ : ByteArray)), (wrap64 (x4_1 + 1)), (by first | rfl | (simp; done) | (simp [*]; done)), (by first | rfl | (simp; done) | (simp [*]; done)), H', ⟨by have := HK1.out; have := HJ3.out; omega⟩, by repeat (first | exact Drawn0.refl _ | apply Drawn0.step)⟩
                · rw [if_neg c9] at H
                  have c9b0 : (t165 == 0) = false := beq_eq_false_iff_ne.mpr c9
                  have c9b1 : (t165 != 0) = true := bne_iff_ne.mpr c9
                  have H' := Aside0.mk H
                  clear H
                  go_wp2
                  go_roundg kj3
                  case measure => have := HK1.out; have := HJ3.out; omega
                  case rel => exact ⟨(x3_1 ++ (⟨#[95]⟩ : ByteArray)), (wrap64 (x4_1 + t165)), (by first | rfl | (simp; done) | (simp [*]; done)), (by first | rfl | (simp; done) | (simp [*]; done)), H', ⟨by have := HK1.out; have := HJ3.out; omega⟩, by repeat (first | exact Drawn0.refl _ | apply Drawn0.step)⟩
              · rw [if_neg c8] at H
                exact absurd H (by simp)
            · replace c7 := Bool.eq_false_iff.mpr c7
              subst c7
              have H1 : (if 0 ≤ x4_1 then (if x4_1 ≤ (wrap64 (x4_1 + t165)) then (if (wrap64 (x4_1 + t165)) ≤ (a0.size : Int) then (if x3_1.size + (a0.extract (x4_1 : Int).toNat ((wrap64 (x4_1 + t165)) : Int).toNat).size ≤ 9223372036854775807 then (if t165 = 0 then (usufructref02_Mask.l0 kj3 a0 (x3_1 ++ (a0.extract (x4_1 : Int).toNat ((wrap64 (x4_1 + t165)) : Int).toNat)) (wrap64 (x4_1 + 1))) else (usufructref02_Mask.l0 kj3 a0 (x3_1 ++ (a0.extract (x4_1 : Int).toNat ((wrap64 (x4_1 + t165)) : Int).toNat)) (wrap64 (x4_1 + t165)))) else (none)) else (none)) else (none)) else (none)) = some r := by rw [if_neg (show ¬ (false = true) by decide)] at H; exact H
              clear H
              have H := H1
              clear H1
              by_cases c10 : 0 ≤ x4_1
              · rw [if_pos c10] at H
                have c10b0 := eq_true c10
                have c10b1 : decide (0 ≤ x4_1) = true := decide_eq_true c10
                clear c10
                by_cases c11 : x4_1 ≤ (wrap64 (x4_1 + t165))
                · rw [if_pos c11] at H
                  have c11b0 := eq_true c11
                  have c11b1 : decide (x4_1 ≤ (wrap64 (x4_1 + t165))) = true := decide_eq_true c11
                  by_cases c12 : (wrap64 (x4_1 + t165)) ≤ (a0.size : Int)
                  · rw [if_pos c12] at H
                    have c12b0 := eq_true c12
                    have c12b1 : decide ((wrap64 (x4_1 + t165)) ≤ (a0.size : Int)) = true := decide_eq_true c12
                    by_cases c13 : x3_1.size + (a0.extract (x4_1 : Int).toNat ((wrap64 (x4_1 + t165)) : Int).toNat).size ≤ 9223372036854775807
                    · rw [if_pos c13] at H
                      have c13b0 := eq_true c13
                      have c13b1 : decide (x3_1.size + (a0.extract (x4_1 : Int).toNat ((wrap64 (x4_1 + t165)) : Int).toNat).size ≤ 9223372036854775807) = true := decide_eq_true c13
                      try have c13b2 : (9223372036854775807 < x3_1.size + (a0.extract (x4_1 : Int).toNat ((wrap64 (x4_1 + t165)) : Int).toNat).size) = False := eq_false (Nat.not_lt.2 c13)
                      by_cases c14 : t165 = 0
                      · rw [if_pos c14] at H
                        have c14b0 : (t165 == 0) = true := beq_iff_eq.mpr c14
                        have c14b1 : (t165 != 0) = false := bne_eq_false_iff_eq.mpr c14
                        clear c14
                        have H' := Aside0.mk H
                        clear H
                        go_wp2
                        go_roundg kj3
                        case measure => have := HK1.out; have := HJ3.out; omega
                        case rel => exact ⟨(x3_1 ++ (a0.extract (x4_1 : Int).toNat ((wrap64 (x4_1 + t165)) : Int).toNat)), (wrap64 (x4_1 + 1)), (by first | rfl | (simp; done) | (simp [*]; done)), (by first | rfl | (simp; done) | (simp [*]; done)), H', ⟨by have := HK1.out; have := HJ3.out; omega⟩, by repeat (first | exact Drawn0.refl _ | apply Drawn0.step)⟩
                      · rw [if_neg c14] at H
                        have c14b0 : (t165 == 0) = false := beq_eq_false_iff_ne.mpr c14
                        have c14b1 : (t165 != 0) = true := bne_iff_ne.mpr c14
                        have H' := Aside0.mk H
                        clear H
                        go_wp2
                        go_roundg kj3
                        case measure => have := HK1.out; have := HJ3.out; omega
                        case rel => exact ⟨(x3_1 ++ (a0.extract (x4_1 : Int).toNat ((wrap64 (x4_1 + t165)) : Int).toNat)), (wrap64 (x4_1 + t165)), (by first | rfl | (simp; done) | (simp [*]; done)), (by first | rfl | (simp; done) | (simp [*]; done)), H', ⟨by have := HK1.out; have := HJ3.out; omega⟩, by repeat (first | exact Drawn0.refl _ | apply Drawn0.step)⟩
                    · rw [if_neg c13] at H
                      exact absurd H (by simp)
                  · rw [if_neg c12] at H
                    exact absurd H (by simp)
                · rw [if_neg c11] at H
                  exact absurd H (by simp)
              · rw [if_neg c10] at H
                exact absurd H (by simp)
      · rw [if_neg c2] at H
        have c2b0 : decide (x4_1 < (a0.size : Int)) = false := decide_eq_false c2
        clear c2
        obtain rfl := Option.some.inj H
        go_wp2
        go_ret
        exact ⟨by first | rfl | (simp; done) | (simp [*]; done), by repeat (first | exact Drawn0.refl _ | apply Drawn0.step)⟩

end Go.Proofs.YtkpmmikpdjhliaaDoor.Q
