-- written for this claim by a program of the session
import Derived.Test.YtcgpbakimkhdpaaQx0
import Derived.Test.YtcgpbakimkhdpaaGPutSaga
namespace Go.Proofs.Ytcgpbakimkhdpaa.Q
open Go.RowKit Go.Proofs.YtcgpbakimkhdpaaW.PrintWords Go.Proofs.YtcgpbakimkhdpaaW.PrintLast Go.Proofs.YtcgpbakimkhdpaaW.PrintMore
attribute [local go_sem] max2_int min2_int max_two min_two max_three min_three max_four min_four   -- for this text's walks alone
set_option linter.unusedVariables false
set_option linter.unusedSimpArgs false

-- NOT PRINTED: function 11 (code_writer_nums)

-- told by hand: function 5 (code_PutSaga)

/-! ### usufructlaw15_awake: function 4 -/
def usufructlaw15_awake.l0 : Nat → List Int → Int → Option (Bool)
  | 0, _, _ => none
  | k + 1, x1, x2 => if x2 < (x1.length : Int) then (if 0 ≤ x2 then (if (rd x1 x2) = 0 then (usufructlaw15_awake.l0 k x1 (wrap64 (x2 + 1))) else (some false)) else (none)) else (some ((x1.length : Int) == 65))
def usufructlaw15_awake.f (k : Nat)  : Option (Bool) := (code_PutSaga.f 0 (⟨#[]⟩ : ByteArray) 0 0 0 0 false 0 0).bind fun t102 => (usufructlaw15_awake.l0 k t102 0)
theorem usufructlaw15_awake.mono_l : ∀ k, (∀ y0 y1, LeO (usufructlaw15_awake.l0 k y0 y1) (usufructlaw15_awake.l0 (k + 1) y0 y1))
  | 0 => fun _ _ r h => by simp [usufructlaw15_awake.l0] at h
  | k + 1 => by
    have ih0 := usufructlaw15_awake.mono_l k
    · intro y0 y1
      unfold usufructlaw15_awake.l0
      repeat' first
      | (with_reducible exact ih0 _ _)
      | (with_reducible exact LeO.refl _)
      | (with_reducible exact LeO.none _)
      | (with_reducible refine LeO.ite ?_ ?_)
      | (with_reducible refine LeO.bind ?_ (fun _ => ?_))
      | exact ih0 _ _
      | exact LeO.none _
      | refine LeO.ite ?_ ?_
      | refine LeO.bind ?_ (fun _ => ?_)
theorem usufructlaw15_awake.mono : ∀ k, LeO (usufructlaw15_awake.f k ) (usufructlaw15_awake.f (k + 1) ) := by
  intro  k
  have ih0 := usufructlaw15_awake.mono_l k
  unfold usufructlaw15_awake.f
  repeat' first
      | (with_reducible exact ih0 _ _)
      | (with_reducible exact LeO.refl _)
      | (with_reducible exact LeO.none _)
      | (with_reducible refine LeO.ite ?_ ?_)
      | (with_reducible refine LeO.bind ?_ (fun _ => ?_))
      | exact ih0 _ _
      | exact LeO.none _
      | refine LeO.ite ?_ ?_
      | refine LeO.bind ?_ (fun _ => ?_)
set_option maxHeartbeats 8000000 in
set_option maxRecDepth 100000 in
theorem usufructlaw15_awake.calls (k : Nat)  (r : Bool) (w : World) (h : usufructlaw15_awake.f k  = some r) :
    Calls Try.prog 4 #[] w fun e w' => e = .returned (.bool r) ∧ Below w.heap.size w w' := by
  have hu23 := Try.underlying23
  have HB := Aside0.mk (Below.refl w.heap.size w)
  have H : ((code_PutSaga.f 0 (⟨#[]⟩ : ByteArray) 0 0 0 0 false 0 0).bind fun t102 => (usufructlaw15_awake.l0 k t102 0)) = some r := h
  clear h
  replace H := Option.bind_eq_some_iff.mp H
  obtain ⟨t102, A10, H⟩ := H
  replace H : (usufructlaw15_awake.l0 k t102 0) = some r := H
  have A1 := Aside0.mk A10
  clear A10
  have H' := Aside0.mk H
  clear H
  go_enter Try.func4, Try.ntmps4
  go_wp2_with (first | ((with_reducible refine gate_callee (f := 5) rfl ?_); refine goesL_ (some 4) rfl rfl Try.func5 (by kernel_rfl) rfl #[.agg #[.int .i64 0, .string (⟨#[]⟩ : ByteArray), .int .i64 0, .int .i64 0, .int .i64 0, .int .i64 0, .bool false, .int .i64 0, .int .i64 0]] rfl (by (try simp only [List.map_toArray, List.map_cons, List.map_nil]); first | done | rfl | (simp only [List.length_drop, List.length_take]; rfl)) ?_; (with_reducible refine (code_PutSaga.calls 0 (⟨#[]⟩ : ByteArray) 0 0 0 0 false 0 0 t102 _ A1.out).mono ?_); rintro e w2 ⟨v103, rfl, ho0, hb⟩; refine ⟨_, rfl, ?_⟩; have n0_ := Aside0.mk (Kd.R_lower ho0 (below_size (by repeat (first | (with_reducible first | exact HB.out | apply below_alloc | apply pw_below_drewN | apply below_drew1) | exact HB.out)))); have n1_ := Aside0.mk (below_step (by repeat (first | (with_reducible first | exact HB.out | apply below_alloc | apply pw_below_drewN | apply below_drew1) | exact HB.out)) hb); clear HB; have HO104 := n0_; have HB := n1_; clear n0_ n1_; (try clear hb); (try clear hb2); (try clear hk); (try clear hi); (try clear ho0)))
  go_loopg [2] k (fun kq v2 w' => ∃ (x2_1 : Int), v2 = .int .i64 x2_1 ∧ Aside0 (usufructlaw15_awake.l0 kq t102 x2_1 = some r) ∧ Aside0 (kq ≤ k) ∧ Aside0 (Kd.R (Kd.int .u8) 5 w' w.heap.size (fun _ => True) v103 t102) ∧ Aside0 (Below w.heap.size w w'))
  case atStart => exact ⟨(0), (by first | rfl | (simp; done) | (simp [*]; done)), H', ⟨Nat.le_refl _⟩, ⟨by (with_reducible repeat (first | apply Kd.R_alloc | apply Kd.R_drewN | apply Kd.R_drew)); exact HO104.out⟩, ⟨by repeat (first | (with_reducible first | exact HB.out | apply below_alloc | apply pw_below_drewN | apply below_drew1) | exact HB.out)⟩⟩
  case round =>
    clear H'
    try clear p2
    obtain ⟨x2_1, rfl, HA, HK1, HO_1, HB⟩ := hrel
    cases gk with
    | zero => exact absurd HA.out (by simp [usufructlaw15_awake.l0])
    | succ k1 =>
      have H := HA.out
      clear HA
      simp only [usufructlaw15_awake.l0] at H
      by_cases c3 : x2_1 < (t102.length : Int)
      · rw [if_pos c3] at H
        have c3b0 : decide (x2_1 < (t102.length : Int)) = true := decide_eq_true c3
        clear c3
        by_cases c4 : 0 ≤ x2_1
        · rw [if_pos c4] at H
          have c4b0 : decide (0 ≤ x2_1) = true := decide_eq_true c4
          clear c4
          by_cases c5 : (rd t102 x2_1) = 0
          · rw [if_pos c5] at H
            have c5b0 : ((rd t102 x2_1) == 0) = true := beq_iff_eq.mpr c5
            have c5b1 : ((rd t102 x2_1) != 0) = false := bne_eq_false_iff_eq.mpr c5
            clear c5
            have H' := Aside0.mk H
            clear H
            obtain ⟨Ao6, co6, eo6⟩ := Kd.R_slice HO_1.out
            subst eo6
            have p105 : 0 ≤ (x2_1 : Int) := of_decide_eq_true (by first | (with_reducible assumption) | assumption)
            have q105 : x2_1 < (t102.length : Int) := of_decide_eq_true (by first | (with_reducible assumption) | assumption)
            obtain ⟨ad105, e105, hx105_0⟩ := Kd.at_int (Kd.R_reads' HO_1.out).2.2 x2_1 p105 q105
            cases e105
            replace p105 := eq_true p105
            replace q105 := eq_true q105
            go_wp2
            go_roundg k1
            case measure => have := HK1.out; omega
            case rel => exact ⟨(wrap64 (x2_1 + 1)), (by first | rfl | (simp; done) | (simp [*]; done)), H', ⟨by have := HK1.out; omega⟩, ⟨by (with_reducible repeat (first | apply Kd.R_alloc | apply Kd.R_drewN | apply Kd.R_drew)); exact HO_1.out⟩, ⟨by repeat (first | (with_reducible first | exact HB.out | apply below_alloc | apply pw_below_drewN | apply below_drew1) | exact HB.out)⟩⟩
          · rw [if_neg c5] at H
            have c5b0 : ((rd t102 x2_1) == 0) = false := beq_eq_false_iff_ne.mpr c5
            have c5b1 : ((rd t102 x2_1) != 0) = true := bne_iff_ne.mpr c5
            obtain rfl := Option.some.inj H
            obtain ⟨Ao7, co7, eo7⟩ := Kd.R_slice HO_1.out
            subst eo7
            have p105 : 0 ≤ (x2_1 : Int) := of_decide_eq_true (by first | (with_reducible assumption) | assumption)
            have q105 : x2_1 < (t102.length : Int) := of_decide_eq_true (by first | (with_reducible assumption) | assumption)
            obtain ⟨ad105, e105, hx105_0⟩ := Kd.at_int (Kd.R_reads' HO_1.out).2.2 x2_1 p105 q105
            cases e105
            replace p105 := eq_true p105
            replace q105 := eq_true q105
            go_wp2
            go_ret
            exact ⟨by first | rfl | (simp [errW_none, errW_some] <;> rfl) | (simp [*, errW_none, errW_some] <;> rfl), by repeat (first | (with_reducible first | exact HB.out | apply below_alloc | apply pw_below_drewN | apply below_drew1) | exact HB.out)⟩
        · rw [if_neg c4] at H
          exact absurd H (by simp)
      · rw [if_neg c3] at H
        have c3b0 : decide (x2_1 < (t102.length : Int)) = false := decide_eq_false c3
        clear c3
        obtain rfl := Option.some.inj H
        obtain ⟨Ao8, co8, eo8⟩ := Kd.R_slice HO_1.out
        subst eo8
        go_wp2
        go_ret
        exact ⟨by first | rfl | (simp [errW_none, errW_some] <;> rfl) | (simp [*, errW_none, errW_some] <;> rfl), by repeat (first | (with_reducible first | exact HB.out | apply below_alloc | apply pw_below_drewN | apply below_drew1) | exact HB.out)⟩

-- told by hand: function 27 (slices_Clone_byte_byte)

end Go.Proofs.Ytcgpbakimkhdpaa.Q
