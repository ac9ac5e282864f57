-- written for this claim by a program of the session
import Derived.Test.YtdbelgfkhollnaaQx0
import Derived.Test.YtdbelgfkhollnaaQx6
import Derived.Test.YtdbelgfkhollnaaGClone
namespace Go.Proofs.Ytdbelgfkhollnaa.Q
open Go.RowKit Go.Proofs.YtdbelgfkhollnaaW.PrintWords Go.Proofs.YtdbelgfkhollnaaW.PrintLast Go.Proofs.YtdbelgfkhollnaaW.PrintMore
attribute [local go_sem] max2_int min2_int max_two min_two max_three min_three max_four min_four   -- for this text's walks alone
set_option linter.unusedVariables false
set_option linter.unusedSimpArgs false

/-! ### sum_Open: function 11 -/
def sum_Open.f (l0 : List Int) : Option (List Int × Bool) := if (wrap64 ((l0.length : Int) - 4)) < 0 then (some (([] : List Int), false)) else (if 0 ≤ (wrap64 ((l0.length : Int) - 4)) then (if (wrap64 ((l0.length : Int) - 4)) < (l0.length : Int) then (if 0 ≤ (wrap64 ((wrap64 ((l0.length : Int) - 4)) + 1)) then (if (wrap64 ((wrap64 ((l0.length : Int) - 4)) + 1)) < (l0.length : Int) then (if 0 ≤ (wrap64 ((wrap64 ((l0.length : Int) - 4)) + 2)) then (if (wrap64 ((wrap64 ((l0.length : Int) - 4)) + 2)) < (l0.length : Int) then (if 0 ≤ (wrap64 ((wrap64 ((l0.length : Int) - 4)) + 3)) then (if (wrap64 ((wrap64 ((l0.length : Int) - 4)) + 3)) < (l0.length : Int) then (if (wrap64 ((l0.length : Int) - 4)) ≤ (l0.length : Int) then ((sum_Fits.f (l0.take ((wrap64 ((l0.length : Int) - 4)) : Int).toNat) (Go.bits .or .u32 (Go.bits .or .u32 (Go.bits .or .u32 ((rd l0 (wrap64 ((l0.length : Int) - 4))) % 4294967296) ((((rd l0 (wrap64 ((wrap64 ((l0.length : Int) - 4)) + 1))) % 4294967296) * 256) % 4294967296)) ((((rd l0 (wrap64 ((wrap64 ((l0.length : Int) - 4)) + 2))) % 4294967296) * 65536) % 4294967296)) ((((rd l0 (wrap64 ((wrap64 ((l0.length : Int) - 4)) + 3))) % 4294967296) * 16777216) % 4294967296))).bind fun t144 => (if t144 = true then ((slices_Clone_byte_byte.f (l0.take ((wrap64 ((l0.length : Int) - 4)) : Int).toNat)).bind fun t146 => (some (t146, true))) else (some (([] : List Int), false)))) else (none)) else (none)) else (none)) else (none)) else (none)) else (none)) else (none)) else (none)) else (none))
set_option maxHeartbeats 8000000 in
set_option maxRecDepth 100000 in
theorem sum_Open.calls (A0 : Option Addr) (c0 : Nat) (l0 : List Int) (r1 : List Int) (r2 : Bool) (w : World) (hr0 : Kd.C (Kd.int .u8) w A0 l0.length l0) (hc0 : l0.length ≤ c0) (h : sum_Open.f l0 = some (r1, r2)) :
    Calls Try.prog 11 #[.slice A0 l0.length c0] w fun e w' => ∃ v0_ : Value, e = .returned (.tuple #[v0_, .bool r2]) ∧ Kd.R (Kd.int .u8) 5 w' w.heap.size (fun _ => True) v0_ r1 ∧ Below w.heap.size w w' := by
  have HR0 := Aside0.mk hr0
  have HC0 := Aside0.mk hc0
  clear hr0 hc0
  have HB := Aside0.mk (Below.refl w.heap.size w)
  have H : (if (wrap64 ((l0.length : Int) - 4)) < 0 then (some (([] : List Int), false)) else (if 0 ≤ (wrap64 ((l0.length : Int) - 4)) then (if (wrap64 ((l0.length : Int) - 4)) < (l0.length : Int) then (if 0 ≤ (wrap64 ((wrap64 ((l0.length : Int) - 4)) + 1)) then (if (wrap64 ((wrap64 ((l0.length : Int) - 4)) + 1)) < (l0.length : Int) then (if 0 ≤ (wrap64 ((wrap64 ((l0.length : Int) - 4)) + 2)) then (if (wrap64 ((wrap64 ((l0.length : Int) - 4)) + 2)) < (l0.length : Int) then (if 0 ≤ (wrap64 ((wrap64 ((l0.length : Int) - 4)) + 3)) then (if (wrap64 ((wrap64 ((l0.length : Int) - 4)) + 3)) < (l0.length : Int) then (if (wrap64 ((l0.length : Int) - 4)) ≤ (l0.length : Int) then ((sum_Fits.f (l0.take ((wrap64 ((l0.length : Int) - 4)) : Int).toNat) (Go.bits .or .u32 (Go.bits .or .u32 (Go.bits .or .u32 ((rd l0 (wrap64 ((l0.length : Int) - 4))) % 4294967296) ((((rd l0 (wrap64 ((wrap64 ((l0.length : Int) - 4)) + 1))) % 4294967296) * 256) % 4294967296)) ((((rd l0 (wrap64 ((wrap64 ((l0.length : Int) - 4)) + 2))) % 4294967296) * 65536) % 4294967296)) ((((rd l0 (wrap64 ((wrap64 ((l0.length : Int) - 4)) + 3))) % 4294967296) * 16777216) % 4294967296))).bind fun t144 => (if t144 = true then ((slices_Clone_byte_byte.f (l0.take ((wrap64 ((l0.length : Int) - 4)) : Int).toNat)).bind fun t146 => (some (t146, true))) else (some (([] : List Int), false)))) else (none)) else (none)) else (none)) else (none)) else (none)) else (none)) else (none)) else (none)) else (none))) = some (r1, r2) := h
  clear h
  by_cases c2 : (wrap64 ((l0.length : Int) - 4)) < 0
  · rw [if_pos c2] at H
    have c2b0 : decide ((wrap64 ((l0.length : Int) - 4)) < 0) = true := decide_eq_true c2
    clear c2
    simp only [Option.some.injEq, Prod.mk.injEq] at H
    obtain ⟨rfl, rfl⟩ := H
    go_enter Try.func11, Try.ntmps11
    go_wp2
    repeat (go_quiet (fail); try go_wp2)
    go_ret2
    exact ⟨_, by first | rfl | (simp [errW_none, errW_some] <;> rfl) | (simp [*, errW_none, errW_some] <;> rfl), by first | exact Kd.R_nil _ _ _ _ _ | exact Kd.N_nil _ _ _ _ _ | exact Kd.V_nil _ _ _ _ _ | exact Kd.Q_nil _ _ _ _ _ | exact Kd.S_nil _ _ _ _ _, by repeat (first | (with_reducible first | exact HB.out | apply below_alloc | apply pw_below_drewN | apply below_drew1) | exact HB.out)⟩
  · rw [if_neg c2] at H
    have c2b0 : decide ((wrap64 ((l0.length : Int) - 4)) < 0) = false := decide_eq_false c2
    clear c2
    obtain ⟨ji3, hji3⟩ : ∃ j_ : Int, (wrap64 ((l0.length : Int) - 4)) = j_ := ⟨_, rfl⟩
    replace H : (if 0 ≤ (ji3) then (if (ji3) < (l0.length : Int) then (if 0 ≤ (wrap64 ((ji3) + 1)) then (if (wrap64 ((ji3) + 1)) < (l0.length : Int) then (if 0 ≤ (wrap64 ((ji3) + 2)) then (if (wrap64 ((ji3) + 2)) < (l0.length : Int) then (if 0 ≤ (wrap64 ((ji3) + 3)) then (if (wrap64 ((ji3) + 3)) < (l0.length : Int) then (if (ji3) ≤ (l0.length : Int) then ((sum_Fits.f (l0.take ((ji3) : Int).toNat) (Go.bits .or .u32 (Go.bits .or .u32 (Go.bits .or .u32 ((rd l0 (ji3)) % 4294967296) ((((rd l0 (wrap64 ((ji3) + 1))) % 4294967296) * 256) % 4294967296)) ((((rd l0 (wrap64 ((ji3) + 2))) % 4294967296) * 65536) % 4294967296)) ((((rd l0 (wrap64 ((ji3) + 3))) % 4294967296) * 16777216) % 4294967296))).bind fun t144 => (if t144 = true then ((slices_Clone_byte_byte.f (l0.take ((ji3) : Int).toNat)).bind fun t146 => (some (t146, true))) else (some (([] : List Int), false)))) else (none)) else (none)) else (none)) else (none)) else (none)) else (none)) else (none)) else (none)) else (none)) = some (r1, r2) := by first | (rw [hji3] at H; exact H) | (simp only [hji3] at H ⊢; exact H)
    (try rw [hji3] at c2b0)
    have hji3w : (IntKind.i64.wrap ((l0.length : Int) - 4)) = ji3 := (i64_w _).trans hji3
    by_cases c4 : 0 ≤ (ji3)
    · rw [if_pos c4] at H
      have c4b0 : decide (0 ≤ (ji3)) = true := decide_eq_true c4
      clear c4
      by_cases c5 : (ji3) < (l0.length : Int)
      · rw [if_pos c5] at H
        have c5b0 : decide ((ji3) < (l0.length : Int)) = true := decide_eq_true c5
        clear c5
        obtain ⟨ji6, hji6⟩ : ∃ j_ : Int, (wrap64 ((ji3) + 1)) = j_ := ⟨_, rfl⟩
        replace H : (if 0 ≤ (ji6) then (if (ji6) < (l0.length : Int) then (if 0 ≤ (wrap64 ((ji3) + 2)) then (if (wrap64 ((ji3) + 2)) < (l0.length : Int) then (if 0 ≤ (wrap64 ((ji3) + 3)) then (if (wrap64 ((ji3) + 3)) < (l0.length : Int) then (if (ji3) ≤ (l0.length : Int) then ((sum_Fits.f (l0.take ((ji3) : Int).toNat) (Go.bits .or .u32 (Go.bits .or .u32 (Go.bits .or .u32 ((rd l0 (ji3)) % 4294967296) ((((rd l0 (ji6)) % 4294967296) * 256) % 4294967296)) ((((rd l0 (wrap64 ((ji3) + 2))) % 4294967296) * 65536) % 4294967296)) ((((rd l0 (wrap64 ((ji3) + 3))) % 4294967296) * 16777216) % 4294967296))).bind fun t144 => (if t144 = true then ((slices_Clone_byte_byte.f (l0.take ((ji3) : Int).toNat)).bind fun t146 => (some (t146, true))) else (some (([] : List Int), false)))) else (none)) else (none)) else (none)) else (none)) else (none)) else (none)) else (none)) = some (r1, r2) := by first | (rw [hji6] at H; exact H) | (simp only [hji6] at H ⊢; exact H)
        have hji6w : (IntKind.i64.wrap ((ji3) + 1)) = ji6 := (i64_w _).trans hji6
        by_cases c7 : 0 ≤ (ji6)
        · rw [if_pos c7] at H
          have c7b0 : decide (0 ≤ (ji6)) = true := decide_eq_true c7
          clear c7
          by_cases c8 : (ji6) < (l0.length : Int)
          · rw [if_pos c8] at H
            have c8b0 : decide ((ji6) < (l0.length : Int)) = true := decide_eq_true c8
            clear c8
            obtain ⟨ji9, hji9⟩ : ∃ j_ : Int, (wrap64 ((ji3) + 2)) = j_ := ⟨_, rfl⟩
            replace H : (if 0 ≤ (ji9) then (if (ji9) < (l0.length : Int) then (if 0 ≤ (wrap64 ((ji3) + 3)) then (if (wrap64 ((ji3) + 3)) < (l0.length : Int) then (if (ji3) ≤ (l0.length : Int) then ((sum_Fits.f (l0.take ((ji3) : Int).toNat) (Go.bits .or .u32 (Go.bits .or .u32 (Go.bits .or .u32 ((rd l0 (ji3)) % 4294967296) ((((rd l0 (ji6)) % 4294967296) * 256) % 4294967296)) ((((rd l0 (ji9)) % 4294967296) * 65536) % 4294967296)) ((((rd l0 (wrap64 ((ji3) + 3))) % 4294967296) * 16777216) % 4294967296))).bind fun t144 => (if t144 = true then ((slices_Clone_byte_byte.f (l0.take ((ji3) : Int).toNat)).bind fun t146 => (some (t146, true))) else (some (([] : List Int), false)))) else (none)) else (none)) else (none)) else (none)) else (none)) = some (r1, r2) := by first | (rw [hji9] at H; exact H) | (simp only [hji9] at H ⊢; exact H)
            have hji9w : (IntKind.i64.wrap ((ji3) + 2)) = ji9 := (i64_w _).trans hji9
            by_cases c10 : 0 ≤ (ji9)
            · rw [if_pos c10] at H
              have c10b0 : decide (0 ≤ (ji9)) = true := decide_eq_true c10
              clear c10
              by_cases c11 : (ji9) < (l0.length : Int)
              · rw [if_pos c11] at H
                have c11b0 : decide ((ji9) < (l0.length : Int)) = true := decide_eq_true c11
                clear c11
                obtain ⟨ji12, hji12⟩ : ∃ j_ : Int, (wrap64 ((ji3) + 3)) = j_ := ⟨_, rfl⟩
                replace H : (if 0 ≤ (ji12) then (if (ji12) < (l0.length : Int) then (if (ji3) ≤ (l0.length : Int) then ((sum_Fits.f (l0.take ((ji3) : Int).toNat) (Go.bits .or .u32 (Go.bits .or .u32 (Go.bits .or .u32 ((rd l0 (ji3)) % 4294967296) ((((rd l0 (ji6)) % 4294967296) * 256) % 4294967296)) ((((rd l0 (ji9)) % 4294967296) * 65536) % 4294967296)) ((((rd l0 (ji12)) % 4294967296) * 16777216) % 4294967296))).bind fun t144 => (if t144 = true then ((slices_Clone_byte_byte.f (l0.take ((ji3) : Int).toNat)).bind fun t146 => (some (t146, true))) else (some (([] : List Int), false)))) else (none)) else (none)) else (none)) = some (r1, r2) := by first | (rw [hji12] at H; exact H) | (simp only [hji12] at H ⊢; exact H)
                have hji12w : (IntKind.i64.wrap ((ji3) + 3)) = ji12 := (i64_w _).trans hji12
                by_cases c13 : 0 ≤ (ji12)
                · rw [if_pos c13] at H
                  have c13b0 : decide (0 ≤ (ji12)) = true := decide_eq_true c13
                  clear c13
                  by_cases c14 : (ji12) < (l0.length : Int)
                  · rw [if_pos c14] at H
                    have c14b0 : decide ((ji12) < (l0.length : Int)) = true := decide_eq_true c14
                    clear c14
                    have c15b0 := eq_true (of_decide_eq_true (by first | (with_reducible assumption) | assumption) : 0 ≤ (ji3))
                    by_cases c16 : (ji3) ≤ (l0.length : Int)
                    · rw [if_pos c16] at H
                      have c16b0 := eq_true c16
                      have c16b1 : decide ((ji3) ≤ (l0.length : Int)) = true := decide_eq_true c16
                      clear c16
                      replace H := Option.bind_eq_some_iff.mp H
                      obtain ⟨t144, A170, H⟩ := H
                      replace H : (if t144 = true then ((slices_Clone_byte_byte.f (l0.take ((ji3) : Int).toNat)).bind fun t146 => (some (t146, true))) else (some (([] : List Int), false))) = some (r1, r2) := H
                      have A17 := Aside0.mk A170
                      clear A170
                      by_cases c18 : t144 = true
                      · subst c18
                        have H1 : ((slices_Clone_byte_byte.f (l0.take ((ji3) : Int).toNat)).bind fun t146 => (some (t146, true))) = some (r1, r2) := by rw [if_pos rfl] at H; exact H
                        clear H
                        have H := H1
                        clear H1
                        have c19b0 := eq_true (of_decide_eq_true (by first | (with_reducible assumption) | assumption) : 0 ≤ (ji3))
                        have c20b0 := eq_true (of_decide_eq_true (by first | (with_reducible assumption) | assumption) : (ji3) ≤ (l0.length : Int))
                        replace H := Option.bind_eq_some_iff.mp H
                        obtain ⟨t146, A210, H⟩ := H
                        replace H : (some (t146, true)) = some (r1, r2) := H
                        have A21 := Aside0.mk A210
                        clear A210
                        simp only [Option.some.injEq, Prod.mk.injEq] at H
                        obtain ⟨rfl, rfl⟩ := H
                        have p139 : 0 ≤ ((ji3) : Int) := of_decide_eq_true (by first | (with_reducible assumption) | assumption)
                        have q139 : (ji3) < (l0.length : Int) := of_decide_eq_true (by first | (with_reducible assumption) | assumption)
                        obtain ⟨ad139, e139, hx139_0⟩ := Kd.at_int HR0.out (ji3) p139 q139
                        cases e139
                        replace p139 := eq_true p139
                        replace q139 := eq_true q139
                        have p140 : 0 ≤ ((ji6) : Int) := of_decide_eq_true (by first | (with_reducible assumption) | assumption)
                        have q140 : (ji6) < (l0.length : Int) := of_decide_eq_true (by first | (with_reducible assumption) | assumption)
                        obtain ⟨ad140, e140, hx140_0⟩ := Kd.at_int HR0.out (ji6) p140 q140
                        obtain rfl : ad139 = ad140 := (by injection e140)
                        replace p140 := eq_true p140
                        replace q140 := eq_true q140
                        have p141 : 0 ≤ ((ji9) : Int) := of_decide_eq_true (by first | (with_reducible assumption) | assumption)
                        have q141 : (ji9) < (l0.length : Int) := of_decide_eq_true (by first | (with_reducible assumption) | assumption)
                        obtain ⟨ad141, e141, hx141_0⟩ := Kd.at_int HR0.out (ji9) p141 q141
                        obtain rfl : ad139 = ad141 := (by injection e141)
                        replace p141 := eq_true p141
                        replace q141 := eq_true q141
                        have p142 : 0 ≤ ((ji12) : Int) := of_decide_eq_true (by first | (with_reducible assumption) | assumption)
                        have q142 : (ji12) < (l0.length : Int) := of_decide_eq_true (by first | (with_reducible assumption) | assumption)
                        obtain ⟨ad142, e142, hx142_0⟩ := Kd.at_int HR0.out (ji12) p142 q142
                        obtain rfl : ad139 = ad142 := (by injection e142)
                        replace p142 := eq_true p142
                        replace q142 := eq_true q142
                        obtain ⟨i022, hi022, _, hsz22, _⟩ := info_parts info5
                        obtain ⟨hcut22, hA22, hC22⟩ := print_take_of (P := Try.prog) (Value.int .u8) 0 22 5 .i64 Try.underlying22 hi022 hsz22 (some ad139) c0 l0 (ji3) (of_decide_eq_true (by first | (with_reducible assumption) | assumption)) (of_decide_eq_true (by first | (with_reducible assumption) | assumption)) HC0.out
                        have HR143 := Aside0.mk (Kd.C_of_reads (h1 := fun _ => rfl) (hA22 _ (Kd.reads_of_C HR0.out)))
                        have HC143 := Aside0.mk hC22
                        clear hA22 hC22 hi022 hsz22
                        go_enter Try.func11, Try.ntmps11
                        go_wp2_with (first | (go_at_call 14; refine calls_of_args (args' := #[.slice (some ad139) (l0.take ((ji3) : Int).toNat).length c0, .int .u32 (Go.bits .or .u32 (Go.bits .or .u32 (Go.bits .or .u32 ((rd l0 (ji3)) % 4294967296) ((((rd l0 (ji6)) % 4294967296) * 256) % 4294967296)) ((((rd l0 (ji9)) % 4294967296) * 65536) % 4294967296)) ((((rd l0 (ji12)) % 4294967296) * 16777216) % 4294967296))]) (by first | (rw [show (l0.take ((ji3) : Int).toNat).length = (ji3).toNat from (by rw [List.length_take]; have h_ : ((ji3) : Int) ≤ (l0.length : Int) := of_decide_eq_true (by first | (with_reducible assumption) | assumption); omega)] <;> rfl) | rfl) ?_; (with_reducible refine (sum_Fits.calls _ _ (l0.take ((ji3) : Int).toNat) (Go.bits .or .u32 (Go.bits .or .u32 (Go.bits .or .u32 ((rd l0 (ji3)) % 4294967296) ((((rd l0 (ji6)) % 4294967296) * 256) % 4294967296)) ((((rd l0 (ji9)) % 4294967296) * 65536) % 4294967296)) ((((rd l0 (ji12)) % 4294967296) * 16777216) % 4294967296)) true _ ?side1 ?side2 A17.out).mono ?_); (case side1 => repeat (first | exact HR143.out | (with_reducible refine Kd.C_alloc ?_ _) | (with_reducible refine Kd.C_drewN ?_ _) | (with_reducible refine Kd.C_drew ?_))); (case side2 => exact HC143.out); rintro e w23 ⟨rfl, hb⟩; have n0_ := Aside0.mk (below_step (by repeat (first | (with_reducible first | exact HB.out | apply below_alloc | apply pw_below_drewN | apply below_drew1) | exact HB.out)) hb); clear HB; have HB := n0_; clear n0_; (try clear hb); (try clear hb2); (try clear hk); (try clear hi); obtain ⟨i024, hi024, _, hsz24, _⟩ := info_parts info5; obtain ⟨hcut24, hA24, hC24⟩ := print_take_of (P := Try.prog) (Value.int .u8) 0 22 5 .i64 Try.underlying22 hi024 hsz24 (some ad139) c0 l0 (ji3) (of_decide_eq_true (by first | (with_reducible assumption) | assumption)) (of_decide_eq_true (by first | (with_reducible assumption) | assumption)) HC0.out; have HR145 := Aside0.mk (Kd.C_of_reads (h1 := fun _ => rfl) (hA24 _ (Kd.reads_of_C HR0.out))); have HC145 := Aside0.mk hC24; clear hA24 hC24 hi024 hsz24) | (go_at_call 17; refine calls_of_args (args' := #[.slice (some ad139) (l0.take ((ji3) : Int).toNat).length c0]) (by first | (rw [show (l0.take ((ji3) : Int).toNat).length = (ji3).toNat from (by rw [List.length_take]; have h_ : ((ji3) : Int) ≤ (l0.length : Int) := of_decide_eq_true (by first | (with_reducible assumption) | assumption); omega)] <;> rfl) | rfl) ?_; (with_reducible refine (slices_Clone_byte_byte.calls _ _ (l0.take ((ji3) : Int).toNat) t146 _ ?side1 ?side2 A21.out).mono ?_); (case side1 => repeat (first | exact (Kd.C_below HR145.out HB.out) | (with_reducible refine Kd.C_alloc ?_ _) | (with_reducible refine Kd.C_drewN ?_ _) | (with_reducible refine Kd.C_drew ?_))); (case side2 => exact HC145.out); rintro e w25 ⟨v147, rfl, ho0, hb⟩; have n0_ := Aside0.mk (Kd.R_lower ho0 (below_size (by repeat (first | (with_reducible first | exact HB.out | apply below_alloc | apply pw_below_drewN | apply below_drew1) | exact HB.out)))); have n1_ := Aside0.mk (below_step (by repeat (first | (with_reducible first | exact HB.out | apply below_alloc | apply pw_below_drewN | apply below_drew1) | exact HB.out)) hb); clear HB; have HO148 := n0_; have HB := n1_; clear n0_ n1_; (try clear hb); (try clear hb2); (try clear hk); (try clear hi); (try clear ho0)))
                        repeat (go_quiet (first | (go_at_call 14; refine calls_of_args (args' := #[.slice (some ad139) (l0.take ((ji3) : Int).toNat).length c0, .int .u32 (Go.bits .or .u32 (Go.bits .or .u32 (Go.bits .or .u32 ((rd l0 (ji3)) % 4294967296) ((((rd l0 (ji6)) % 4294967296) * 256) % 4294967296)) ((((rd l0 (ji9)) % 4294967296) * 65536) % 4294967296)) ((((rd l0 (ji12)) % 4294967296) * 16777216) % 4294967296))]) (by first | (rw [show (l0.take ((ji3) : Int).toNat).length = (ji3).toNat from (by rw [List.length_take]; have h_ : ((ji3) : Int) ≤ (l0.length : Int) := of_decide_eq_true (by first | (with_reducible assumption) | assumption); omega)] <;> rfl) | rfl) ?_; (with_reducible refine (sum_Fits.calls _ _ (l0.take ((ji3) : Int).toNat) (Go.bits .or .u32 (Go.bits .or .u32 (Go.bits .or .u32 ((rd l0 (ji3)) % 4294967296) ((((rd l0 (ji6)) % 4294967296) * 256) % 4294967296)) ((((rd l0 (ji9)) % 4294967296) * 65536) % 4294967296)) ((((rd l0 (ji12)) % 4294967296) * 16777216) % 4294967296)) true _ ?side1 ?side2 A17.out).mono ?_); (case side1 => repeat (first | exact HR143.out | (with_reducible refine Kd.C_alloc ?_ _) | (with_reducible refine Kd.C_drewN ?_ _) | (with_reducible refine Kd.C_drew ?_))); (case side2 => exact HC143.out); rintro e w23 ⟨rfl, hb⟩; have n0_ := Aside0.mk (below_step (by repeat (first | (with_reducible first | exact HB.out | apply below_alloc | apply pw_below_drewN | apply below_drew1) | exact HB.out)) hb); clear HB; have HB := n0_; clear n0_; (try clear hb); (try clear hb2); (try clear hk); (try clear hi); obtain ⟨i024, hi024, _, hsz24, _⟩ := info_parts info5; obtain ⟨hcut24, hA24, hC24⟩ := print_take_of (P := Try.prog) (Value.int .u8) 0 22 5 .i64 Try.underlying22 hi024 hsz24 (some ad139) c0 l0 (ji3) (of_decide_eq_true (by first | (with_reducible assumption) | assumption)) (of_decide_eq_true (by first | (with_reducible assumption) | assumption)) HC0.out; have HR145 := Aside0.mk (Kd.C_of_reads (h1 := fun _ => rfl) (hA24 _ (Kd.reads_of_C HR0.out))); have HC145 := Aside0.mk hC24; clear hA24 hC24 hi024 hsz24) | (go_at_call 17; refine calls_of_args (args' := #[.slice (some ad139) (l0.take ((ji3) : Int).toNat).length c0]) (by first | (rw [show (l0.take ((ji3) : Int).toNat).length = (ji3).toNat from (by rw [List.length_take]; have h_ : ((ji3) : Int) ≤ (l0.length : Int) := of_decide_eq_true (by first | (with_reducible assumption) | assumption); omega)] <;> rfl) | rfl) ?_; (with_reducible refine (slices_Clone_byte_byte.calls _ _ (l0.take ((ji3) : Int).toNat) t146 _ ?side1 ?side2 A21.out).mono ?_); (case side1 => repeat (first | exact (Kd.C_below HR145.out HB.out) | (with_reducible refine Kd.C_alloc ?_ _) | (with_reducible refine Kd.C_drewN ?_ _) | (with_reducible refine Kd.C_drew ?_))); (case side2 => exact HC145.out); rintro e w25 ⟨v147, rfl, ho0, hb⟩; have n0_ := Aside0.mk (Kd.R_lower ho0 (below_size (by repeat (first | (with_reducible first | exact HB.out | apply below_alloc | apply pw_below_drewN | apply below_drew1) | exact HB.out)))); have n1_ := Aside0.mk (below_step (by repeat (first | (with_reducible first | exact HB.out | apply below_alloc | apply pw_below_drewN | apply below_drew1) | exact HB.out)) hb); clear HB; have HO148 := n0_; have HB := n1_; clear n0_ n1_; (try clear hb); (try clear hb2); (try clear hk); (try clear hi); (try clear ho0))); try go_wp2_with (first | (go_at_call 14; refine calls_of_args (args' := #[.slice (some ad139) (l0.take ((ji3) : Int).toNat).length c0, .int .u32 (Go.bits .or .u32 (Go.bits .or .u32 (Go.bits .or .u32 ((rd l0 (ji3)) % 4294967296) ((((rd l0 (ji6)) % 4294967296) * 256) % 4294967296)) ((((rd l0 (ji9)) % 4294967296) * 65536) % 4294967296)) ((((rd l0 (ji12)) % 4294967296) * 16777216) % 4294967296))]) (by first | (rw [show (l0.take ((ji3) : Int).toNat).length = (ji3).toNat from (by rw [List.length_take]; have h_ : ((ji3) : Int) ≤ (l0.length : Int) := of_decide_eq_true (by first | (with_reducible assumption) | assumption); omega)] <;> rfl) | rfl) ?_; (with_reducible refine (sum_Fits.calls _ _ (l0.take ((ji3) : Int).toNat) (Go.bits .or .u32 (Go.bits .or .u32 (Go.bits .or .u32 ((rd l0 (ji3)) % 4294967296) ((((rd l0 (ji6)) % 4294967296) * 256) % 4294967296)) ((((rd l0 (ji9)) % 4294967296) * 65536) % 4294967296)) ((((rd l0 (ji12)) % 4294967296) * 16777216) % 4294967296)) true _ ?side1 ?side2 A17.out).mono ?_); (case side1 => repeat (first | exact HR143.out | (with_reducible refine Kd.C_alloc ?_ _) | (with_reducible refine Kd.C_drewN ?_ _) | (with_reducible refine Kd.C_drew ?_))); (case side2 => exact HC143.out); rintro e w23 ⟨rfl, hb⟩; have n0_ := Aside0.mk (below_step (by repeat (first | (with_reducible first | exact HB.out | apply below_alloc | apply pw_below_drewN | apply below_drew1) | exact HB.out)) hb); clear HB; have HB := n0_; clear n0_; (try clear hb); (try clear hb2); (try clear hk); (try clear hi); obtain ⟨i024, hi024, _, hsz24, _⟩ := info_parts info5; obtain ⟨hcut24, hA24, hC24⟩ := print_take_of (P := Try.prog) (Value.int .u8) 0 22 5 .i64 Try.underlying22 hi024 hsz24 (some ad139) c0 l0 (ji3) (of_decide_eq_true (by first | (with_reducible assumption) | assumption)) (of_decide_eq_true (by first | (with_reducible assumption) | assumption)) HC0.out; have HR145 := Aside0.mk (Kd.C_of_reads (h1 := fun _ => rfl) (hA24 _ (Kd.reads_of_C HR0.out))); have HC145 := Aside0.mk hC24; clear hA24 hC24 hi024 hsz24) | (go_at_call 17; refine calls_of_args (args' := #[.slice (some ad139) (l0.take ((ji3) : Int).toNat).length c0]) (by first | (rw [show (l0.take ((ji3) : Int).toNat).length = (ji3).toNat from (by rw [List.length_take]; have h_ : ((ji3) : Int) ≤ (l0.length : Int) := of_decide_eq_true (by first | (with_reducible assumption) | assumption); omega)] <;> rfl) | rfl) ?_; (with_reducible refine (slices_Clone_byte_byte.calls _ _ (l0.take ((ji3) : Int).toNat) t146 _ ?side1 ?side2 A21.out).mono ?_); (case side1 => repeat (first | exact (Kd.C_below HR145.out HB.out) | (with_reducible refine Kd.C_alloc ?_ _) | (with_reducible refine Kd.C_drewN ?_ _) | (with_reducible refine Kd.C_drew ?_))); (case side2 => exact HC145.out); rintro e w25 ⟨v147, rfl, ho0, hb⟩; have n0_ := Aside0.mk (Kd.R_lower ho0 (below_size (by repeat (first | (with_reducible first | exact HB.out | apply below_alloc | apply pw_below_drewN | apply below_drew1) | exact HB.out)))); have n1_ := Aside0.mk (below_step (by repeat (first | (with_reducible first | exact HB.out | apply below_alloc | apply pw_below_drewN | apply below_drew1) | exact HB.out)) hb); clear HB; have HO148 := n0_; have HB := n1_; clear n0_ n1_; (try clear hb); (try clear hb2); (try clear hk); (try clear hi); (try clear ho0))))
                        go_ret2
                        exact ⟨_, by first | rfl | (simp [errW_none, errW_some] <;> rfl) | (simp only [← hji3, ← hji6, ← hji9, ← hji12]; first | rfl | (simp [errW_none, errW_some] <;> rfl)) | (simp [*, errW_none, errW_some] <;> rfl), by (with_reducible repeat (first | apply Kd.R_alloc | apply Kd.R_drewN | apply Kd.R_drew)); exact HO148.out, by repeat (first | (with_reducible first | exact HB.out | apply below_alloc | apply pw_below_drewN | apply below_drew1) | exact HB.out)⟩
                      · replace c18 := Bool.eq_false_iff.mpr c18
                        subst c18
                        have H1 : (some (([] : List Int), false)) = some (r1, r2) := by rw [if_neg (show ¬ (false = true) by decide)] at H; exact H
                        clear H
                        have H := H1
                        clear H1
                        simp only [Option.some.injEq, Prod.mk.injEq] at H
                        obtain ⟨rfl, rfl⟩ := H
                        have p139 : 0 ≤ ((ji3) : Int) := of_decide_eq_true (by first | (with_reducible assumption) | assumption)
                        have q139 : (ji3) < (l0.length : Int) := of_decide_eq_true (by first | (with_reducible assumption) | assumption)
                        obtain ⟨ad139, e139, hx139_0⟩ := Kd.at_int HR0.out (ji3) p139 q139
                        cases e139
                        replace p139 := eq_true p139
                        replace q139 := eq_true q139
                        have p140 : 0 ≤ ((ji6) : Int) := of_decide_eq_true (by first | (with_reducible assumption) | assumption)
                        have q140 : (ji6) < (l0.length : Int) := of_decide_eq_true (by first | (with_reducible assumption) | assumption)
                        obtain ⟨ad140, e140, hx140_0⟩ := Kd.at_int HR0.out (ji6) p140 q140
                        obtain rfl : ad139 = ad140 := (by injection e140)
                        replace p140 := eq_true p140
                        replace q140 := eq_true q140
                        have p141 : 0 ≤ ((ji9) : Int) := of_decide_eq_true (by first | (with_reducible assumption) | assumption)
                        have q141 : (ji9) < (l0.length : Int) := of_decide_eq_true (by first | (with_reducible assumption) | assumption)
                        obtain ⟨ad141, e141, hx141_0⟩ := Kd.at_int HR0.out (ji9) p141 q141
                        obtain rfl : ad139 = ad141 := (by injection e141)
                        replace p141 := eq_true p141
                        replace q141 := eq_true q141
                        have p142 : 0 ≤ ((ji12) : Int) := of_decide_eq_true (by first | (with_reducible assumption) | assumption)
                        have q142 : (ji12) < (l0.length : Int) := of_decide_eq_true (by first | (with_reducible assumption) | assumption)
                        obtain ⟨ad142, e142, hx142_0⟩ := Kd.at_int HR0.out (ji12) p142 q142
                        obtain rfl : ad139 = ad142 := (by injection e142)
                        replace p142 := eq_true p142
                        replace q142 := eq_true q142
                        obtain ⟨i026, hi026, _, hsz26, _⟩ := info_parts info5
                        obtain ⟨hcut26, hA26, hC26⟩ := print_take_of (P := Try.prog) (Value.int .u8) 0 22 5 .i64 Try.underlying22 hi026 hsz26 (some ad139) c0 l0 (ji3) (of_decide_eq_true (by first | (with_reducible assumption) | assumption)) (of_decide_eq_true (by first | (with_reducible assumption) | assumption)) HC0.out
                        have HR143 := Aside0.mk (Kd.C_of_reads (h1 := fun _ => rfl) (hA26 _ (Kd.reads_of_C HR0.out)))
                        have HC143 := Aside0.mk hC26
                        clear hA26 hC26 hi026 hsz26
                        go_enter Try.func11, Try.ntmps11
                        go_wp2_with (first | (go_at_call 14; refine calls_of_args (args' := #[.slice (some ad139) (l0.take ((ji3) : Int).toNat).length c0, .int .u32 (Go.bits .or .u32 (Go.bits .or .u32 (Go.bits .or .u32 ((rd l0 (ji3)) % 4294967296) ((((rd l0 (ji6)) % 4294967296) * 256) % 4294967296)) ((((rd l0 (ji9)) % 4294967296) * 65536) % 4294967296)) ((((rd l0 (ji12)) % 4294967296) * 16777216) % 4294967296))]) (by first | (rw [show (l0.take ((ji3) : Int).toNat).length = (ji3).toNat from (by rw [List.length_take]; have h_ : ((ji3) : Int) ≤ (l0.length : Int) := of_decide_eq_true (by first | (with_reducible assumption) | assumption); omega)] <;> rfl) | rfl) ?_; (with_reducible refine (sum_Fits.calls _ _ (l0.take ((ji3) : Int).toNat) (Go.bits .or .u32 (Go.bits .or .u32 (Go.bits .or .u32 ((rd l0 (ji3)) % 4294967296) ((((rd l0 (ji6)) % 4294967296) * 256) % 4294967296)) ((((rd l0 (ji9)) % 4294967296) * 65536) % 4294967296)) ((((rd l0 (ji12)) % 4294967296) * 16777216) % 4294967296)) false _ ?side1 ?side2 A17.out).mono ?_); (case side1 => repeat (first | exact HR143.out | (with_reducible refine Kd.C_alloc ?_ _) | (with_reducible refine Kd.C_drewN ?_ _) | (with_reducible refine Kd.C_drew ?_))); (case side2 => exact HC143.out); rintro e w27 ⟨rfl, hb⟩; have n0_ := Aside0.mk (below_step (by repeat (first | (with_reducible first | exact HB.out | apply below_alloc | apply pw_below_drewN | apply below_drew1) | exact HB.out)) hb); clear HB; have HB := n0_; clear n0_; (try clear hb); (try clear hb2); (try clear hk); (try clear hi)))
                        repeat (go_quiet (first | (go_at_call 14; refine calls_of_args (args' := #[.slice (some ad139) (l0.take ((ji3) : Int).toNat).length c0, .int .u32 (Go.bits .or .u32 (Go.bits .or .u32 (Go.bits .or .u32 ((rd l0 (ji3)) % 4294967296) ((((rd l0 (ji6)) % 4294967296) * 256) % 4294967296)) ((((rd l0 (ji9)) % 4294967296) * 65536) % 4294967296)) ((((rd l0 (ji12)) % 4294967296) * 16777216) % 4294967296))]) (by first | (rw [show (l0.take ((ji3) : Int).toNat).length = (ji3).toNat from (by rw [List.length_take]; have h_ : ((ji3) : Int) ≤ (l0.length : Int) := of_decide_eq_true (by first | (with_reducible assumption) | assumption); omega)] <;> rfl) | rfl) ?_; (with_reducible refine (sum_Fits.calls _ _ (l0.take ((ji3) : Int).toNat) (Go.bits .or .u32 (Go.bits .or .u32 (Go.bits .or .u32 ((rd l0 (ji3)) % 4294967296) ((((rd l0 (ji6)) % 4294967296) * 256) % 4294967296)) ((((rd l0 (ji9)) % 4294967296) * 65536) % 4294967296)) ((((rd l0 (ji12)) % 4294967296) * 16777216) % 4294967296)) false _ ?side1 ?side2 A17.out).mono ?_); (case side1 => repeat (first | exact HR143.out | (with_reducible refine Kd.C_alloc ?_ _) | (with_reducible refine Kd.C_drewN ?_ _) | (with_reducible refine Kd.C_drew ?_))); (case side2 => exact HC143.out); rintro e w27 ⟨rfl, hb⟩; have n0_ := Aside0.mk (below_step (by repeat (first | (with_reducible first | exact HB.out | apply below_alloc | apply pw_below_drewN | apply below_drew1) | exact HB.out)) hb); clear HB; have HB := n0_; clear n0_; (try clear hb); (try clear hb2); (try clear hk); (try clear hi))); try go_wp2_with (first | (go_at_call 14; refine calls_of_args (args' := #[.slice (some ad139) (l0.take ((ji3) : Int).toNat).length c0, .int .u32 (Go.bits .or .u32 (Go.bits .or .u32 (Go.bits .or .u32 ((rd l0 (ji3)) % 4294967296) ((((rd l0 (ji6)) % 4294967296) * 256) % 4294967296)) ((((rd l0 (ji9)) % 4294967296) * 65536) % 4294967296)) ((((rd l0 (ji12)) % 4294967296) * 16777216) % 4294967296))]) (by first | (rw [show (l0.take ((ji3) : Int).toNat).length = (ji3).toNat from (by rw [List.length_take]; have h_ : ((ji3) : Int) ≤ (l0.length : Int) := of_decide_eq_true (by first | (with_reducible assumption) | assumption); omega)] <;> rfl) | rfl) ?_; (with_reducible refine (sum_Fits.calls _ _ (l0.take ((ji3) : Int).toNat) (Go.bits .or .u32 (Go.bits .or .u32 (Go.bits .or .u32 ((rd l0 (ji3)) % 4294967296) ((((rd l0 (ji6)) % 4294967296) * 256) % 4294967296)) ((((rd l0 (ji9)) % 4294967296) * 65536) % 4294967296)) ((((rd l0 (ji12)) % 4294967296) * 16777216) % 4294967296)) false _ ?side1 ?side2 A17.out).mono ?_); (case side1 => repeat (first | exact HR143.out | (with_reducible refine Kd.C_alloc ?_ _) | (with_reducible refine Kd.C_drewN ?_ _) | (with_reducible refine Kd.C_drew ?_))); (case side2 => exact HC143.out); rintro e w27 ⟨rfl, hb⟩; have n0_ := Aside0.mk (below_step (by repeat (first | (with_reducible first | exact HB.out | apply below_alloc | apply pw_below_drewN | apply below_drew1) | exact HB.out)) hb); clear HB; have HB := n0_; clear n0_; (try clear hb); (try clear hb2); (try clear hk); (try clear hi))))
                        go_ret2
                        exact ⟨_, by first | rfl | (simp [errW_none, errW_some] <;> rfl) | (simp only [← hji3, ← hji6, ← hji9, ← hji12]; first | rfl | (simp [errW_none, errW_some] <;> rfl)) | (simp [*, errW_none, errW_some] <;> rfl), by first | exact Kd.R_nil _ _ _ _ _ | exact Kd.N_nil _ _ _ _ _ | exact Kd.V_nil _ _ _ _ _ | exact Kd.Q_nil _ _ _ _ _ | exact Kd.S_nil _ _ _ _ _, by repeat (first | (with_reducible first | exact HB.out | apply below_alloc | apply pw_below_drewN | apply below_drew1) | exact HB.out)⟩
                    · rw [if_neg c16] at H
                      exact absurd H (by simp)
                  · rw [if_neg c14] at H
                    exact absurd H (by simp)
                · rw [if_neg c13] at H
                  exact absurd H (by simp)
              · rw [if_neg c11] at H
                exact absurd H (by simp)
            · rw [if_neg c10] at H
              exact absurd H (by simp)
          · rw [if_neg c8] at H
            exact absurd H (by simp)
        · rw [if_neg c7] at H
          exact absurd H (by simp)
      · rw [if_neg c5] at H
        exact absurd H (by simp)
    · rw [if_neg c4] at H
      exact absurd H (by simp)

end Go.Proofs.Ytdbelgfkhollnaa.Q
