-- written for this claim by a program of the session
import Derived.Test.YtdamiipeijnpnaaQx0
import Derived.Test.YtdamiipeijnpnaaQx19
import Derived.Test.YtdamiipeijnpnaaQx21
import Derived.Test.YtdamiipeijnpnaaQx22
import Derived.Test.YtdamiipeijnpnaaGClone
namespace Go.Proofs.Ytdamiipeijnpnaa.Q
open Go.RowKit Go.Proofs.YtdamiipeijnpnaaW.PrintWords Go.Proofs.YtdamiipeijnpnaaW.PrintLast Go.Proofs.YtdamiipeijnpnaaW.PrintMore
attribute [local go_sem] max2_int min2_int max_two min_two max_three min_three max_four min_four   -- for this text's walks alone
set_option linter.unusedVariables false
set_option linter.unusedSimpArgs false

/-! ### record_Get: function 31 -/
def record_Get.j0 : Nat → List Int → Int → Bool → Option (List Int × Int × Int)
  | 0, _, _, _ => none
  | k + 1, x0, x1, x15 => if x15 = true then (some (([] : List Int), 0, 1)) else (if 0 ≤ x1 then (if x1 ≤ (x0.length : Int) then ((record_length.f k (x0.drop (x1 : Int).toNat)).bind fun bt408 => (if bt408.2 = 0 then ((record_Size.f bt408.1).bind fun t410 => (if ((x0.drop (x1 : Int).toNat).length : Int) < t410 then (some (([] : List Int), 0, 2)) else (if 9 ≤ (wrap64 (9 + bt408.1)) then (if (wrap64 (9 + bt408.1)) ≤ ((x0.drop (x1 : Int).toNat).length : Int) then ((sum_Of.f (((x0.drop (x1 : Int).toNat).take ((wrap64 (9 + bt408.1)) : Int).toNat).drop 9)).bind fun t412 => (if 0 ≤ (wrap64 (9 + bt408.1)) then ((record_back.f ((x0.drop (x1 : Int).toNat).drop ((wrap64 (9 + bt408.1)) : Int).toNat)).bind fun t414 => (if t412 = t414 then ((slices_Clone_byte_byte.f (((x0.drop (x1 : Int).toNat).take ((wrap64 (9 + bt408.1)) : Int).toNat).drop 9)).bind fun t415 => ((record_Size.f bt408.1).bind fun t418 => (some (t415, t418, 0)))) else (some (([] : List Int), 0, 5)))) else (none))) else (none)) else (none)))) else (some (([] : List Int), 0, bt408.2)))) else (none)) else (none))
def record_Get.f (k : Nat) (l0 : List Int) (a1 : Int) : Option (List Int × Int × Int) := if a1 < 0 then (record_Get.j0 k l0 a1 true) else (record_Get.j0 k l0 a1 (decide (a1 > (l0.length : Int))))
theorem record_Get.mono_l : ∀ k, (∀ y0 y1 y2, LeO (record_Get.j0 k y0 y1 y2) (record_Get.j0 (k + 1) y0 y1 y2))
  | 0 => fun _ _ _ r h => by simp [record_Get.j0] at h
  | k + 1 => by
    have ih0 := record_Get.mono_l k
    · intro y0 y1 y2
      unfold record_Get.j0
      repeat' first
      | (with_reducible exact ih0 _ _ _)
      | (with_reducible exact record_length.mono _ _)
      | (with_reducible exact LeO.refl _)
      | (with_reducible exact LeO.none _)
      | (with_reducible refine LeO.ite ?_ ?_)
      | (with_reducible refine LeO.bind ?_ (fun _ => ?_))
      | exact ih0 _ _ _
      | exact record_length.mono _ _
      | exact LeO.none _
      | refine LeO.ite ?_ ?_
      | refine LeO.bind ?_ (fun _ => ?_)
theorem record_Get.mono : ∀ a0 a1 k, LeO (record_Get.f k a0 a1) (record_Get.f (k + 1) a0 a1) := by
  intro a0 a1 k
  have ih0 := record_Get.mono_l k
  unfold record_Get.f
  repeat' first
      | (with_reducible exact ih0 _ _ _)
      | (with_reducible exact record_length.mono _ _)
      | (with_reducible exact LeO.refl _)
      | (with_reducible exact LeO.none _)
      | (with_reducible refine LeO.ite ?_ ?_)
      | (with_reducible refine LeO.bind ?_ (fun _ => ?_))
      | exact ih0 _ _ _
      | exact record_length.mono _ _
      | exact LeO.none _
      | refine LeO.ite ?_ ?_
      | refine LeO.bind ?_ (fun _ => ?_)
def record_Get.T10 : Bool × List (List Nat × List Nat) := (true, [([], []), ([0], [0]), ([], []), ([], []), ([3], [3]), ([2, 4], [2, 4]), ([5, 1], [5]), ([1, 6], [1, 6])])
def record_Get.B10 : List Nat := [0, 1, 0, 0, 8, 28, 63, 127]
theorem record_Get.tab10 : rtab .any (opsOf Try.f31 10) = record_Get.T10 := by kernel_rfl
theorem record_Get.bits10 : waitsOk record_Get.T10.2 record_Get.B10 = true := by kernel_rfl
namespace record_Get
theorem mt_ {α β : Type} {f : α → β} {l : List α} : l.toArray.map f = (l.map f).toArray := List.map_toArray
theorem mc_ {α β : Type} {f : α → β} {a : α} {l : List α} : (a :: l).map f = f a :: l.map f := rfl
theorem mn_ {α β : Type} {f : α → β} : ([] : List α).map f = [] := rfl
abbrev zn_ := @blk_drewN
abbrev zd_ := @blk_drew
abbrev za_ := @blk_alloc
abbrev zf_ := @blk_frozen
abbrev zc_ := @blk_cell
abbrev zs_ := @below_set
abbrev zr_ := @blk_far
abbrev zp_ := @blk_put
abbrev pd_ := @pw_below_drewN
abbrev p1_ := @below_drew1
abbrev pa_ := @below_alloc
abbrev ak_ := @Aside0.mk
abbrev bl_ := @World.block_lt_of_cell?
abbrev ps_ := @below_step
def b_ (n k : Nat) : Array Bool := ((List.range n).map fun i => k.testBit i).toArray
theorem sa_ {α : Type} {l : List α} {i : Nat} {a : α} : l.toArray.setIfInBounds i a = (l.set i a).toArray := List.setIfInBounds_toArray l i a
theorem sz_ {α : Type} {a b : α} {l : List α} : (a :: l).set 0 b = b :: l := rfl
theorem ss_ {α : Type} {a b : α} {l : List α} {n : Nat} : (a :: l).set (n + 1) b = a :: l.set n b := rfl
end record_Get
open record_Get in
set_option maxHeartbeats 8000000 in
set_option maxRecDepth 100000 in
theorem record_Get.calls (k : Nat) (A0 : Option Addr) (c0 : Nat) (l0 : List Int) (a1 : Int) (r1 : List Int) (r2 : Int) (r3 : Int) (w : World) (hr0 : Kd.C (Kd.int .u8) w A0 l0.length l0) (hc0 : l0.length ≤ c0) (h : record_Get.f k l0 a1 = some (r1, r2, r3)) :
    Calls Try.prog 31 #[.slice A0 l0.length c0, .int .i64 a1] w fun e w' => ∃ v0_ : Value, e = .returned (.tuple #[v0_, .int .i64 r2, .int .i64 r3]) ∧ Kd.R (Kd.int .u8) 5 w' w.heap.size (fun _ => True) v0_ r1 ∧ Below w.heap.size w w' := by
  have HR0 := ak_ hr0
  have HC0 := ak_ hc0
  clear hr0 hc0
  have HB := ak_ (Below.refl w.heap.size w)
  have H : (if a1 < 0 then (record_Get.j0 k l0 a1 true) else (record_Get.j0 k l0 a1 (decide (a1 > (l0.length : Int))))) = some (r1, r2, r3) := h
  clear h
  have HC3 := ak_ H
  clear H
  go_enter Try.func31, Try.ntmps31
  go_upto_region 1 with (fail)
  go_cut [15] (fun v15 wc => ∃ (kq : Nat) (x15_2 : Bool), v15 = .bool x15_2 ∧ Aside0 (record_Get.j0 kq l0 a1 x15_2 = some (r1, r2, r3)) ∧ Aside0 (kq ≤ k) ∧ Aside0 (Below w.heap.size w wc))
  case first =>
    have H := HC3.out
    clear HC3
    by_cases c4 : a1 < 0
    · rw [if_pos c4] at H
      have c4b0 : decide (a1 < 0) = true := decide_eq_true c4
      clear c4
      (first | rw [c4b0] | (simp only [i64_w, i32_w]; rw [c4b0]) | skip)
      have H' := ak_ H
      clear H
      go_wp2
      go_meet
      case rel => exact ⟨_, (true), (by first | rfl | (simp; done) | (simp [*]; done)), H', ⟨by first | omega | exact Nat.le_refl _⟩, ⟨by repeat (first | (with_reducible first | exact HB.out | apply pa_ | apply pd_ | apply p1_) | exact HB.out)⟩⟩
    rw [if_neg c4] at H
    have c4b0 : decide (a1 < 0) = false := decide_eq_false c4
    clear c4
    (first | rw [c4b0] | (simp only [i64_w, i32_w]; rw [c4b0]) | skip)
    have H' := ak_ H
    clear H
    go_wp2
    go_meet
    case rel => exact ⟨_, (decide (a1 > (l0.length : Int))), (by first | rfl | (simp; done) | (simp [*]; done)), H', ⟨by first | omega | exact Nat.le_refl _⟩, ⟨by repeat (first | (with_reducible first | exact HB.out | apply pa_ | apply pd_ | apply p1_) | exact HB.out)⟩⟩
  case rest =>
    clear HC3
    try clear p2
    try clear c3
    try clear c4
    try clear c4b0
    obtain ⟨kq, x15_2, rfl, HA, HJ2, HB⟩ := hcut
    cases kq with
    | zero => exact absurd HA.out (by simp [record_Get.j0])
    | succ kj2 =>
      have H := HA.out
      clear HA
      simp only [record_Get.j0] at H
      by_cases c5 : x15_2 = true
      · subst c5
        have H1 : (some (([] : List Int), 0, 1)) = some (r1, r2, r3) := by rw [if_pos rfl] at H; exact H
        clear H
        have H := H1
        clear H1
        simp only [Option.some.injEq, Prod.mk.injEq] at H
        obtain ⟨rfl, rfl, rfl⟩ := H
        go_wp2
        go_ret3
        exact ⟨_, by first | rfl | (simp [errW_none, errW_some] <;> rfl) | (simp [*, errW_none, errW_some] <;> rfl), by first | exact Kd.R_nil _ _ _ _ _ | exact Kd.N_nil _ _ _ _ _ | exact Kd.V_nil _ _ _ _ _ | exact Kd.Q_nil _ _ _ _ _ | exact Kd.S_nil _ _ _ _ _, by repeat (first | (with_reducible first | exact HB.out | apply pa_ | apply pd_ | apply p1_) | exact HB.out)⟩
      replace c5 := Bool.eq_false_iff.mpr c5
      subst c5
      have H1 : (if 0 ≤ a1 then (if a1 ≤ (l0.length : Int) then ((record_length.f kj2 (l0.drop (a1 : Int).toNat)).bind fun bt408 => (if bt408.2 = 0 then ((record_Size.f bt408.1).bind fun t410 => (if ((l0.drop (a1 : Int).toNat).length : Int) < t410 then (some (([] : List Int), 0, 2)) else (if 9 ≤ (wrap64 (9 + bt408.1)) then (if (wrap64 (9 + bt408.1)) ≤ ((l0.drop (a1 : Int).toNat).length : Int) then ((sum_Of.f (((l0.drop (a1 : Int).toNat).take ((wrap64 (9 + bt408.1)) : Int).toNat).drop 9)).bind fun t412 => (if 0 ≤ (wrap64 (9 + bt408.1)) then ((record_back.f ((l0.drop (a1 : Int).toNat).drop ((wrap64 (9 + bt408.1)) : Int).toNat)).bind fun t414 => (if t412 = t414 then ((slices_Clone_byte_byte.f (((l0.drop (a1 : Int).toNat).take ((wrap64 (9 + bt408.1)) : Int).toNat).drop 9)).bind fun t415 => ((record_Size.f bt408.1).bind fun t418 => (some (t415, t418, 0)))) else (some (([] : List Int), 0, 5)))) else (none))) else (none)) else (none)))) else (some (([] : List Int), 0, bt408.2)))) else (none)) else (none)) = some (r1, r2, r3) := by rw [if_neg (show ¬ (false = true) by decide)] at H; exact H
      clear H
      have H := H1
      clear H1
      by_cases c6 : 0 ≤ a1
      · rw [if_pos c6] at H
        have c6b0 := eq_true c6
        have c6b1 : decide (0 ≤ a1) = true := decide_eq_true c6
        clear c6
        by_cases c7 : a1 ≤ (l0.length : Int)
        · rw [if_pos c7] at H
          have c7b0 := eq_true c7
          have c7b1 : decide (a1 ≤ (l0.length : Int)) = true := decide_eq_true c7
          clear c7
          replace H := Option.bind_eq_some_iff.mp H
          obtain ⟨⟨t408, t409⟩, A80, H⟩ := H
          replace H : (if t409 = 0 then ((record_Size.f t408).bind fun t410 => (if ((l0.drop (a1 : Int).toNat).length : Int) < t410 then (some (([] : List Int), 0, 2)) else (if 9 ≤ (wrap64 (9 + t408)) then (if (wrap64 (9 + t408)) ≤ ((l0.drop (a1 : Int).toNat).length : Int) then ((sum_Of.f (((l0.drop (a1 : Int).toNat).take ((wrap64 (9 + t408)) : Int).toNat).drop 9)).bind fun t412 => (if 0 ≤ (wrap64 (9 + t408)) then ((record_back.f ((l0.drop (a1 : Int).toNat).drop ((wrap64 (9 + t408)) : Int).toNat)).bind fun t414 => (if t412 = t414 then ((slices_Clone_byte_byte.f (((l0.drop (a1 : Int).toNat).take ((wrap64 (9 + t408)) : Int).toNat).drop 9)).bind fun t415 => ((record_Size.f t408).bind fun t418 => (some (t415, t418, 0)))) else (some (([] : List Int), 0, 5)))) else (none))) else (none)) else (none)))) else (some (([] : List Int), 0, t409))) = some (r1, r2, r3) := H
          have A8 := ak_ A80
          clear A80
          by_cases c9 : t409 = 0
          · rw [if_pos c9] at H
            have c9b0 : (t409 == 0) = true := beq_iff_eq.mpr c9
            have c9b1 : (t409 != 0) = false := bne_eq_false_iff_eq.mpr c9
            clear c9
            replace H := Option.bind_eq_some_iff.mp H
            obtain ⟨t410, A100, H⟩ := H
            replace H : (if ((l0.drop (a1 : Int).toNat).length : Int) < t410 then (some (([] : List Int), 0, 2)) else (if 9 ≤ (wrap64 (9 + t408)) then (if (wrap64 (9 + t408)) ≤ ((l0.drop (a1 : Int).toNat).length : Int) then ((sum_Of.f (((l0.drop (a1 : Int).toNat).take ((wrap64 (9 + t408)) : Int).toNat).drop 9)).bind fun t412 => (if 0 ≤ (wrap64 (9 + t408)) then ((record_back.f ((l0.drop (a1 : Int).toNat).drop ((wrap64 (9 + t408)) : Int).toNat)).bind fun t414 => (if t412 = t414 then ((slices_Clone_byte_byte.f (((l0.drop (a1 : Int).toNat).take ((wrap64 (9 + t408)) : Int).toNat).drop 9)).bind fun t415 => ((record_Size.f t408).bind fun t418 => (some (t415, t418, 0)))) else (some (([] : List Int), 0, 5)))) else (none))) else (none)) else (none))) = some (r1, r2, r3) := H
            have A10 := ak_ A100
            clear A100
            by_cases c11 : ((l0.drop (a1 : Int).toNat).length : Int) < t410
            · rw [if_pos c11] at H
              have c11b0 : decide (((l0.drop (a1 : Int).toNat).length : Int) < t410) = true := decide_eq_true c11
              (try (have c11b0z_ := c11b0; simp only [List.length_drop, List.length_take] at c11b0z_))
              clear c11
              simp only [Option.some.injEq, Prod.mk.injEq] at H
              obtain ⟨rfl, rfl, rfl⟩ := H
              obtain ⟨i012, hi012, _, hsz12, _⟩ := info_parts info5
              obtain ⟨A12, hcut12, hA12, hC12⟩ := print_drop_of (P := Try.prog) (Value.int .u8) 0 25 5 .i64 Try.underlying25 hi012 hsz12 A0 c0 l0 a1 (of_decide_eq_true (by assumption)) (of_decide_eq_true (by assumption)) HC0.out
              have HR407 := ak_ (Kd.C_of_reads (h1 := fun _ => rfl) (hA12 _ (Kd.reads_of_C HR0.out)))
              have HC407 := ak_ hC12
              clear hA12 hC12 hi012 hsz12
              go_wp2_with (first | ((with_reducible refine gate_callee (f := 45) rfl ?_); refine goesL_ (some 21) rfl rfl Try.func45 (by kernel_rfl) rfl #[.slice A12 (l0.drop (a1 : Int).toNat).length (c0 - a1.toNat)] rfl (by (try simp only [List.map_toArray, List.map_cons, List.map_nil]); first | done | (rw [show (l0.drop (a1 : Int).toNat).length = (l0.length - a1.toNat) from List.length_drop] <;> rfl) | rfl | (simp only [List.length_drop, List.length_take]; rfl)) ?_; (with_reducible refine (record_length.calls kj2 _ _ (l0.drop (a1 : Int).toNat) t408 t409 _ ?side1 ?side2 A8.out).mono ?_); (case side1 => repeat (first | exact (Kd.C_below HR407.out HB.out) | (with_reducible refine Kd.C_alloc ?_ _) | (with_reducible refine Kd.C_drewN ?_ _) | (with_reducible refine Kd.C_drew ?_))); (case side2 => exact HC407.out); rintro e w13 ⟨rfl, hb⟩; refine ⟨_, rfl, ?_⟩; have n0_ := ak_ (ps_ (by repeat (first | (with_reducible first | exact HB.out | apply pa_ | apply pd_ | apply p1_) | exact HB.out)) hb); clear HB; have HB := n0_; clear n0_; (try clear hb hk hi)) | ((with_reducible refine gate_callee (f := 29) rfl ?_); refine goesL_ (some 32) rfl rfl Try.func29 (by kernel_rfl) rfl #[.int .i64 t408] rfl (by simp only [mt_, mc_, mn_] <;> rfl) ?_; (with_reducible refine (record_Size.calls t408 t410 _ A10.out).mono ?_); rintro e w' ⟨rfl, ⟨nd, rfl⟩⟩; refine ⟨_, rfl, ?_⟩))
              go_ret3
              exact ⟨_, by first | rfl | (simp [errW_none, errW_some] <;> rfl) | (simp [*, errW_none, errW_some] <;> rfl), by first | exact Kd.R_nil _ _ _ _ _ | exact Kd.N_nil _ _ _ _ _ | exact Kd.V_nil _ _ _ _ _ | exact Kd.Q_nil _ _ _ _ _ | exact Kd.S_nil _ _ _ _ _, by repeat (first | (with_reducible first | exact HB.out | apply pa_ | apply pd_ | apply p1_) | exact HB.out)⟩
            rw [if_neg c11] at H
            have c11b0 : decide (((l0.drop (a1 : Int).toNat).length : Int) < t410) = false := decide_eq_false c11
            (try (have c11b0z_ := c11b0; simp only [List.length_drop, List.length_take] at c11b0z_))
            clear c11
            by_cases c14 : 9 ≤ (wrap64 (9 + t408))
            · rw [if_pos c14] at H
              have c14b0 := eq_true c14
              have c14b1 : decide (9 ≤ (wrap64 (9 + t408))) = true := decide_eq_true c14
              by_cases c15 : (wrap64 (9 + t408)) ≤ ((l0.drop (a1 : Int).toNat).length : Int)
              · rw [if_pos c15] at H
                have c15b0 := eq_true c15
                have c15b1 : decide ((wrap64 (9 + t408)) ≤ ((l0.drop (a1 : Int).toNat).length : Int)) = true := decide_eq_true c15
                (try (have c15b1z_ := c15b1; simp only [List.length_drop, List.length_take] at c15b1z_))
                replace H := Option.bind_eq_some_iff.mp H
                obtain ⟨t412, A160, H⟩ := H
                replace H : (if 0 ≤ (wrap64 (9 + t408)) then ((record_back.f ((l0.drop (a1 : Int).toNat).drop ((wrap64 (9 + t408)) : Int).toNat)).bind fun t414 => (if t412 = t414 then ((slices_Clone_byte_byte.f (((l0.drop (a1 : Int).toNat).take ((wrap64 (9 + t408)) : Int).toNat).drop 9)).bind fun t415 => ((record_Size.f t408).bind fun t418 => (some (t415, t418, 0)))) else (some (([] : List Int), 0, 5)))) else (none)) = some (r1, r2, r3) := H
                have A16 := ak_ A160
                clear A160
                obtain ⟨ji17, hji17⟩ : ∃ j_ : Int, (wrap64 (9 + t408)) = j_ := ⟨_, rfl⟩
                replace H : (if 0 ≤ (ji17) then ((record_back.f ((l0.drop (a1 : Int).toNat).drop ((ji17) : Int).toNat)).bind fun t414 => (if t412 = t414 then ((slices_Clone_byte_byte.f (((l0.drop (a1 : Int).toNat).take ((ji17) : Int).toNat).drop 9)).bind fun t415 => ((record_Size.f t408).bind fun t418 => (some (t415, t418, 0)))) else (some (([] : List Int), 0, 5)))) else (none)) = some (r1, r2, r3) := by first | (rw [hji17] at H; exact H) | (simp only [hji17] at H ⊢; exact H)
                (try rw [hji17] at c14b0)
                (try rw [hji17] at c14b1)
                (try rw [hji17] at c14)
                (try rw [hji17] at c15b0)
                (try rw [hji17] at c15b1)
                (try rw [hji17] at c15)
                (try rw [hji17] at A8)
                (try rw [hji17] at A10)
                (try rw [hji17] at A16)
                have hji17w : (IntKind.i64.wrap (9 + t408)) = ji17 := (i64_w _).trans hji17
                by_cases c18 : 0 ≤ (ji17)
                · rw [if_pos c18] at H
                  have c18b0 := eq_true c18
                  have c18b1 : decide (0 ≤ (ji17)) = true := decide_eq_true c18
                  clear c18
                  have c19b0 := eq_true (of_decide_eq_true (by assumption) : (ji17) ≤ ((l0.drop (a1 : Int).toNat).length : Int))
                  replace H := Option.bind_eq_some_iff.mp H
                  obtain ⟨t414, A200, H⟩ := H
                  replace H : (if t412 = t414 then ((slices_Clone_byte_byte.f (((l0.drop (a1 : Int).toNat).take ((ji17) : Int).toNat).drop 9)).bind fun t415 => ((record_Size.f t408).bind fun t418 => (some (t415, t418, 0)))) else (some (([] : List Int), 0, 5))) = some (r1, r2, r3) := H
                  have A20 := ak_ A200
                  clear A200
                  by_cases c21 : t412 = t414
                  · rw [if_pos c21] at H
                    have c21b0 : (t412 == t414) = true := beq_iff_eq.mpr c21
                    have c21b1 : (t412 != t414) = false := bne_eq_false_iff_eq.mpr c21
                    clear c21
                    replace H := Option.bind_eq_some_iff.mp H
                    obtain ⟨t415, A220, H⟩ := H
                    replace H : ((record_Size.f t408).bind fun t418 => (some (t415, t418, 0))) = some (r1, r2, r3) := H
                    have A22 := ak_ A220
                    clear A220
                    replace H := Option.bind_eq_some_iff.mp H
                    obtain ⟨t418, A230, H⟩ := H
                    replace H : (some (t415, t418, 0)) = some (r1, r2, r3) := H
                    have A23 := ak_ A230
                    have E23 := ak_ (Option.some.inj (A23.out.symm.trans A10.out))
                    clear A230
                    simp only [Option.some.injEq, Prod.mk.injEq] at H
                    obtain ⟨rfl, rfl, rfl⟩ := H
                    obtain ⟨i024, hi024, _, hsz24, _⟩ := info_parts info5
                    obtain ⟨A24, hcut24, hA24, hC24⟩ := print_drop_of (P := Try.prog) (Value.int .u8) 0 25 5 .i64 Try.underlying25 hi024 hsz24 A0 c0 l0 a1 (of_decide_eq_true (by assumption)) (of_decide_eq_true (by assumption)) HC0.out
                    have HR407 := ak_ (Kd.C_of_reads (h1 := fun _ => rfl) (hA24 _ (Kd.reads_of_C HR0.out)))
                    have HC407 := ak_ hC24
                    clear hA24 hC24 hi024 hsz24
                    try go_wp2_with (first | ((with_reducible refine gate_callee (f := 45) rfl ?_); refine goesL_ (some 21) rfl rfl Try.func45 (by kernel_rfl) rfl #[.slice A24 (l0.drop (a1 : Int).toNat).length (c0 - a1.toNat)] rfl (by (try simp only [List.map_toArray, List.map_cons, List.map_nil]); first | done | (rw [show (l0.drop (a1 : Int).toNat).length = (l0.length - a1.toNat) from List.length_drop] <;> rfl) | rfl | (simp only [List.length_drop, List.length_take]; rfl)) ?_; (with_reducible refine (record_length.calls kj2 _ _ (l0.drop (a1 : Int).toNat) t408 t409 _ ?side1 ?side2 A8.out).mono ?_); (case side1 => repeat (first | exact (Kd.C_below HR407.out HB.out) | (with_reducible refine Kd.C_alloc ?_ _) | (with_reducible refine Kd.C_drewN ?_ _) | (with_reducible refine Kd.C_drew ?_))); (case side2 => exact HC407.out); rintro e w25 ⟨rfl, hb⟩; refine ⟨_, rfl, ?_⟩; have n0_ := ak_ (ps_ (by repeat (first | (with_reducible first | exact HB.out | apply pa_ | apply pd_ | apply p1_) | exact HB.out)) hb); clear HB; have HB := n0_; clear n0_; (try clear hb hk hi)) | ((with_reducible refine gate_callee (f := 29) rfl ?_); refine goesL_ (some 32) rfl rfl Try.func29 (by kernel_rfl) rfl #[.int .i64 t408] rfl (by simp only [mt_, mc_, mn_] <;> rfl) ?_; (with_reducible refine (record_Size.calls t408 t410 _ A10.out).mono ?_); rintro e w' ⟨rfl, ⟨nd, rfl⟩⟩; refine ⟨_, rfl, ?_⟩; obtain ⟨i026, hi026, _, hsz26, _⟩ := info_parts info5; obtain ⟨A26, hcut26, hA26, hC26⟩ := print_mid_of (P := Try.prog) (Value.int .u8) 0 25 5 .i64 .i64 Try.underlying25 hi026 hsz26 A24 (c0 - a1.toNat) (l0.drop (a1 : Int).toNat) 9 (ji17) (by omega) (by first | omega | exact of_decide_eq_true (by assumption)) (of_decide_eq_true (by assumption)) HC407.out; (try (have hcut26z_ := hcut26; simp only [List.length_drop, List.length_take] at hcut26z_)); have HR411 := ak_ (Kd.C_of_reads (h1 := fun _ => rfl) (hA26 _ (Kd.reads_of_C HR407.out))); have HC411 := ak_ hC26; clear hA26 hC26 hi026 hsz26))
                    (try (rw [drewN_self w25]; generalize hq_ : World.drewN w25 _ = w25; have n0_ : Aside0 (Below w.heap.size w w25) := ⟨by rw [← hq_]; exact (by repeat (first | (with_reducible first | exact HB.out | apply pa_ | apply pd_ | apply p1_) | exact HB.out))⟩; clear HB hq_; have HB := n0_; clear n0_))
                    have n0_ := ak_ (p1_ HB.out)
                    clear HB
                    have HB := n0_
                    clear n0_
                    obtain ⟨i028, hi028, _, hsz28, _⟩ := info_parts info5
                    obtain ⟨A28, hcut28, hA28, hC28⟩ := print_drop_of (P := Try.prog) (Value.int .u8) 0 25 5 .i64 Try.underlying25 hi028 hsz28 A24 (c0 - a1.toNat) (l0.drop (a1 : Int).toNat) (ji17) (of_decide_eq_true (by assumption)) (of_decide_eq_true (by assumption)) HC407.out; (try (have hcut28z_ := hcut28; simp only [List.length_drop, List.length_take] at hcut28z_))
                    have HR413 := ak_ (Kd.C_of_reads (h1 := fun _ => rfl) (hA28 _ (Kd.reads_of_C HR407.out)))
                    have HC413 := ak_ hC28
                    clear hA28 hC28 hi028 hsz28
                    refine start_ (n := 8) (S := fun w' => True) (ds := []) #[false, false, false, false, false, false, false, false] (by kernel_rfl) rfl rfl trivial (fun hHeld => ?_); refine with_tabW record_Get.tab10 record_Get.bits10 (fun HT_ HW_ => ?_)
                    generalize w25.drew = w27 at HB HR413 hHeld ⊢
                    refine pure_ (i := 0) (N := some 38) (v := ?_) (a' := ?_) (b_ 8 1) rfl rfl (any_of HT_.out (by kernel_rfl)) (fun _ _ _ h => h) (Or.inl ⟨by rfl, ?_⟩) ?_ ?_; rotate_left; (· intro w'; go_simp; with_reducible rfl); rotate_left; (· simp only [Act.put, sa_, sz_, ss_, i64_w, i32_w]; rfl)
                    refine pure_ (i := 2) (N := some 40) (v := ?_) (a' := ?_) (b_ 8 5) rfl rfl (any_of HT_.out (by kernel_rfl)) (fun _ _ _ h => h) (Or.inl ⟨by rfl, ?_⟩) ?_ ?_; rotate_left; (· intro w'; go_simp; with_reducible rfl); rotate_left; (· simp only [Act.put, sa_, sz_, ss_, i64_w, i32_w]; rfl)
                    refine pure_ (i := 3) (N := some 41) (v := ?_) (a' := ?_) (b_ 8 13) rfl rfl (any_of HT_.out (by kernel_rfl)) (fun _ _ _ h => h) (Or.inl ⟨by rfl, ?_⟩) ?_ ?_; rotate_left; (· intro w'; go_simp; with_reducible rfl); rotate_left; (· simp only [Act.put, sa_, sz_, ss_, i64_w, i32_w]; rfl)
                    refine pure_ (i := 4) (N := some 42) (v := ?_) (a' := ?_) (b_ 8 29) rfl rfl (any_of HT_.out (by kernel_rfl)) (fun _ _ _ h => h) (Or.inl ⟨by rfl, ?_⟩) ?_ ?_; rotate_left; (· intro w'; go_simp; with_reducible rfl); rotate_left; (· simp only [Act.put, sa_, sz_, ss_, i64_w, i32_w]; rfl)
                    refine pure_ (i := 5) (N := some 43) (v := ?_) (a' := ?_) (b_ 8 61) rfl rfl (any_of HT_.out (by kernel_rfl)) (fun _ _ _ h => h) (Or.inl ⟨by rfl, ?_⟩) ?_ ?_; rotate_left; (· intro w'; go_simp; with_reducible rfl); rotate_left; (· simp only [Act.put, sa_, sz_, ss_, i64_w, i32_w]; rfl)
                    refine one_ (i := 1) (N := some 39) (b_ 8 63) rfl rfl (one_of HT_.out (by kernel_rfl)) (by decide) (fun K hK => ?_)
                    refine goes_ Try.func44 (by kernel_rfl) rfl #[.slice A26 (((l0.drop (a1 : Int).toNat).take ((ji17) : Int).toNat).drop 9).length ((c0 - a1.toNat) - 9)] (by rfl) rfl rfl (by (try simp only [List.map_toArray, List.map_cons, List.map_nil]); first | done | (rw [show (((l0.drop (a1 : Int).toNat).take ((ji17) : Int).toNat).drop 9).length = ((ji17).toNat - 9) from (by rw [List.length_drop, List.length_take]; have h_ : ((ji17) : Int) ≤ ((l0.drop (a1 : Int).toNat).length : Int) := of_decide_eq_true (by assumption); omega)] <;> rfl) | (simp only [hji17]; rfl) | rfl | (simp only [List.length_drop, List.length_take]; rfl)) ?_
                    with_reducible refine (sum_Of.calls _ _ (((l0.drop (a1 : Int).toNat).take ((ji17) : Int).toNat).drop 9) t412 _ ?side1 ?side2 A16.out).mono ?_
                    (case side1 => repeat (first | exact (Kd.C_below HR411.out HB.out) | (with_reducible refine Kd.C_alloc ?_ _) | (with_reducible refine Kd.C_drewN ?_ _) | (with_reducible refine Kd.C_drew ?_)))
                    (case side2 => exact HC411.out)
                    rintro e w29 ⟨rfl, hb⟩
                    refine ⟨_, rfl, ?_⟩
                    have n0_ := ak_ (ps_ (by repeat (first | (with_reducible first | exact HB.out | apply pa_ | apply pd_ | apply p1_) | exact HB.out)) hb)
                    clear HB
                    have HB := n0_
                    clear n0_
                    (try clear hb hk hi)
                    refine hK.out _ _ trivial (fun hHeld => ?_)
                    clear hK K
                    refine norm_ (a' := ?_) ?_ ?_
                    rotate_left
                    · show Act.put _ (some 39) _ = _
                      simp only [Act.put, sa_, sz_, ss_, i64_w, i32_w]
                      rfl
                    refine one_ (i := 6) (N := some 44) (b_ 8 127) rfl rfl (one_of HT_.out (by kernel_rfl)) (by decide) (fun K hK => ?_)
                    refine goes_ Try.func46 (by kernel_rfl) rfl #[.slice A28 ((l0.drop (a1 : Int).toNat).drop ((ji17) : Int).toNat).length ((c0 - a1.toNat) - (ji17).toNat)] (by rfl) rfl rfl (by (try simp only [List.map_toArray, List.map_cons, List.map_nil]); first | done | (rw [show ((l0.drop (a1 : Int).toNat).drop ((ji17) : Int).toNat).length = ((l0.drop (a1 : Int).toNat).length - (ji17).toNat) from List.length_drop] <;> rfl) | (simp only [hji17]; rfl) | rfl | (simp only [List.length_drop, List.length_take]; rfl)) ?_
                    with_reducible refine (record_back.calls _ _ ((l0.drop (a1 : Int).toNat).drop ((ji17) : Int).toNat) t414 _ ?side1 ?side2 A20.out).mono ?_
                    (case side1 => repeat (first | exact (Kd.C_below HR413.out HB.out) | (with_reducible refine Kd.C_alloc ?_ _) | (with_reducible refine Kd.C_drewN ?_ _) | (with_reducible refine Kd.C_drew ?_)))
                    (case side2 => exact HC413.out)
                    rintro e w' ⟨rfl, ⟨nd, rfl⟩⟩
                    refine ⟨_, rfl, ?_⟩
                    refine hK.out _ _ trivial (fun hHeld => ?_)
                    clear hK K
                    refine norm_ (a' := ?_) ?_ ?_
                    rotate_left
                    · show Act.put _ (some 44) _ = _
                      simp only [Act.put, sa_, sz_, ss_, i64_w, i32_w]
                      rfl
                    refine pure_ (i := 7) (N := some 45) (v := ?_) (a' := ?_) (b_ 8 255) rfl rfl (any_of HT_.out (by kernel_rfl)) (fun _ _ _ h => h) (Or.inl ⟨by rfl, ?_⟩) ?_ ?_; rotate_left; (· intro w'; go_simp; with_reducible rfl); rotate_left; (· simp only [Act.put, sa_, sz_, ss_, i64_w, i32_w]; rfl)
                    refine done_ (done_of HT_.out (by kernel_rfl)) ?_
                    try go_wp2_with (first | ((with_reducible refine gate_callee (f := 37) rfl ?_); refine goesL_ (some 47) rfl rfl Try.func37 (by kernel_rfl) rfl #[.slice A26 (((l0.drop (a1 : Int).toNat).take ((ji17) : Int).toNat).drop 9).length ((c0 - a1.toNat) - 9)] rfl (by (try simp only [List.map_toArray, List.map_cons, List.map_nil]); first | done | (rw [show (((l0.drop (a1 : Int).toNat).take ((ji17) : Int).toNat).drop 9).length = ((ji17).toNat - 9) from (by rw [List.length_drop, List.length_take]; have h_ : ((ji17) : Int) ≤ ((l0.drop (a1 : Int).toNat).length : Int) := of_decide_eq_true (by assumption); omega)] <;> rfl) | (simp only [hji17]; rfl) | rfl | (simp only [List.length_drop, List.length_take]; rfl)) ?_; (with_reducible refine (slices_Clone_byte_byte.calls _ _ (((l0.drop (a1 : Int).toNat).take ((ji17) : Int).toNat).drop 9) t415 _ ?side1 ?side2 A22.out).mono ?_); (case side1 => repeat (first | exact (Kd.C_below HR411.out (by repeat (first | (with_reducible first | exact HB.out | apply pa_ | apply pd_ | apply p1_) | exact HB.out))) | (with_reducible refine Kd.C_alloc ?_ _) | (with_reducible refine Kd.C_drewN ?_ _) | (with_reducible refine Kd.C_drew ?_))); (case side2 => exact HC411.out); rintro e w30 ⟨v416, rfl, ho0, hb⟩; refine ⟨_, rfl, ?_⟩; have n0_ := ak_ (Kd.R_lower ho0 (below_size (by repeat (first | (with_reducible first | exact HB.out | apply pa_ | apply pd_ | apply p1_) | exact HB.out)))); have n1_ := ak_ (ps_ (by repeat (first | (with_reducible first | exact HB.out | apply pa_ | apply pd_ | apply p1_) | exact HB.out)) hb); clear HB; have HO417 := n0_; have HB := n1_; clear n0_ n1_; (try clear hb hk hi); (try clear ho0)) | ((with_reducible refine gate_callee (f := 29) rfl ?_); refine goesL_ (some 49) rfl rfl Try.func29 (by kernel_rfl) rfl #[.int .i64 t408] rfl (by simp only [mt_, mc_, mn_] <;> rfl) ?_; (with_reducible refine (record_Size.calls t408 t418 _ A23.out).mono ?_); rintro e w' ⟨rfl, ⟨nd, rfl⟩⟩; refine ⟨_, rfl, ?_⟩))
                    go_ret3
                    exact ⟨_, by first | rfl | (simp [errW_none, errW_some] <;> rfl) | (simp only [← hji17]; first | rfl | (simp [errW_none, errW_some] <;> rfl)) | (simp [*, errW_none, errW_some] <;> rfl), by (with_reducible repeat (first | apply Kd.R_alloc | apply Kd.R_drewN | apply Kd.R_drew)); exact HO417.out, by repeat (first | (with_reducible first | exact HB.out | apply pa_ | apply pd_ | apply p1_) | exact HB.out)⟩
                  rw [if_neg c21] at H
                  have c21b0 : (t412 == t414) = false := beq_eq_false_iff_ne.mpr c21
                  have c21b1 : (t412 != t414) = true := bne_iff_ne.mpr c21
                  simp only [Option.some.injEq, Prod.mk.injEq] at H
                  obtain ⟨rfl, rfl, rfl⟩ := H
                  obtain ⟨i031, hi031, _, hsz31, _⟩ := info_parts info5
                  obtain ⟨A31, hcut31, hA31, hC31⟩ := print_drop_of (P := Try.prog) (Value.int .u8) 0 25 5 .i64 Try.underlying25 hi031 hsz31 A0 c0 l0 a1 (of_decide_eq_true (by assumption)) (of_decide_eq_true (by assumption)) HC0.out
                  have HR407 := ak_ (Kd.C_of_reads (h1 := fun _ => rfl) (hA31 _ (Kd.reads_of_C HR0.out)))
                  have HC407 := ak_ hC31
                  clear hA31 hC31 hi031 hsz31
                  try go_wp2_with (first | ((with_reducible refine gate_callee (f := 45) rfl ?_); refine goesL_ (some 21) rfl rfl Try.func45 (by kernel_rfl) rfl #[.slice A31 (l0.drop (a1 : Int).toNat).length (c0 - a1.toNat)] rfl (by (try simp only [List.map_toArray, List.map_cons, List.map_nil]); first | done | (rw [show (l0.drop (a1 : Int).toNat).length = (l0.length - a1.toNat) from List.length_drop] <;> rfl) | rfl | (simp only [List.length_drop, List.length_take]; rfl)) ?_; (with_reducible refine (record_length.calls kj2 _ _ (l0.drop (a1 : Int).toNat) t408 t409 _ ?side1 ?side2 A8.out).mono ?_); (case side1 => repeat (first | exact (Kd.C_below HR407.out HB.out) | (with_reducible refine Kd.C_alloc ?_ _) | (with_reducible refine Kd.C_drewN ?_ _) | (with_reducible refine Kd.C_drew ?_))); (case side2 => exact HC407.out); rintro e w32 ⟨rfl, hb⟩; refine ⟨_, rfl, ?_⟩; have n0_ := ak_ (ps_ (by repeat (first | (with_reducible first | exact HB.out | apply pa_ | apply pd_ | apply p1_) | exact HB.out)) hb); clear HB; have HB := n0_; clear n0_; (try clear hb hk hi)) | ((with_reducible refine gate_callee (f := 29) rfl ?_); refine goesL_ (some 32) rfl rfl Try.func29 (by kernel_rfl) rfl #[.int .i64 t408] rfl (by simp only [mt_, mc_, mn_] <;> rfl) ?_; (with_reducible refine (record_Size.calls t408 t410 _ A10.out).mono ?_); rintro e w' ⟨rfl, ⟨nd, rfl⟩⟩; refine ⟨_, rfl, ?_⟩; obtain ⟨i033, hi033, _, hsz33, _⟩ := info_parts info5; obtain ⟨A33, hcut33, hA33, hC33⟩ := print_mid_of (P := Try.prog) (Value.int .u8) 0 25 5 .i64 .i64 Try.underlying25 hi033 hsz33 A31 (c0 - a1.toNat) (l0.drop (a1 : Int).toNat) 9 (ji17) (by omega) (by first | omega | exact of_decide_eq_true (by assumption)) (of_decide_eq_true (by assumption)) HC407.out; (try (have hcut33z_ := hcut33; simp only [List.length_drop, List.length_take] at hcut33z_)); have HR411 := ak_ (Kd.C_of_reads (h1 := fun _ => rfl) (hA33 _ (Kd.reads_of_C HR407.out))); have HC411 := ak_ hC33; clear hA33 hC33 hi033 hsz33))
                  (try (rw [drewN_self w32]; generalize hq_ : World.drewN w32 _ = w32; have n0_ : Aside0 (Below w.heap.size w w32) := ⟨by rw [← hq_]; exact (by repeat (first | (with_reducible first | exact HB.out | apply pa_ | apply pd_ | apply p1_) | exact HB.out))⟩; clear HB hq_; have HB := n0_; clear n0_))
                  have n0_ := ak_ (p1_ HB.out)
                  clear HB
                  have HB := n0_
                  clear n0_
                  obtain ⟨i035, hi035, _, hsz35, _⟩ := info_parts info5
                  obtain ⟨A35, hcut35, hA35, hC35⟩ := print_drop_of (P := Try.prog) (Value.int .u8) 0 25 5 .i64 Try.underlying25 hi035 hsz35 A31 (c0 - a1.toNat) (l0.drop (a1 : Int).toNat) (ji17) (of_decide_eq_true (by assumption)) (of_decide_eq_true (by assumption)) HC407.out; (try (have hcut35z_ := hcut35; simp only [List.length_drop, List.length_take] at hcut35z_))
                  have HR413 := ak_ (Kd.C_of_reads (h1 := fun _ => rfl) (hA35 _ (Kd.reads_of_C HR407.out)))
                  have HC413 := ak_ hC35
                  clear hA35 hC35 hi035 hsz35
                  refine start_ (n := 8) (S := fun w' => True) (ds := []) #[false, false, false, false, false, false, false, false] (by kernel_rfl) rfl rfl trivial (fun hHeld => ?_); refine with_tabW record_Get.tab10 record_Get.bits10 (fun HT_ HW_ => ?_)
                  generalize w32.drew = w34 at HB HR413 hHeld ⊢
                  refine pure_ (i := 0) (N := some 38) (v := ?_) (a' := ?_) (b_ 8 1) rfl rfl (any_of HT_.out (by kernel_rfl)) (fun _ _ _ h => h) (Or.inl ⟨by rfl, ?_⟩) ?_ ?_; rotate_left; (· intro w'; go_simp; with_reducible rfl); rotate_left; (· simp only [Act.put, sa_, sz_, ss_, i64_w, i32_w]; rfl)
                  refine pure_ (i := 2) (N := some 40) (v := ?_) (a' := ?_) (b_ 8 5) rfl rfl (any_of HT_.out (by kernel_rfl)) (fun _ _ _ h => h) (Or.inl ⟨by rfl, ?_⟩) ?_ ?_; rotate_left; (· intro w'; go_simp; with_reducible rfl); rotate_left; (· simp only [Act.put, sa_, sz_, ss_, i64_w, i32_w]; rfl)
                  refine pure_ (i := 3) (N := some 41) (v := ?_) (a' := ?_) (b_ 8 13) rfl rfl (any_of HT_.out (by kernel_rfl)) (fun _ _ _ h => h) (Or.inl ⟨by rfl, ?_⟩) ?_ ?_; rotate_left; (· intro w'; go_simp; with_reducible rfl); rotate_left; (· simp only [Act.put, sa_, sz_, ss_, i64_w, i32_w]; rfl)
                  refine pure_ (i := 4) (N := some 42) (v := ?_) (a' := ?_) (b_ 8 29) rfl rfl (any_of HT_.out (by kernel_rfl)) (fun _ _ _ h => h) (Or.inl ⟨by rfl, ?_⟩) ?_ ?_; rotate_left; (· intro w'; go_simp; with_reducible rfl); rotate_left; (· simp only [Act.put, sa_, sz_, ss_, i64_w, i32_w]; rfl)
                  refine pure_ (i := 5) (N := some 43) (v := ?_) (a' := ?_) (b_ 8 61) rfl rfl (any_of HT_.out (by kernel_rfl)) (fun _ _ _ h => h) (Or.inl ⟨by rfl, ?_⟩) ?_ ?_; rotate_left; (· intro w'; go_simp; with_reducible rfl); rotate_left; (· simp only [Act.put, sa_, sz_, ss_, i64_w, i32_w]; rfl)
                  refine one_ (i := 1) (N := some 39) (b_ 8 63) rfl rfl (one_of HT_.out (by kernel_rfl)) (by decide) (fun K hK => ?_)
                  refine goes_ Try.func44 (by kernel_rfl) rfl #[.slice A33 (((l0.drop (a1 : Int).toNat).take ((ji17) : Int).toNat).drop 9).length ((c0 - a1.toNat) - 9)] (by rfl) rfl rfl (by (try simp only [List.map_toArray, List.map_cons, List.map_nil]); first | done | (rw [show (((l0.drop (a1 : Int).toNat).take ((ji17) : Int).toNat).drop 9).length = ((ji17).toNat - 9) from (by rw [List.length_drop, List.length_take]; have h_ : ((ji17) : Int) ≤ ((l0.drop (a1 : Int).toNat).length : Int) := of_decide_eq_true (by assumption); omega)] <;> rfl) | (simp only [hji17]; rfl) | rfl | (simp only [List.length_drop, List.length_take]; rfl)) ?_
                  with_reducible refine (sum_Of.calls _ _ (((l0.drop (a1 : Int).toNat).take ((ji17) : Int).toNat).drop 9) t412 _ ?side1 ?side2 A16.out).mono ?_
                  (case side1 => repeat (first | exact (Kd.C_below HR411.out HB.out) | (with_reducible refine Kd.C_alloc ?_ _) | (with_reducible refine Kd.C_drewN ?_ _) | (with_reducible refine Kd.C_drew ?_)))
                  (case side2 => exact HC411.out)
                  rintro e w36 ⟨rfl, hb⟩
                  refine ⟨_, rfl, ?_⟩
                  have n0_ := ak_ (ps_ (by repeat (first | (with_reducible first | exact HB.out | apply pa_ | apply pd_ | apply p1_) | exact HB.out)) hb)
                  clear HB
                  have HB := n0_
                  clear n0_
                  (try clear hb hk hi)
                  refine hK.out _ _ trivial (fun hHeld => ?_)
                  clear hK K
                  refine norm_ (a' := ?_) ?_ ?_
                  rotate_left
                  · show Act.put _ (some 39) _ = _
                    simp only [Act.put, sa_, sz_, ss_, i64_w, i32_w]
                    rfl
                  refine one_ (i := 6) (N := some 44) (b_ 8 127) rfl rfl (one_of HT_.out (by kernel_rfl)) (by decide) (fun K hK => ?_)
                  refine goes_ Try.func46 (by kernel_rfl) rfl #[.slice A35 ((l0.drop (a1 : Int).toNat).drop ((ji17) : Int).toNat).length ((c0 - a1.toNat) - (ji17).toNat)] (by rfl) rfl rfl (by (try simp only [List.map_toArray, List.map_cons, List.map_nil]); first | done | (rw [show ((l0.drop (a1 : Int).toNat).drop ((ji17) : Int).toNat).length = ((l0.drop (a1 : Int).toNat).length - (ji17).toNat) from List.length_drop] <;> rfl) | (simp only [hji17]; rfl) | rfl | (simp only [List.length_drop, List.length_take]; rfl)) ?_
                  with_reducible refine (record_back.calls _ _ ((l0.drop (a1 : Int).toNat).drop ((ji17) : Int).toNat) t414 _ ?side1 ?side2 A20.out).mono ?_
                  (case side1 => repeat (first | exact (Kd.C_below HR413.out HB.out) | (with_reducible refine Kd.C_alloc ?_ _) | (with_reducible refine Kd.C_drewN ?_ _) | (with_reducible refine Kd.C_drew ?_)))
                  (case side2 => exact HC413.out)
                  rintro e w' ⟨rfl, ⟨nd, rfl⟩⟩
                  refine ⟨_, rfl, ?_⟩
                  refine hK.out _ _ trivial (fun hHeld => ?_)
                  clear hK K
                  refine norm_ (a' := ?_) ?_ ?_
                  rotate_left
                  · show Act.put _ (some 44) _ = _
                    simp only [Act.put, sa_, sz_, ss_, i64_w, i32_w]
                    rfl
                  refine pure_ (i := 7) (N := some 45) (v := ?_) (a' := ?_) (b_ 8 255) rfl rfl (any_of HT_.out (by kernel_rfl)) (fun _ _ _ h => h) (Or.inl ⟨by rfl, ?_⟩) ?_ ?_; rotate_left; (· intro w'; go_simp; with_reducible rfl); rotate_left; (· simp only [Act.put, sa_, sz_, ss_, i64_w, i32_w]; rfl)
                  refine done_ (done_of HT_.out (by kernel_rfl)) ?_
                  try go_wp2
                  go_ret3
                  exact ⟨_, by first | rfl | (simp [errW_none, errW_some] <;> rfl) | (simp only [← hji17]; first | rfl | (simp [errW_none, errW_some] <;> rfl)) | (simp [*, errW_none, errW_some] <;> rfl), by first | exact Kd.R_nil _ _ _ _ _ | exact Kd.N_nil _ _ _ _ _ | exact Kd.V_nil _ _ _ _ _ | exact Kd.Q_nil _ _ _ _ _ | exact Kd.S_nil _ _ _ _ _, by repeat (first | (with_reducible first | exact HB.out | apply pa_ | apply pd_ | apply p1_) | exact HB.out)⟩
                rw [if_neg c18] at H
                exact absurd H (by simp)
              rw [if_neg c15] at H
              exact absurd H (by simp)
            rw [if_neg c14] at H
            exact absurd H (by simp)
          rw [if_neg c9] at H
          have c9b0 : (t409 == 0) = false := beq_eq_false_iff_ne.mpr c9
          have c9b1 : (t409 != 0) = true := bne_iff_ne.mpr c9
          simp only [Option.some.injEq, Prod.mk.injEq] at H
          obtain ⟨rfl, rfl, rfl⟩ := H
          obtain ⟨i037, hi037, _, hsz37, _⟩ := info_parts info5
          obtain ⟨A37, hcut37, hA37, hC37⟩ := print_drop_of (P := Try.prog) (Value.int .u8) 0 25 5 .i64 Try.underlying25 hi037 hsz37 A0 c0 l0 a1 (of_decide_eq_true (by assumption)) (of_decide_eq_true (by assumption)) HC0.out
          have HR407 := ak_ (Kd.C_of_reads (h1 := fun _ => rfl) (hA37 _ (Kd.reads_of_C HR0.out)))
          have HC407 := ak_ hC37
          clear hA37 hC37 hi037 hsz37
          go_wp2_with (first | ((with_reducible refine gate_callee (f := 45) rfl ?_); refine goesL_ (some 21) rfl rfl Try.func45 (by kernel_rfl) rfl #[.slice A37 (l0.drop (a1 : Int).toNat).length (c0 - a1.toNat)] rfl (by (try simp only [List.map_toArray, List.map_cons, List.map_nil]); first | done | (rw [show (l0.drop (a1 : Int).toNat).length = (l0.length - a1.toNat) from List.length_drop] <;> rfl) | rfl | (simp only [List.length_drop, List.length_take]; rfl)) ?_; (with_reducible refine (record_length.calls kj2 _ _ (l0.drop (a1 : Int).toNat) t408 t409 _ ?side1 ?side2 A8.out).mono ?_); (case side1 => repeat (first | exact (Kd.C_below HR407.out HB.out) | (with_reducible refine Kd.C_alloc ?_ _) | (with_reducible refine Kd.C_drewN ?_ _) | (with_reducible refine Kd.C_drew ?_))); (case side2 => exact HC407.out); rintro e w38 ⟨rfl, hb⟩; refine ⟨_, rfl, ?_⟩; have n0_ := ak_ (ps_ (by repeat (first | (with_reducible first | exact HB.out | apply pa_ | apply pd_ | apply p1_) | exact HB.out)) hb); clear HB; have HB := n0_; clear n0_; (try clear hb hk hi)))
          go_ret3
          exact ⟨_, by first | rfl | (simp [errW_none, errW_some] <;> rfl) | (simp [*, errW_none, errW_some] <;> rfl), by first | exact Kd.R_nil _ _ _ _ _ | exact Kd.N_nil _ _ _ _ _ | exact Kd.V_nil _ _ _ _ _ | exact Kd.Q_nil _ _ _ _ _ | exact Kd.S_nil _ _ _ _ _, by repeat (first | (with_reducible first | exact HB.out | apply pa_ | apply pd_ | apply p1_) | exact HB.out)⟩
        rw [if_neg c7] at H
        exact absurd H (by simp)
      rw [if_neg c6] at H
      exact absurd H (by simp)

end Go.Proofs.Ytdamiipeijnpnaa.Q
