-- written for this claim by a program of the session
import Derived.Test.YtdamiipeijnpnaaQx0
import Derived.Test.YtdamiipeijnpnaaQx19
import Derived.Test.YtdamiipeijnpnaaQx21
namespace Go.Proofs.Ytdamiipeijnpnaa.Q
open Go.RowKit Go.Proofs.YtdamiipeijnpnaaW.PrintWords Go.Proofs.YtdamiipeijnpnaaW.PrintLast Go.Proofs.YtdamiipeijnpnaaW.PrintMore
attribute [local go_sem] max2_int min2_int max_two min_two max_three min_three max_four min_four   -- for this text's walks alone
set_option linter.unusedVariables false
set_option linter.unusedSimpArgs false

/-! ### record_length: function 45 -/
def record_length.j0 : Nat → List Int → Bool → Option (Int × Int)
  | 0, _, _ => none
  | k + 1, x0, x5 => if x5 = true then (some (0, 3)) else (if (x0.length : Int) < 9 then (some (0, 2)) else (if 1 ≤ 5 then (if 5 ≤ (x0.length : Int) then ((sum_Of.f ((x0.take 5).drop 1)).bind fun t402 => (if 5 ≤ 9 then (if 9 ≤ (x0.length : Int) then ((record_back.f ((x0.take 9).drop 5)).bind fun t404 => (if t402 = t404 then ((record_back.f ((x0.take 5).drop 1)).bind fun t406 => (if t406 > 65536 then (some (0, 4)) else (some (wrap64 (t406), 0)))) else (some (0, 5)))) else (none)) else (none))) else (none)) else (none)))
def record_length.f (k : Nat) (l0 : List Int) : Option (Int × Int) := if (l0.length : Int) > 0 then (if 0 < (l0.length : Int) then (record_length.j0 k l0 ((rd l0 0) != 90)) else (none)) else (record_length.j0 k l0 false)
theorem record_length.mono_l : ∀ k, (∀ y0 y1, LeO (record_length.j0 k y0 y1) (record_length.j0 (k + 1) y0 y1))
  | 0 => fun _ _ r h => by simp [record_length.j0] at h
  | k + 1 => by
    have ih0 := record_length.mono_l k
    · intro y0 y1
      unfold record_length.j0
      repeat' first
      | (with_reducible exact ih0 _ _)
      | (with_reducible exact LeO.refl _)
      | (with_reducible exact LeO.none _)
      | (with_reducible refine LeO.ite ?_ ?_)
      | (with_reducible refine LeO.bind ?_ (fun _ => ?_))
      | exact ih0 _ _
      | exact LeO.none _
      | refine LeO.ite ?_ ?_
      | refine LeO.bind ?_ (fun _ => ?_)
theorem record_length.mono : ∀ a0 k, LeO (record_length.f k a0) (record_length.f (k + 1) a0) := by
  intro a0 k
  have ih0 := record_length.mono_l k
  unfold record_length.f
  repeat' first
      | (with_reducible exact ih0 _ _)
      | (with_reducible exact LeO.refl _)
      | (with_reducible exact LeO.none _)
      | (with_reducible refine LeO.ite ?_ ?_)
      | (with_reducible refine LeO.bind ?_ (fun _ => ?_))
      | exact ih0 _ _
      | exact LeO.none _
      | refine LeO.ite ?_ ?_
      | refine LeO.bind ?_ (fun _ => ?_)
def record_length.T5 : Bool × List (List Nat × List Nat) := (true, [([], []), ([0], [0]), ([1], [1]), ([], []), ([3], [3]), ([4, 2], [4]), ([2, 5], [2, 5]), ([6, 5], [6])])
def record_length.B5 : List Nat := [0, 1, 3, 0, 8, 31, 63, 127]
theorem record_length.tab5 : rtab .any (opsOf Try.f45 5) = record_length.T5 := by kernel_rfl
theorem record_length.bits5 : waitsOk record_length.T5.2 record_length.B5 = true := by kernel_rfl
namespace record_length
theorem mt_ {α β : Type} {f : α → β} {l : List α} : l.toArray.map f = (l.map f).toArray := List.map_toArray
theorem mc_ {α β : Type} {f : α → β} {a : α} {l : List α} : (a :: l).map f = f a :: l.map f := rfl
theorem mn_ {α β : Type} {f : α → β} : ([] : List α).map f = [] := rfl
abbrev zn_ := @blk_drewN
abbrev zd_ := @blk_drew
abbrev za_ := @blk_alloc
abbrev zf_ := @blk_frozen
abbrev zc_ := @blk_cell
abbrev zs_ := @below_set
abbrev zr_ := @blk_far
abbrev zp_ := @blk_put
abbrev pd_ := @pw_below_drewN
abbrev p1_ := @below_drew1
abbrev pa_ := @below_alloc
abbrev ak_ := @Aside0.mk
abbrev bl_ := @World.block_lt_of_cell?
abbrev ps_ := @below_step
def b_ (n k : Nat) : Array Bool := ((List.range n).map fun i => k.testBit i).toArray
theorem sa_ {α : Type} {l : List α} {i : Nat} {a : α} : l.toArray.setIfInBounds i a = (l.set i a).toArray := List.setIfInBounds_toArray l i a
theorem sz_ {α : Type} {a b : α} {l : List α} : (a :: l).set 0 b = b :: l := rfl
theorem ss_ {α : Type} {a b : α} {l : List α} {n : Nat} : (a :: l).set (n + 1) b = a :: l.set n b := rfl
end record_length
open record_length in
set_option maxHeartbeats 8000000 in
set_option maxRecDepth 100000 in
theorem record_length.calls (k : Nat) (A0 : Option Addr) (c0 : Nat) (l0 : List Int) (r1 : Int) (r2 : Int) (w : World) (hr0 : Kd.C (Kd.int .u8) w A0 l0.length l0) (hc0 : l0.length ≤ c0) (h : record_length.f k l0 = some (r1, r2)) :
    Calls Try.prog 45 #[.slice A0 l0.length c0] w fun e w' => e = .returned (.tuple #[.int .i64 r1, .int .i64 r2]) ∧ Below w.heap.size w w' := by
  have HR0 := ak_ hr0
  have HC0 := ak_ hc0
  clear hr0 hc0
  have HB := ak_ (Below.refl w.heap.size w)
  have H : (if (l0.length : Int) > 0 then (if 0 < (l0.length : Int) then (record_length.j0 k l0 ((rd l0 0) != 90)) else (none)) else (record_length.j0 k l0 false)) = some (r1, r2) := h
  clear h
  have HC2 := ak_ H
  clear H
  go_enter Try.func45, Try.ntmps45
  go_upto_region 1 with (fail)
  go_cut [5] (fun v5 wc => ∃ (kq : Nat) (x5_1 : Bool), v5 = .bool x5_1 ∧ Aside0 (record_length.j0 kq l0 x5_1 = some (r1, r2)) ∧ Aside0 (kq ≤ k) ∧ Aside0 (Below w.heap.size w wc))
  case first =>
    have H := HC2.out
    clear HC2
    by_cases c3 : (l0.length : Int) > 0
    · rw [if_pos c3] at H
      have c3b0 : decide (0 < (l0.length : Int)) = true := decide_eq_true c3
      have c3b1 : decide (0 < l0.length) = true := decide_eq_true (by omega)
      clear c3
      (first | rw [c3b0] | (simp only [i64_w, i32_w]; rw [c3b0]) | skip)
      by_cases c4 : 0 < (l0.length : Int)
      · rw [if_pos c4] at H
        have c4b0 : decide (0 < (l0.length : Int)) = true := decide_eq_true c4
        have c4b1 : decide (0 < l0.length) = true := decide_eq_true (by omega)
        clear c4
        have H' := ak_ H
        clear H
        have p400 : 0 ≤ (0 : Int) := (by omega)
        have q400 : 0 < (l0.length : Int) := of_decide_eq_true (by assumption)
        obtain ⟨ad400, e400, hx400_0⟩ := Kd.at_int HR0.out 0 p400 q400
        cases e400
        have qi400 : (0 < l0.length) = True := eq_true (by omega)
        (try rw [show ((0 : Int)).toNat = 0 from rfl] at hx400_0)
        (try rw [Addr.add_zero'] at hx400_0)
        replace hx400_0 := (HB.out.cell (bl_ w _ hx400_0)).trans hx400_0
        replace p400 := eq_true p400
        replace q400 := eq_true q400
        go_wp2
        go_meet
        case rel => exact ⟨_, (((rd l0 0) != 90)), (by first | rfl | (simp; done) | (simp [*]; done)), H', ⟨by first | omega | exact Nat.le_refl _⟩, ⟨by repeat (first | (with_reducible first | exact HB.out | apply pa_ | apply pd_ | apply p1_) | exact HB.out)⟩⟩
      rw [if_neg c4] at H
      exact absurd H (by simp)
    rw [if_neg c3] at H
    have c3b0 : decide (0 < (l0.length : Int)) = false := decide_eq_false c3
    have c3b1 : decide (0 < l0.length) = false := decide_eq_false (by omega)
    clear c3
    (first | rw [c3b0] | (simp only [i64_w, i32_w]; rw [c3b0]) | skip)
    have H' := ak_ H
    clear H
    go_wp2
    go_meet
    case rel => exact ⟨_, (false), (by first | rfl | (simp; done) | (simp [*]; done)), H', ⟨by first | omega | exact Nat.le_refl _⟩, ⟨by repeat (first | (with_reducible first | exact HB.out | apply pa_ | apply pd_ | apply p1_) | exact HB.out)⟩⟩
  case rest =>
    clear HC2
    try clear p2
    try clear c3
    try clear c3b0
    try clear c3b1
    try clear c4
    try clear c4b0
    try clear c4b1
    try clear p4
    try clear q4
    try clear hx4
    try clear qi4
    try clear hx400_0
    try clear p400
    try clear q400
    obtain ⟨kq, x5_1, rfl, HA, HJ1, HB⟩ := hcut
    cases kq with
    | zero => exact absurd HA.out (by simp [record_length.j0])
    | succ kj1 =>
      have H := HA.out
      clear HA
      simp only [record_length.j0] at H
      by_cases c5 : x5_1 = true
      · subst c5
        have H1 : (some (0, 3)) = some (r1, r2) := by rw [if_pos rfl] at H; exact H
        clear H
        have H := H1
        clear H1
        simp only [Option.some.injEq, Prod.mk.injEq] at H
        obtain ⟨rfl, rfl⟩ := H
        go_wp2
        go_ret2
        exact ⟨by first | rfl | (simp [errW_none, errW_some] <;> rfl) | (simp [*, errW_none, errW_some] <;> rfl), by repeat (first | (with_reducible first | exact HB.out | apply pa_ | apply pd_ | apply p1_) | exact HB.out)⟩
      replace c5 := Bool.eq_false_iff.mpr c5
      subst c5
      have H1 : (if (l0.length : Int) < 9 then (some (0, 2)) else (if 1 ≤ 5 then (if 5 ≤ (l0.length : Int) then ((sum_Of.f ((l0.take 5).drop 1)).bind fun t402 => (if 5 ≤ 9 then (if 9 ≤ (l0.length : Int) then ((record_back.f ((l0.take 9).drop 5)).bind fun t404 => (if t402 = t404 then ((record_back.f ((l0.take 5).drop 1)).bind fun t406 => (if t406 > 65536 then (some (0, 4)) else (some (wrap64 (t406), 0)))) else (some (0, 5)))) else (none)) else (none))) else (none)) else (none))) = some (r1, r2) := by rw [if_neg (show ¬ (false = true) by decide)] at H; exact H
      clear H
      have H := H1
      clear H1
      by_cases c6 : (l0.length : Int) < 9
      · rw [if_pos c6] at H
        have c6b0 : decide ((l0.length : Int) < 9) = true := decide_eq_true c6
        have c6b1 : decide (l0.length < 9) = true := decide_eq_true (by omega)
        clear c6
        simp only [Option.some.injEq, Prod.mk.injEq] at H
        obtain ⟨rfl, rfl⟩ := H
        go_wp2
        go_ret2
        exact ⟨by first | rfl | (simp [errW_none, errW_some] <;> rfl) | (simp [*, errW_none, errW_some] <;> rfl), by repeat (first | (with_reducible first | exact HB.out | apply pa_ | apply pd_ | apply p1_) | exact HB.out)⟩
      rw [if_neg c6] at H
      have c6b0 : decide ((l0.length : Int) < 9) = false := decide_eq_false c6
      have c6b1 : decide (l0.length < 9) = false := decide_eq_false (by omega)
      clear c6
      by_cases c7 : 1 ≤ 5
      · rw [if_pos c7] at H
        have c7b0 := eq_true c7
        have c7b1 : decide (1 ≤ 5) = true := decide_eq_true c7
        clear c7
        by_cases c8 : 5 ≤ (l0.length : Int)
        · rw [if_pos c8] at H
          have c8b0 := eq_true c8
          have c8b1 : decide (5 ≤ (l0.length : Int)) = true := decide_eq_true c8
          clear c8
          replace H := Option.bind_eq_some_iff.mp H
          obtain ⟨t402, A90, H⟩ := H
          replace H : (if 5 ≤ 9 then (if 9 ≤ (l0.length : Int) then ((record_back.f ((l0.take 9).drop 5)).bind fun t404 => (if t402 = t404 then ((record_back.f ((l0.take 5).drop 1)).bind fun t406 => (if t406 > 65536 then (some (0, 4)) else (some (wrap64 (t406), 0)))) else (some (0, 5)))) else (none)) else (none)) = some (r1, r2) := H
          have A9 := ak_ A90
          clear A90
          by_cases c10 : 5 ≤ 9
          · rw [if_pos c10] at H
            have c10b0 := eq_true c10
            have c10b1 : decide (5 ≤ 9) = true := decide_eq_true c10
            clear c10
            by_cases c11 : 9 ≤ (l0.length : Int)
            · rw [if_pos c11] at H
              have c11b0 := eq_true c11
              have c11b1 : decide (9 ≤ (l0.length : Int)) = true := decide_eq_true c11
              clear c11
              replace H := Option.bind_eq_some_iff.mp H
              obtain ⟨t404, A120, H⟩ := H
              replace H : (if t402 = t404 then ((record_back.f ((l0.take 5).drop 1)).bind fun t406 => (if t406 > 65536 then (some (0, 4)) else (some (wrap64 (t406), 0)))) else (some (0, 5))) = some (r1, r2) := H
              have A12 := ak_ A120
              clear A120
              by_cases c13 : t402 = t404
              · rw [if_pos c13] at H
                have c13b0 : (t402 == t404) = true := beq_iff_eq.mpr c13
                have c13b1 : (t402 != t404) = false := bne_eq_false_iff_eq.mpr c13
                clear c13
                have c14b0 := eq_true (of_decide_eq_true (by assumption) : 1 ≤ 5)
                have c15b0 := eq_true (of_decide_eq_true (by assumption) : 5 ≤ (l0.length : Int))
                replace H := Option.bind_eq_some_iff.mp H
                obtain ⟨t406, A160, H⟩ := H
                replace H : (if t406 > 65536 then (some (0, 4)) else (some (wrap64 (t406), 0))) = some (r1, r2) := H
                have A16 := ak_ A160
                clear A160
                by_cases c17 : t406 > 65536
                · rw [if_pos c17] at H
                  have c17b0 : decide (65536 < t406) = true := decide_eq_true c17
                  clear c17
                  simp only [Option.some.injEq, Prod.mk.injEq] at H
                  obtain ⟨rfl, rfl⟩ := H
                  try go_wp2
                  have n0_ := ak_ (p1_ HB.out)
                  clear HB
                  have HB := n0_
                  clear n0_
                  obtain ⟨i019, hi019, _, hsz19, _⟩ := info_parts info5
                  obtain ⟨A19, hcut19, hA19, hC19⟩ := print_mid_of (P := Try.prog) (Value.int .u8) 0 25 5 .i64 .i64 Try.underlying25 hi019 hsz19 A0 c0 l0 1 5 (by omega) (by first | omega | exact of_decide_eq_true (by assumption)) (of_decide_eq_true (by assumption)) HC0.out
                  have HR401 := ak_ (Kd.C_of_reads (h1 := fun _ => rfl) (hA19 _ (Kd.reads_of_C HR0.out)))
                  have HC401 := ak_ hC19
                  clear hA19 hC19 hi019 hsz19
                  obtain ⟨i020, hi020, _, hsz20, _⟩ := info_parts info5
                  obtain ⟨A20, hcut20, hA20, hC20⟩ := print_mid_of (P := Try.prog) (Value.int .u8) 0 25 5 .i64 .i64 Try.underlying25 hi020 hsz20 A0 c0 l0 5 9 (by omega) (by first | omega | exact of_decide_eq_true (by assumption)) (of_decide_eq_true (by assumption)) HC0.out
                  have HR403 := ak_ (Kd.C_of_reads (h1 := fun _ => rfl) (hA20 _ (Kd.reads_of_C HR0.out)))
                  have HC403 := ak_ hC20
                  clear hA20 hC20 hi020 hsz20
                  refine start_ (n := 8) (S := fun w' => True) (ds := []) #[false, false, false, false, false, false, false, false] (by kernel_rfl) rfl rfl trivial (fun hHeld => ?_); refine with_tabW record_length.tab5 record_length.bits5 (fun HT_ HW_ => ?_)
                  generalize wc.drew = w18 at HB HR401 HR403 hHeld ⊢
                  refine pure_ (i := 0) (N := some 20) (v := ?_) (a' := ?_) (b_ 8 1) rfl rfl (any_of HT_.out (by kernel_rfl)) (fun _ _ _ h => h) (Or.inl ⟨by rfl, ?_⟩) ?_ ?_; rotate_left; (· intro w'; go_simp; with_reducible rfl); rotate_left; (· simp only [Act.put, sa_, sz_, ss_, i64_w, i32_w]; rfl)
                  refine pure_ (i := 1) (N := some 21) (v := ?_) (a' := ?_) (b_ 8 3) rfl rfl (any_of HT_.out (by kernel_rfl)) (fun _ _ _ h => h) (Or.inl ⟨by rfl, ?_⟩) ?_ ?_; rotate_left; (· intro w'; go_simp; with_reducible rfl); rotate_left; (· simp only [Act.put, sa_, sz_, ss_, i64_w, i32_w]; rfl)
                  refine pure_ (i := 3) (N := some 23) (v := ?_) (a' := ?_) (b_ 8 11) rfl rfl (any_of HT_.out (by kernel_rfl)) (fun _ _ _ h => h) (Or.inl ⟨by rfl, ?_⟩) ?_ ?_; rotate_left; (· intro w'; go_simp; with_reducible rfl); rotate_left; (· simp only [Act.put, sa_, sz_, ss_, i64_w, i32_w]; rfl)
                  refine pure_ (i := 4) (N := some 24) (v := ?_) (a' := ?_) (b_ 8 27) rfl rfl (any_of HT_.out (by kernel_rfl)) (fun _ _ _ h => h) (Or.inl ⟨by rfl, ?_⟩) ?_ ?_; rotate_left; (· intro w'; go_simp; with_reducible rfl); rotate_left; (· simp only [Act.put, sa_, sz_, ss_, i64_w, i32_w]; rfl)
                  refine one_ (i := 2) (N := some 22) (b_ 8 31) rfl rfl (one_of HT_.out (by kernel_rfl)) (by decide) (fun K hK => ?_)
                  refine goes_ Try.func44 (by kernel_rfl) rfl #[.slice A19 ((l0.take 5).drop 1).length (c0 - 1)] (by rfl) rfl rfl (by (try simp only [List.map_toArray, List.map_cons, List.map_nil]); first | done | (rw [show ((l0.take 5).drop 1).length = (5 - 1) from (by rw [List.length_drop, List.length_take]; have h_ : (5 : Int) ≤ (l0.length : Int) := of_decide_eq_true (by assumption); omega)] <;> rfl) | rfl | (simp only [List.length_drop, List.length_take]; rfl)) ?_
                  with_reducible refine (sum_Of.calls _ _ ((l0.take 5).drop 1) t402 _ ?side1 ?side2 A9.out).mono ?_
                  (case side1 => repeat (first | exact (Kd.C_below HR401.out HB.out) | (with_reducible refine Kd.C_alloc ?_ _) | (with_reducible refine Kd.C_drewN ?_ _) | (with_reducible refine Kd.C_drew ?_)))
                  (case side2 => exact HC401.out)
                  rintro e w21 ⟨rfl, hb⟩
                  refine ⟨_, rfl, ?_⟩
                  have n0_ := ak_ (ps_ (by repeat (first | (with_reducible first | exact HB.out | apply pa_ | apply pd_ | apply p1_) | exact HB.out)) hb)
                  clear HB
                  have HB := n0_
                  clear n0_
                  (try clear hb hk hi)
                  refine hK.out _ _ trivial (fun hHeld => ?_)
                  clear hK K
                  refine norm_ (a' := ?_) ?_ ?_
                  rotate_left
                  · show Act.put _ (some 22) _ = _
                    simp only [Act.put, sa_, sz_, ss_, i64_w, i32_w]
                    rfl
                  refine one_ (i := 5) (N := some 25) (b_ 8 63) rfl rfl (one_of HT_.out (by kernel_rfl)) (by decide) (fun K hK => ?_)
                  refine goes_ Try.func46 (by kernel_rfl) rfl #[.slice A20 ((l0.take 9).drop 5).length (c0 - 5)] (by rfl) rfl rfl (by (try simp only [List.map_toArray, List.map_cons, List.map_nil]); first | done | (rw [show ((l0.take 9).drop 5).length = (9 - 5) from (by rw [List.length_drop, List.length_take]; have h_ : (9 : Int) ≤ (l0.length : Int) := of_decide_eq_true (by assumption); omega)] <;> rfl) | rfl | (simp only [List.length_drop, List.length_take]; rfl)) ?_
                  with_reducible refine (record_back.calls _ _ ((l0.take 9).drop 5) t404 _ ?side1 ?side2 A12.out).mono ?_
                  (case side1 => repeat (first | exact (Kd.C_below HR403.out HB.out) | (with_reducible refine Kd.C_alloc ?_ _) | (with_reducible refine Kd.C_drewN ?_ _) | (with_reducible refine Kd.C_drew ?_)))
                  (case side2 => exact HC403.out)
                  rintro e w' ⟨rfl, ⟨nd, rfl⟩⟩
                  refine ⟨_, rfl, ?_⟩
                  refine hK.out _ _ trivial (fun hHeld => ?_)
                  clear hK K
                  refine norm_ (a' := ?_) ?_ ?_
                  rotate_left
                  · show Act.put _ (some 25) _ = _
                    simp only [Act.put, sa_, sz_, ss_, i64_w, i32_w]
                    rfl
                  refine pure_ (i := 6) (N := some 26) (v := ?_) (a' := ?_) (b_ 8 127) rfl rfl (any_of HT_.out (by kernel_rfl)) (fun _ _ _ h => h) (Or.inl ⟨by rfl, ?_⟩) ?_ ?_; rotate_left; (· intro w'; go_simp; with_reducible rfl); rotate_left; (· simp only [Act.put, sa_, sz_, ss_, i64_w, i32_w]; rfl)
                  refine pure_ (i := 7) (N := some 19) (v := ?_) (a' := ?_) (b_ 8 255) rfl rfl (any_of HT_.out (by kernel_rfl)) (fun _ _ _ h => h) (Or.inl ⟨by rfl, ?_⟩) ?_ ?_; rotate_left; (· intro w'; go_simp; with_reducible rfl); rotate_left; (· simp only [Act.put, sa_, sz_, ss_, i64_w, i32_w]; rfl)
                  refine done_ (done_of HT_.out (by kernel_rfl)) ?_
                  try go_wp2_with (first | ((with_reducible refine gate_callee (f := 46) rfl ?_); refine goesL_ (some 29) rfl rfl Try.func46 (by kernel_rfl) rfl #[.slice A19 ((l0.take 5).drop 1).length (c0 - 1)] rfl (by (try simp only [List.map_toArray, List.map_cons, List.map_nil]); first | done | (rw [show ((l0.take 5).drop 1).length = (5 - 1) from (by rw [List.length_drop, List.length_take]; have h_ : (5 : Int) ≤ (l0.length : Int) := of_decide_eq_true (by assumption); omega)] <;> rfl) | rfl | (simp only [List.length_drop, List.length_take]; rfl)) ?_; (with_reducible refine (record_back.calls _ _ ((l0.take 5).drop 1) t406 _ ?side1 ?side2 A16.out).mono ?_); (case side1 => repeat (first | exact (Kd.C_below HR401.out (by repeat (first | (with_reducible first | exact HB.out | apply pa_ | apply pd_ | apply p1_) | exact HB.out))) | (with_reducible refine Kd.C_alloc ?_ _) | (with_reducible refine Kd.C_drewN ?_ _) | (with_reducible refine Kd.C_drew ?_))); (case side2 => exact HC401.out); rintro e w' ⟨rfl, ⟨nd, rfl⟩⟩; refine ⟨_, rfl, ?_⟩))
                  go_ret2
                  exact ⟨by first | rfl | (simp [errW_none, errW_some] <;> rfl) | (simp [*, errW_none, errW_some] <;> rfl), by repeat (first | (with_reducible first | exact HB.out | apply pa_ | apply pd_ | apply p1_) | exact HB.out)⟩
                rw [if_neg c17] at H
                have c17b0 : decide (65536 < t406) = false := decide_eq_false c17
                clear c17
                simp only [Option.some.injEq, Prod.mk.injEq] at H
                obtain ⟨rfl, rfl⟩ := H
                try go_wp2
                have n0_ := ak_ (p1_ HB.out)
                clear HB
                have HB := n0_
                clear n0_
                obtain ⟨i024, hi024, _, hsz24, _⟩ := info_parts info5
                obtain ⟨A24, hcut24, hA24, hC24⟩ := print_mid_of (P := Try.prog) (Value.int .u8) 0 25 5 .i64 .i64 Try.underlying25 hi024 hsz24 A0 c0 l0 1 5 (by omega) (by first | omega | exact of_decide_eq_true (by assumption)) (of_decide_eq_true (by assumption)) HC0.out
                have HR401 := ak_ (Kd.C_of_reads (h1 := fun _ => rfl) (hA24 _ (Kd.reads_of_C HR0.out)))
                have HC401 := ak_ hC24
                clear hA24 hC24 hi024 hsz24
                obtain ⟨i025, hi025, _, hsz25, _⟩ := info_parts info5
                obtain ⟨A25, hcut25, hA25, hC25⟩ := print_mid_of (P := Try.prog) (Value.int .u8) 0 25 5 .i64 .i64 Try.underlying25 hi025 hsz25 A0 c0 l0 5 9 (by omega) (by first | omega | exact of_decide_eq_true (by assumption)) (of_decide_eq_true (by assumption)) HC0.out
                have HR403 := ak_ (Kd.C_of_reads (h1 := fun _ => rfl) (hA25 _ (Kd.reads_of_C HR0.out)))
                have HC403 := ak_ hC25
                clear hA25 hC25 hi025 hsz25
                refine start_ (n := 8) (S := fun w' => True) (ds := []) #[false, false, false, false, false, false, false, false] (by kernel_rfl) rfl rfl trivial (fun hHeld => ?_); refine with_tabW record_length.tab5 record_length.bits5 (fun HT_ HW_ => ?_)
                generalize wc.drew = w23 at HB HR401 HR403 hHeld ⊢
                refine pure_ (i := 0) (N := some 20) (v := ?_) (a' := ?_) (b_ 8 1) rfl rfl (any_of HT_.out (by kernel_rfl)) (fun _ _ _ h => h) (Or.inl ⟨by rfl, ?_⟩) ?_ ?_; rotate_left; (· intro w'; go_simp; with_reducible rfl); rotate_left; (· simp only [Act.put, sa_, sz_, ss_, i64_w, i32_w]; rfl)
                refine pure_ (i := 1) (N := some 21) (v := ?_) (a' := ?_) (b_ 8 3) rfl rfl (any_of HT_.out (by kernel_rfl)) (fun _ _ _ h => h) (Or.inl ⟨by rfl, ?_⟩) ?_ ?_; rotate_left; (· intro w'; go_simp; with_reducible rfl); rotate_left; (· simp only [Act.put, sa_, sz_, ss_, i64_w, i32_w]; rfl)
                refine pure_ (i := 3) (N := some 23) (v := ?_) (a' := ?_) (b_ 8 11) rfl rfl (any_of HT_.out (by kernel_rfl)) (fun _ _ _ h => h) (Or.inl ⟨by rfl, ?_⟩) ?_ ?_; rotate_left; (· intro w'; go_simp; with_reducible rfl); rotate_left; (· simp only [Act.put, sa_, sz_, ss_, i64_w, i32_w]; rfl)
                refine pure_ (i := 4) (N := some 24) (v := ?_) (a' := ?_) (b_ 8 27) rfl rfl (any_of HT_.out (by kernel_rfl)) (fun _ _ _ h => h) (Or.inl ⟨by rfl, ?_⟩) ?_ ?_; rotate_left; (· intro w'; go_simp; with_reducible rfl); rotate_left; (· simp only [Act.put, sa_, sz_, ss_, i64_w, i32_w]; rfl)
                refine one_ (i := 2) (N := some 22) (b_ 8 31) rfl rfl (one_of HT_.out (by kernel_rfl)) (by decide) (fun K hK => ?_)
                refine goes_ Try.func44 (by kernel_rfl) rfl #[.slice A24 ((l0.take 5).drop 1).length (c0 - 1)] (by rfl) rfl rfl (by (try simp only [List.map_toArray, List.map_cons, List.map_nil]); first | done | (rw [show ((l0.take 5).drop 1).length = (5 - 1) from (by rw [List.length_drop, List.length_take]; have h_ : (5 : Int) ≤ (l0.length : Int) := of_decide_eq_true (by assumption); omega)] <;> rfl) | rfl | (simp only [List.length_drop, List.length_take]; rfl)) ?_
                with_reducible refine (sum_Of.calls _ _ ((l0.take 5).drop 1) t402 _ ?side1 ?side2 A9.out).mono ?_
                (case side1 => repeat (first | exact (Kd.C_below HR401.out HB.out) | (with_reducible refine Kd.C_alloc ?_ _) | (with_reducible refine Kd.C_drewN ?_ _) | (with_reducible refine Kd.C_drew ?_)))
                (case side2 => exact HC401.out)
                rintro e w26 ⟨rfl, hb⟩
                refine ⟨_, rfl, ?_⟩
                have n0_ := ak_ (ps_ (by repeat (first | (with_reducible first | exact HB.out | apply pa_ | apply pd_ | apply p1_) | exact HB.out)) hb)
                clear HB
                have HB := n0_
                clear n0_
                (try clear hb hk hi)
                refine hK.out _ _ trivial (fun hHeld => ?_)
                clear hK K
                refine norm_ (a' := ?_) ?_ ?_
                rotate_left
                · show Act.put _ (some 22) _ = _
                  simp only [Act.put, sa_, sz_, ss_, i64_w, i32_w]
                  rfl
                refine one_ (i := 5) (N := some 25) (b_ 8 63) rfl rfl (one_of HT_.out (by kernel_rfl)) (by decide) (fun K hK => ?_)
                refine goes_ Try.func46 (by kernel_rfl) rfl #[.slice A25 ((l0.take 9).drop 5).length (c0 - 5)] (by rfl) rfl rfl (by (try simp only [List.map_toArray, List.map_cons, List.map_nil]); first | done | (rw [show ((l0.take 9).drop 5).length = (9 - 5) from (by rw [List.length_drop, List.length_take]; have h_ : (9 : Int) ≤ (l0.length : Int) := of_decide_eq_true (by assumption); omega)] <;> rfl) | rfl | (simp only [List.length_drop, List.length_take]; rfl)) ?_
                with_reducible refine (record_back.calls _ _ ((l0.take 9).drop 5) t404 _ ?side1 ?side2 A12.out).mono ?_
                (case side1 => repeat (first | exact (Kd.C_below HR403.out HB.out) | (with_reducible refine Kd.C_alloc ?_ _) | (with_reducible refine Kd.C_drewN ?_ _) | (with_reducible refine Kd.C_drew ?_)))
                (case side2 => exact HC403.out)
                rintro e w' ⟨rfl, ⟨nd, rfl⟩⟩
                refine ⟨_, rfl, ?_⟩
                refine hK.out _ _ trivial (fun hHeld => ?_)
                clear hK K
                refine norm_ (a' := ?_) ?_ ?_
                rotate_left
                · show Act.put _ (some 25) _ = _
                  simp only [Act.put, sa_, sz_, ss_, i64_w, i32_w]
                  rfl
                refine pure_ (i := 6) (N := some 26) (v := ?_) (a' := ?_) (b_ 8 127) rfl rfl (any_of HT_.out (by kernel_rfl)) (fun _ _ _ h => h) (Or.inl ⟨by rfl, ?_⟩) ?_ ?_; rotate_left; (· intro w'; go_simp; with_reducible rfl); rotate_left; (· simp only [Act.put, sa_, sz_, ss_, i64_w, i32_w]; rfl)
                refine pure_ (i := 7) (N := some 19) (v := ?_) (a' := ?_) (b_ 8 255) rfl rfl (any_of HT_.out (by kernel_rfl)) (fun _ _ _ h => h) (Or.inl ⟨by rfl, ?_⟩) ?_ ?_; rotate_left; (· intro w'; go_simp; with_reducible rfl); rotate_left; (· simp only [Act.put, sa_, sz_, ss_, i64_w, i32_w]; rfl)
                refine done_ (done_of HT_.out (by kernel_rfl)) ?_
                try go_wp2_with (first | ((with_reducible refine gate_callee (f := 46) rfl ?_); refine goesL_ (some 29) rfl rfl Try.func46 (by kernel_rfl) rfl #[.slice A24 ((l0.take 5).drop 1).length (c0 - 1)] rfl (by (try simp only [List.map_toArray, List.map_cons, List.map_nil]); first | done | (rw [show ((l0.take 5).drop 1).length = (5 - 1) from (by rw [List.length_drop, List.length_take]; have h_ : (5 : Int) ≤ (l0.length : Int) := of_decide_eq_true (by assumption); omega)] <;> rfl) | rfl | (simp only [List.length_drop, List.length_take]; rfl)) ?_; (with_reducible refine (record_back.calls _ _ ((l0.take 5).drop 1) t406 _ ?side1 ?side2 A16.out).mono ?_); (case side1 => repeat (first | exact (Kd.C_below HR401.out (by repeat (first | (with_reducible first | exact HB.out | apply pa_ | apply pd_ | apply p1_) | exact HB.out))) | (with_reducible refine Kd.C_alloc ?_ _) | (with_reducible refine Kd.C_drewN ?_ _) | (with_reducible refine Kd.C_drew ?_))); (case side2 => exact HC401.out); rintro e w' ⟨rfl, ⟨nd, rfl⟩⟩; refine ⟨_, rfl, ?_⟩))
                go_ret2
                exact ⟨by first | rfl | (simp [errW_none, errW_some] <;> rfl) | (simp [*, errW_none, errW_some] <;> rfl), by repeat (first | (with_reducible first | exact HB.out | apply pa_ | apply pd_ | apply p1_) | exact HB.out)⟩
              rw [if_neg c13] at H
              have c13b0 : (t402 == t404) = false := beq_eq_false_iff_ne.mpr c13
              have c13b1 : (t402 != t404) = true := bne_iff_ne.mpr c13
              simp only [Option.some.injEq, Prod.mk.injEq] at H
              obtain ⟨rfl, rfl⟩ := H
              try go_wp2
              have n0_ := ak_ (p1_ HB.out)
              clear HB
              have HB := n0_
              clear n0_
              obtain ⟨i029, hi029, _, hsz29, _⟩ := info_parts info5
              obtain ⟨A29, hcut29, hA29, hC29⟩ := print_mid_of (P := Try.prog) (Value.int .u8) 0 25 5 .i64 .i64 Try.underlying25 hi029 hsz29 A0 c0 l0 1 5 (by omega) (by first | omega | exact of_decide_eq_true (by assumption)) (of_decide_eq_true (by assumption)) HC0.out
              have HR401 := ak_ (Kd.C_of_reads (h1 := fun _ => rfl) (hA29 _ (Kd.reads_of_C HR0.out)))
              have HC401 := ak_ hC29
              clear hA29 hC29 hi029 hsz29
              obtain ⟨i030, hi030, _, hsz30, _⟩ := info_parts info5
              obtain ⟨A30, hcut30, hA30, hC30⟩ := print_mid_of (P := Try.prog) (Value.int .u8) 0 25 5 .i64 .i64 Try.underlying25 hi030 hsz30 A0 c0 l0 5 9 (by omega) (by first | omega | exact of_decide_eq_true (by assumption)) (of_decide_eq_true (by assumption)) HC0.out
              have HR403 := ak_ (Kd.C_of_reads (h1 := fun _ => rfl) (hA30 _ (Kd.reads_of_C HR0.out)))
              have HC403 := ak_ hC30
              clear hA30 hC30 hi030 hsz30
              refine start_ (n := 8) (S := fun w' => True) (ds := []) #[false, false, false, false, false, false, false, false] (by kernel_rfl) rfl rfl trivial (fun hHeld => ?_); refine with_tabW record_length.tab5 record_length.bits5 (fun HT_ HW_ => ?_)
              generalize wc.drew = w28 at HB HR401 HR403 hHeld ⊢
              refine pure_ (i := 0) (N := some 20) (v := ?_) (a' := ?_) (b_ 8 1) rfl rfl (any_of HT_.out (by kernel_rfl)) (fun _ _ _ h => h) (Or.inl ⟨by rfl, ?_⟩) ?_ ?_; rotate_left; (· intro w'; go_simp; with_reducible rfl); rotate_left; (· simp only [Act.put, sa_, sz_, ss_, i64_w, i32_w]; rfl)
              refine pure_ (i := 1) (N := some 21) (v := ?_) (a' := ?_) (b_ 8 3) rfl rfl (any_of HT_.out (by kernel_rfl)) (fun _ _ _ h => h) (Or.inl ⟨by rfl, ?_⟩) ?_ ?_; rotate_left; (· intro w'; go_simp; with_reducible rfl); rotate_left; (· simp only [Act.put, sa_, sz_, ss_, i64_w, i32_w]; rfl)
              refine pure_ (i := 3) (N := some 23) (v := ?_) (a' := ?_) (b_ 8 11) rfl rfl (any_of HT_.out (by kernel_rfl)) (fun _ _ _ h => h) (Or.inl ⟨by rfl, ?_⟩) ?_ ?_; rotate_left; (· intro w'; go_simp; with_reducible rfl); rotate_left; (· simp only [Act.put, sa_, sz_, ss_, i64_w, i32_w]; rfl)
              refine pure_ (i := 4) (N := some 24) (v := ?_) (a' := ?_) (b_ 8 27) rfl rfl (any_of HT_.out (by kernel_rfl)) (fun _ _ _ h => h) (Or.inl ⟨by rfl, ?_⟩) ?_ ?_; rotate_left; (· intro w'; go_simp; with_reducible rfl); rotate_left; (· simp only [Act.put, sa_, sz_, ss_, i64_w, i32_w]; rfl)
              refine one_ (i := 2) (N := some 22) (b_ 8 31) rfl rfl (one_of HT_.out (by kernel_rfl)) (by decide) (fun K hK => ?_)
              refine goes_ Try.func44 (by kernel_rfl) rfl #[.slice A29 ((l0.take 5).drop 1).length (c0 - 1)] (by rfl) rfl rfl (by (try simp only [List.map_toArray, List.map_cons, List.map_nil]); first | done | (rw [show ((l0.take 5).drop 1).length = (5 - 1) from (by rw [List.length_drop, List.length_take]; have h_ : (5 : Int) ≤ (l0.length : Int) := of_decide_eq_true (by assumption); omega)] <;> rfl) | rfl | (simp only [List.length_drop, List.length_take]; rfl)) ?_
              with_reducible refine (sum_Of.calls _ _ ((l0.take 5).drop 1) t402 _ ?side1 ?side2 A9.out).mono ?_
              (case side1 => repeat (first | exact (Kd.C_below HR401.out HB.out) | (with_reducible refine Kd.C_alloc ?_ _) | (with_reducible refine Kd.C_drewN ?_ _) | (with_reducible refine Kd.C_drew ?_)))
              (case side2 => exact HC401.out)
              rintro e w31 ⟨rfl, hb⟩
              refine ⟨_, rfl, ?_⟩
              have n0_ := ak_ (ps_ (by repeat (first | (with_reducible first | exact HB.out | apply pa_ | apply pd_ | apply p1_) | exact HB.out)) hb)
              clear HB
              have HB := n0_
              clear n0_
              (try clear hb hk hi)
              refine hK.out _ _ trivial (fun hHeld => ?_)
              clear hK K
              refine norm_ (a' := ?_) ?_ ?_
              rotate_left
              · show Act.put _ (some 22) _ = _
                simp only [Act.put, sa_, sz_, ss_, i64_w, i32_w]
                rfl
              refine one_ (i := 5) (N := some 25) (b_ 8 63) rfl rfl (one_of HT_.out (by kernel_rfl)) (by decide) (fun K hK => ?_)
              refine goes_ Try.func46 (by kernel_rfl) rfl #[.slice A30 ((l0.take 9).drop 5).length (c0 - 5)] (by rfl) rfl rfl (by (try simp only [List.map_toArray, List.map_cons, List.map_nil]); first | done | (rw [show ((l0.take 9).drop 5).length = (9 - 5) from (by rw [List.length_drop, List.length_take]; have h_ : (9 : Int) ≤ (l0.length : Int) := of_decide_eq_true (by assumption); omega)] <;> rfl) | rfl | (simp only [List.length_drop, List.length_take]; rfl)) ?_
              with_reducible refine (record_back.calls _ _ ((l0.take 9).drop 5) t404 _ ?side1 ?side2 A12.out).mono ?_
              (case side1 => repeat (first | exact (Kd.C_below HR403.out HB.out) | (with_reducible refine Kd.C_alloc ?_ _) | (with_reducible refine Kd.C_drewN ?_ _) | (with_reducible refine Kd.C_drew ?_)))
              (case side2 => exact HC403.out)
              rintro e w' ⟨rfl, ⟨nd, rfl⟩⟩
              refine ⟨_, rfl, ?_⟩
              refine hK.out _ _ trivial (fun hHeld => ?_)
              clear hK K
              refine norm_ (a' := ?_) ?_ ?_
              rotate_left
              · show Act.put _ (some 25) _ = _
                simp only [Act.put, sa_, sz_, ss_, i64_w, i32_w]
                rfl
              refine pure_ (i := 6) (N := some 26) (v := ?_) (a' := ?_) (b_ 8 127) rfl rfl (any_of HT_.out (by kernel_rfl)) (fun _ _ _ h => h) (Or.inl ⟨by rfl, ?_⟩) ?_ ?_; rotate_left; (· intro w'; go_simp; with_reducible rfl); rotate_left; (· simp only [Act.put, sa_, sz_, ss_, i64_w, i32_w]; rfl)
              refine pure_ (i := 7) (N := some 19) (v := ?_) (a' := ?_) (b_ 8 255) rfl rfl (any_of HT_.out (by kernel_rfl)) (fun _ _ _ h => h) (Or.inl ⟨by rfl, ?_⟩) ?_ ?_; rotate_left; (· intro w'; go_simp; with_reducible rfl); rotate_left; (· simp only [Act.put, sa_, sz_, ss_, i64_w, i32_w]; rfl)
              refine done_ (done_of HT_.out (by kernel_rfl)) ?_
              try go_wp2
              go_ret2
              exact ⟨by first | rfl | (simp [errW_none, errW_some] <;> rfl) | (simp [*, errW_none, errW_some] <;> rfl), by repeat (first | (with_reducible first | exact HB.out | apply pa_ | apply pd_ | apply p1_) | exact HB.out)⟩
            rw [if_neg c11] at H
            exact absurd H (by simp)
          rw [if_neg c10] at H
          exact absurd H (by simp)
        rw [if_neg c8] at H
        exact absurd H (by simp)
      rw [if_neg c7] at H
      exact absurd H (by simp)

end Go.Proofs.Ytdamiipeijnpnaa.Q
