-- written for this claim by a program of the session
import Derived.Test.YtdamiipeijnpnaaQx0
import Derived.Test.YtdamiipeijnpnaaQx20
import Derived.Test.YtdamiipeijnpnaaQx23
import Derived.Test.YtdamiipeijnpnaaGAwakeRec
import Derived.Test.YtdamiipeijnpnaaGRecAll
namespace Go.Proofs.Ytdamiipeijnpnaa.Q
open Go.RowKit Go.Proofs.YtdamiipeijnpnaaW.PrintWords Go.Proofs.YtdamiipeijnpnaaW.PrintLast Go.Proofs.YtdamiipeijnpnaaW.PrintMore
attribute [local go_sem] max2_int min2_int max_two min_two max_three min_three max_four min_four   -- for this text's walks alone
set_option linter.unusedVariables false
set_option linter.unusedSimpArgs false

/-! ### usufructlaw06_RecordTurned: function 9 -/
def usufructlaw06_RecordTurned.j0 : Nat → Int → Int → List Int → Bool → Option (Bool)
  | 0, _, _, _, _ => none
  | k + 1, x1, x2, x7, x32 => if x32 = true then (some false) else (if (x7.length : Int) = 0 then (none) else (if 0 ≤ (Int.tmod (wrap64 (x1)) (x7.length : Int)) then (if (Int.tmod (wrap64 (x1)) (x7.length : Int)) < (x7.length : Int) then (if (rd x7 (Int.tmod (wrap64 (x1)) (x7.length : Int))) = x2 then (some true) else ((some (x7.set ((Int.tmod (wrap64 (x1)) (x7.length : Int)) : Int).toNat x2 : List Int)).bind fun y526 => ((record_Get.f k y526 0).bind fun bt527 => ((record_All.f k y526).bind fun bt532 => (if bt527.2.2 = 0 then (some false) else (if bt527.2.1 = 0 then (if (bt532.1.length : Int) = 0 then (if bt532.2.1 = 0 then (some (bt532.2.2 != 0)) else (some false)) else (some false)) else (some false))))))) else (none)) else (none)))
def usufructlaw06_RecordTurned.f (k : Nat) (l0 : List Int) (a1 : Int) (a2 : Int) : Option (Bool) := (usufructlaw06_awake.f).bind fun t520 => (if t520 = true then (if (l0.length : Int) > 60 then (some true) else ((record_Put.f l0).bind fun bt521 => (if bt521.2 = 0 then (usufructlaw06_RecordTurned.j0 k a1 a2 bt521.1 ((bt521.1.length : Int) == 0)) else (usufructlaw06_RecordTurned.j0 k a1 a2 bt521.1 true)))) else (some false))
theorem usufructlaw06_RecordTurned.mono_l : ∀ k, (∀ y0 y1 y2 y3, LeO (usufructlaw06_RecordTurned.j0 k y0 y1 y2 y3) (usufructlaw06_RecordTurned.j0 (k + 1) y0 y1 y2 y3))
  | 0 => fun _ _ _ _ r h => by simp [usufructlaw06_RecordTurned.j0] at h
  | k + 1 => by
    have ih0 := usufructlaw06_RecordTurned.mono_l k
    · intro y0 y1 y2 y3
      unfold usufructlaw06_RecordTurned.j0
      repeat' first
      | (with_reducible exact ih0 _ _ _ _)
      | (with_reducible exact record_All.mono _ _)
      | (with_reducible exact record_Get.mono _ _ _)
      | (with_reducible exact LeO.refl _)
      | (with_reducible exact LeO.none _)
      | (with_reducible refine LeO.ite ?_ ?_)
      | (with_reducible refine LeO.bind ?_ (fun _ => ?_))
      | exact ih0 _ _ _ _
      | exact record_All.mono _ _
      | exact record_Get.mono _ _ _
      | exact LeO.none _
      | refine LeO.ite ?_ ?_
      | refine LeO.bind ?_ (fun _ => ?_)
theorem usufructlaw06_RecordTurned.mono : ∀ a0 a1 a2 k, LeO (usufructlaw06_RecordTurned.f k a0 a1 a2) (usufructlaw06_RecordTurned.f (k + 1) a0 a1 a2) := by
  intro a0 a1 a2 k
  have ih0 := usufructlaw06_RecordTurned.mono_l k
  unfold usufructlaw06_RecordTurned.f
  repeat' first
      | (with_reducible exact ih0 _ _ _ _)
      | (with_reducible exact record_All.mono _ _)
      | (with_reducible exact record_Get.mono _ _ _)
      | (with_reducible exact LeO.refl _)
      | (with_reducible exact LeO.none _)
      | (with_reducible refine LeO.ite ?_ ?_)
      | (with_reducible refine LeO.bind ?_ (fun _ => ?_))
      | exact ih0 _ _ _ _
      | exact record_All.mono _ _
      | exact record_Get.mono _ _ _
      | exact LeO.none _
      | refine LeO.ite ?_ ?_
      | refine LeO.bind ?_ (fun _ => ?_)
namespace usufructlaw06_RecordTurned
theorem mt_ {α β : Type} {f : α → β} {l : List α} : l.toArray.map f = (l.map f).toArray := List.map_toArray
theorem mc_ {α β : Type} {f : α → β} {a : α} {l : List α} : (a :: l).map f = f a :: l.map f := rfl
theorem mn_ {α β : Type} {f : α → β} : ([] : List α).map f = [] := rfl
abbrev zn_ := @blk_drewN
abbrev zd_ := @blk_drew
abbrev za_ := @blk_alloc
abbrev zf_ := @blk_frozen
abbrev zc_ := @blk_cell
abbrev zs_ := @below_set
abbrev zr_ := @blk_far
abbrev zp_ := @blk_put
abbrev pd_ := @pw_below_drewN
abbrev p1_ := @below_drew1
abbrev pa_ := @below_alloc
abbrev ak_ := @Aside0.mk
abbrev bl_ := @World.block_lt_of_cell?
abbrev ps_ := @below_step
def b_ (n k : Nat) : Array Bool := ((List.range n).map fun i => k.testBit i).toArray
theorem sa_ {α : Type} {l : List α} {i : Nat} {a : α} : l.toArray.setIfInBounds i a = (l.set i a).toArray := List.setIfInBounds_toArray l i a
theorem sz_ {α : Type} {a b : α} {l : List α} : (a :: l).set 0 b = b :: l := rfl
theorem ss_ {α : Type} {a b : α} {l : List α} {n : Nat} : (a :: l).set (n + 1) b = a :: l.set n b := rfl
end usufructlaw06_RecordTurned
open usufructlaw06_RecordTurned in
set_option maxHeartbeats 8000000 in
set_option maxRecDepth 100000 in
theorem usufructlaw06_RecordTurned.calls (k : Nat) (A0 : Option Addr) (c0 : Nat) (l0 : List Int) (a1 : Int) (a2 : Int) (r : Bool) (w : World) (hr0 : Kd.C (Kd.int .u8) w A0 l0.length l0) (hc0 : l0.length ≤ c0) (h : usufructlaw06_RecordTurned.f k l0 a1 a2 = some r) (hT_ : r = true) :
    Calls Try.prog 9 #[.slice A0 l0.length c0, .int .u16 a1, .int .u8 a2] w fun e w' => e = .returned (.bool r) ∧ Below w.heap.size w w' := by
  have HTR_ := ak_ hT_
  clear hT_
  have HR0 := ak_ hr0
  have HC0 := ak_ hc0
  clear hr0 hc0
  have HB := ak_ (Below.refl w.heap.size w)
  have H : ((usufructlaw06_awake.f).bind fun t520 => (if t520 = true then (if (l0.length : Int) > 60 then (some true) else ((record_Put.f l0).bind fun bt521 => (if bt521.2 = 0 then (usufructlaw06_RecordTurned.j0 k a1 a2 bt521.1 ((bt521.1.length : Int) == 0)) else (usufructlaw06_RecordTurned.j0 k a1 a2 bt521.1 true)))) else (some false))) = some r := h
  clear h
  replace H := Option.bind_eq_some_iff.mp H
  obtain ⟨t520, A40, H⟩ := H
  replace H : (if t520 = true then (if (l0.length : Int) > 60 then (some true) else ((record_Put.f l0).bind fun bt521 => (if bt521.2 = 0 then (usufructlaw06_RecordTurned.j0 k a1 a2 bt521.1 ((bt521.1.length : Int) == 0)) else (usufructlaw06_RecordTurned.j0 k a1 a2 bt521.1 true)))) else (some false)) = some r := H
  have A4 := ak_ A40
  clear A40
  by_cases c5 : t520 = true
  · subst c5
    have H1 : (if (l0.length : Int) > 60 then (some true) else ((record_Put.f l0).bind fun bt521 => (if bt521.2 = 0 then (usufructlaw06_RecordTurned.j0 k a1 a2 bt521.1 ((bt521.1.length : Int) == 0)) else (usufructlaw06_RecordTurned.j0 k a1 a2 bt521.1 true)))) = some r := by rw [if_pos rfl] at H; exact H
    clear H
    have H := H1
    clear H1
    by_cases c6 : (l0.length : Int) > 60
    · rw [if_pos c6] at H
      have c6b0 : decide (60 < (l0.length : Int)) = true := decide_eq_true c6
      have c6b1 : decide (60 < l0.length) = true := decide_eq_true (by omega)
      clear c6
      obtain rfl := Option.some.inj H
      go_enter Try.func9, Try.ntmps9
      go_wp2_with (first | ((with_reducible refine gate_callee (f := 28) rfl ?_); refine goesL_ (some 16) rfl rfl Try.func28 (by kernel_rfl) rfl #[] rfl (by simp only [mt_, mc_, mn_] <;> rfl) ?_; (with_reducible refine (usufructlaw06_awake.calls  true _ A4.out).mono ?_); rintro e w7 ⟨rfl, hb⟩; refine ⟨_, rfl, ?_⟩; have n0_ := ak_ (ps_ (by repeat (first | (with_reducible first | exact HB.out | apply pa_ | apply pd_ | apply p1_) | exact HB.out)) hb); clear HB; have HB := n0_; clear n0_; (try clear hb hk hi)))
      go_ret
      exact ⟨by first | rfl | (simp [errW_none, errW_some] <;> rfl) | (simp [*, errW_none, errW_some] <;> rfl), by repeat (first | (with_reducible first | exact HB.out | apply pa_ | apply pd_ | apply p1_) | exact HB.out)⟩
    rw [if_neg c6] at H
    have c6b0 : decide (60 < (l0.length : Int)) = false := decide_eq_false c6
    have c6b1 : decide (60 < l0.length) = false := decide_eq_false (by omega)
    clear c6
    replace H := Option.bind_eq_some_iff.mp H
    obtain ⟨⟨t521, t524⟩, A80, H⟩ := H
    replace H : (if t524 = 0 then (usufructlaw06_RecordTurned.j0 k a1 a2 t521 ((t521.length : Int) == 0)) else (usufructlaw06_RecordTurned.j0 k a1 a2 t521 true)) = some r := H
    have A8 := ak_ A80
    clear A80
    have HC9 := ak_ H
    clear H
    go_enter Try.func9, Try.ntmps9
    go_upto_region 6 with (first | ((with_reducible refine gate_callee (f := 28) rfl ?_); refine goesL_ (some 16) rfl rfl Try.func28 (by kernel_rfl) rfl #[] rfl (by simp only [mt_, mc_, mn_] <;> rfl) ?_; (with_reducible refine (usufructlaw06_awake.calls  true _ A4.out).mono ?_); rintro e w10 ⟨rfl, hb⟩; refine ⟨_, rfl, ?_⟩; have n0_ := ak_ (ps_ (by repeat (first | (with_reducible first | exact HB.out | apply pa_ | apply pd_ | apply p1_) | exact HB.out)) hb); clear HB; have HB := n0_; clear n0_; (try clear hb hk hi)) | ((with_reducible refine gate_callee (f := 30) rfl ?_); refine goesL_ (some 23) rfl rfl Try.func30 (by kernel_rfl) rfl #[.slice A0 l0.length c0] rfl (by (try simp only [List.map_toArray, List.map_cons, List.map_nil]); first | done | rfl | (simp only [List.length_drop, List.length_take]; rfl)) ?_; (with_reducible refine (record_Put.calls (fun k_ => k_ < w.heap.size) _ _ l0 t521 t524 _ ?side1 A8.out).mono ?_); (case side1 => exact Kd.V_mk HC0.out (Kd.F_below (Kd.C_F (Kd.heap_int .u8) HR0.out) (by repeat (first | (with_reducible first | exact HB.out | apply pa_ | apply pd_ | apply p1_) | exact HB.out)))); rintro e w11 ⟨v522, rfl, ho0, hb⟩; refine ⟨_, rfl, ?_⟩; have n0_ := ak_ (Kd.R_lower (Kd.R_mono (ok' := fun k_ => True) ho0 (fun _ hk_ => trivial)) (below_size (by repeat (first | (with_reducible first | exact HB.out | apply pa_ | apply pd_ | apply p1_) | exact HB.out)))); have n1_ := ak_ (ps_ (by repeat (first | (with_reducible first | exact HB.out | apply pa_ | apply pd_ | apply p1_) | exact HB.out)) hb); clear HB; have HO523 := n0_; have HB := n1_; clear n0_ n1_; (try clear hb hk hi); (try clear ho0)))
    (try simp only [Act.put, sa_, sz_, ss_])
    go_cut [32] (fun v32 wc => ∃ (kq : Nat) (x32_8 : Bool), v32 = .bool x32_8 ∧ Aside0 (usufructlaw06_RecordTurned.j0 kq a1 a2 t521 x32_8 = some r) ∧ Aside0 (kq ≤ k) ∧ Aside0 (Kd.R (Kd.int .u8) 5 wc w.heap.size (fun _ => True) v522 t521) ∧ Aside0 (Below w.heap.size w wc))
    case first =>
      have H := HC9.out
      clear HC9
      by_cases c12 : t524 = 0
      · rw [if_pos c12] at H
        have c12b0 : (t524 == 0) = true := beq_iff_eq.mpr c12
        have c12b1 : (t524 != 0) = false := bne_eq_false_iff_eq.mpr c12
        clear c12
        (first | rw [c12b0] | (simp only [i64_w, i32_w]; rw [c12b0]) | skip)
        have H' := ak_ H
        clear H
        obtain ⟨Ao13, co13, eo13⟩ := Kd.R_slice HO523.out
        subst eo13
        go_wp2
        go_meet
        case rel => exact ⟨_, (((t521.length : Int) == 0)), (by first | rfl | (simp; done) | (simp [*]; done)), H', ⟨by first | omega | exact Nat.le_refl _⟩, ⟨by (with_reducible repeat (first | apply Kd.R_alloc | apply Kd.R_drewN | apply Kd.R_drew)); exact HO523.out⟩, ⟨by repeat (first | (with_reducible first | exact HB.out | apply pa_ | apply pd_ | apply p1_) | exact HB.out)⟩⟩
      rw [if_neg c12] at H
      have c12b0 : (t524 == 0) = false := beq_eq_false_iff_ne.mpr c12
      have c12b1 : (t524 != 0) = true := bne_iff_ne.mpr c12
      (first | rw [c12b0] | (simp only [i64_w, i32_w]; rw [c12b0]) | skip)
      exfalso
      revert H
      cases k <;> simp [usufructlaw06_RecordTurned.j0, HTR_.out]
    case rest =>
      clear HC9
      try clear c1
      try clear c2
      try clear p2
      try clear c3
      try clear c5
      try clear c6
      try clear c6b0
      try clear c6b1
      try clear c9
      try clear c12
      try clear c12b0
      try clear c12b1
      obtain ⟨kq, x32_8, rfl, HA, HJ8, HO_7, HB⟩ := hcut
      cases kq with
      | zero => exact absurd HA.out (by simp [usufructlaw06_RecordTurned.j0])
      | succ kj8 =>
        have H := HA.out
        clear HA
        simp only [usufructlaw06_RecordTurned.j0] at H
        by_cases c14 : x32_8 = true
        · subst c14
          have H1 : (some false) = some r := by rw [if_pos rfl] at H; exact H
          clear H
          have H := H1
          clear H1
          exact absurd ((Option.some.inj H).trans HTR_.out) (by decide)
        replace c14 := Bool.eq_false_iff.mpr c14
        subst c14
        have H1 : (if (t521.length : Int) = 0 then (none) else (if 0 ≤ (Int.tmod (wrap64 (a1)) (t521.length : Int)) then (if (Int.tmod (wrap64 (a1)) (t521.length : Int)) < (t521.length : Int) then (if (rd t521 (Int.tmod (wrap64 (a1)) (t521.length : Int))) = a2 then (some true) else ((some (t521.set ((Int.tmod (wrap64 (a1)) (t521.length : Int)) : Int).toNat a2 : List Int)).bind fun y526 => ((record_Get.f kj8 y526 0).bind fun bt527 => ((record_All.f kj8 y526).bind fun bt532 => (if bt527.2.2 = 0 then (some false) else (if bt527.2.1 = 0 then (if (bt532.1.length : Int) = 0 then (if bt532.2.1 = 0 then (some (bt532.2.2 != 0)) else (some false)) else (some false)) else (some false))))))) else (none)) else (none))) = some r := by rw [if_neg (show ¬ (false = true) by decide)] at H; exact H
        clear H
        have H := H1
        clear H1
        by_cases c15 : (t521.length : Int) = 0
        · rw [if_pos c15] at H
          exact absurd H (by simp)
        rw [if_neg c15] at H
        have c15b0 : ((t521.length : Int) == 0) = false := beq_eq_false_iff_ne.mpr c15
        have c15b1 : ((t521.length : Int) != 0) = true := bne_iff_ne.mpr c15
        have c15b2 : ¬ (t521 = []) := fun h_ => c15 (by rw [h_]; rfl)
        obtain ⟨ji16, hji16⟩ : ∃ j_ : Int, (Int.tmod (wrap64 (a1)) (t521.length : Int)) = j_ := ⟨_, rfl⟩
        replace H : (if 0 ≤ (ji16) then (if (ji16) < (t521.length : Int) then (if (rd t521 (ji16)) = a2 then (some true) else ((some (t521.set ((ji16) : Int).toNat a2 : List Int)).bind fun y526 => ((record_Get.f kj8 y526 0).bind fun bt527 => ((record_All.f kj8 y526).bind fun bt532 => (if bt527.2.2 = 0 then (some false) else (if bt527.2.1 = 0 then (if (bt532.1.length : Int) = 0 then (if bt532.2.1 = 0 then (some (bt532.2.2 != 0)) else (some false)) else (some false)) else (some false))))))) else (none)) else (none)) = some r := by first | (rw [hji16] at H; exact H) | (simp only [hji16] at H ⊢; exact H)
        by_cases c17 : 0 ≤ (ji16)
        · rw [if_pos c17] at H
          have c17b0 : decide (0 ≤ (ji16)) = true := decide_eq_true c17
          clear c17
          by_cases c18 : (ji16) < (t521.length : Int)
          · rw [if_pos c18] at H
            have c18b0 : decide ((ji16) < (t521.length : Int)) = true := decide_eq_true c18
            clear c18
            by_cases c19 : (rd t521 (ji16)) = a2
            · rw [if_pos c19] at H
              have c19b0 : ((rd t521 (ji16)) == a2) = true := beq_iff_eq.mpr c19
              have c19b1 : ((rd t521 (ji16)) != a2) = false := bne_eq_false_iff_eq.mpr c19
              clear c19
              obtain rfl := Option.some.inj H
              obtain ⟨Ao20, co20, eo20⟩ := Kd.R_slice HO_7.out
              subst eo20
              have p525 : 0 ≤ ((ji16) : Int) := of_decide_eq_true (by assumption)
              have q525 : (ji16) < (t521.length : Int) := of_decide_eq_true (by assumption)
              obtain ⟨ad525, e525, hx525_0⟩ := Kd.at_int (Kd.R_reads' HO_7.out).2.2 (ji16) p525 q525
              cases e525
              replace p525 := eq_true p525
              replace q525 := eq_true q525
              go_wp2
              go_ret
              exact ⟨by first | rfl | (simp [errW_none, errW_some] <;> rfl) | (simp only [← hji16]; first | rfl | (simp [errW_none, errW_some] <;> rfl)) | (simp [*, errW_none, errW_some] <;> rfl), by repeat (first | (with_reducible first | exact HB.out | apply pa_ | apply pd_ | apply p1_) | exact HB.out)⟩
            rw [if_neg c19] at H
            have c19b0 : ((rd t521 (ji16)) == a2) = false := beq_eq_false_iff_ne.mpr c19
            have c19b1 : ((rd t521 (ji16)) != a2) = true := bne_iff_ne.mpr c19
            obtain ⟨y526, hy526⟩ : ∃ y_ : List Int, y_ = (t521.set ((ji16) : Int).toNat a2) := ⟨_, rfl⟩
            replace H : ((record_Get.f kj8 y526 0).bind fun bt527 => ((record_All.f kj8 y526).bind fun bt532 => (if bt527.2.2 = 0 then (some false) else (if bt527.2.1 = 0 then (if (bt532.1.length : Int) = 0 then (if bt532.2.1 = 0 then (some (bt532.2.2 != 0)) else (some false)) else (some false)) else (some false))))) = some r := by first | (rw [hy526]; with_reducible exact H) | (have H2_ := (Option.bind_some _ _).symm.trans H; rw [hy526]; with_reducible exact H2_) | (have H2_ := (Option.bind_some _ _).symm.trans H; with_reducible exact H2_) | with_reducible exact H | (rw [hy526]; exact H) | exact H
            have Ny526 := ak_ hy526
            clear hy526
            replace H := Option.bind_eq_some_iff.mp H
            obtain ⟨⟨t527, t528, t529⟩, A220, H⟩ := H
            replace H : ((record_All.f kj8 y526).bind fun bt532 => (if t529 = 0 then (some false) else (if t528 = 0 then (if (bt532.1.length : Int) = 0 then (if bt532.2.1 = 0 then (some (bt532.2.2 != 0)) else (some false)) else (some false)) else (some false)))) = some r := H
            have A22 := ak_ A220
            clear A220
            replace H := Option.bind_eq_some_iff.mp H
            obtain ⟨⟨t532, t533, t534⟩, A230, H⟩ := H
            replace H : (if t529 = 0 then (some false) else (if t528 = 0 then (if (t532.length : Int) = 0 then (if t533 = 0 then (some (t534 != 0)) else (some false)) else (some false)) else (some false))) = some r := H
            have A23 := ak_ A230
            clear A230
            by_cases c24 : t529 = 0
            · rw [if_pos c24] at H
              have c24b0 : (t529 == 0) = true := beq_iff_eq.mpr c24
              have c24b1 : (t529 != 0) = false := bne_eq_false_iff_eq.mpr c24
              clear c24
              exact absurd ((Option.some.inj H).trans HTR_.out) (by decide)
            rw [if_neg c24] at H
            have c24b0 : (t529 == 0) = false := beq_eq_false_iff_ne.mpr c24
            have c24b1 : (t529 != 0) = true := bne_iff_ne.mpr c24
            by_cases c25 : t528 = 0
            · rw [if_pos c25] at H
              have c25b0 : (t528 == 0) = true := beq_iff_eq.mpr c25
              have c25b1 : (t528 != 0) = false := bne_eq_false_iff_eq.mpr c25
              clear c25
              by_cases c26 : (t532.length : Int) = 0
              · rw [if_pos c26] at H
                have c26b0 : ((t532.length : Int) == 0) = true := beq_iff_eq.mpr c26
                have c26b1 : ((t532.length : Int) != 0) = false := bne_eq_false_iff_eq.mpr c26
                clear c26
                by_cases c27 : t533 = 0
                · rw [if_pos c27] at H
                  have c27b0 : (t533 == 0) = true := beq_iff_eq.mpr c27
                  have c27b1 : (t533 != 0) = false := bne_eq_false_iff_eq.mpr c27
                  clear c27
                  obtain rfl := Option.some.inj H
                  obtain ⟨Ao28, co28, eo28⟩ := Kd.R_slice HO_7.out
                  subst eo28
                  have p525 : 0 ≤ ((ji16) : Int) := of_decide_eq_true (by assumption)
                  have q525 : (ji16) < (t521.length : Int) := of_decide_eq_true (by assumption)
                  obtain ⟨ad525, e525, hx525_0⟩ := Kd.at_int (Kd.R_reads' HO_7.out).2.2 (ji16) p525 q525
                  cases e525
                  replace p525 := eq_true p525
                  replace q525 := eq_true q525
                  have p21 : 0 ≤ ((ji16) : Int) := of_decide_eq_true (by assumption)
                  have q21 : ((ji16) : Int) < ((t521.length : Int) : Int) := of_decide_eq_true (by assumption)
                  obtain ⟨go21, co21, eo21, gb21, gl21, cl21, HG21⟩ := Kd.R_form HO_7.out (by omega)
                  (first | cases eo21 | (injection eo21 with ea_ en_ ec_; (first | subst ea_ | (injection ea_ with ea_; subst ea_)); subst ec_; clear en_))
                  have GB21 := ak_ gb21
                  have GG21 := ak_ HG21
                  clear gb21 gl21 HG21
                  (first | simp only [add_plain] at hx525_0 | skip)
                  obtain ⟨hx21_0, hf21_0⟩ := Kd.R_celln 0 HO_7.out ((ji16) : Int) p21 q21
                  replace p21 := eq_true p21
                  replace q21 := eq_true q21
                  have HP29 := Kd.R_putg HO_7.out ((ji16) : Int) a2
                  go_wp2_with (first | ((with_reducible refine gate_store (t := 5) (p := 47) rfl ?_); refine store_event (t := 5) (p := 47) (v := ?vo_w30) (w1 := (wc.setCell ⟨go21, ((ji16) : Int).toNat, none⟩ (.int .u8 a2))) ?hg ?ho ?hn ?hr ?_; (case ho => rfl); (case hg => rfl); (case hn => rfl); (case hr => first | (go_simp; done) | (go_simp; rfl)); intro w30 hw; have hg : wc.grownBy w30 (some go21) := (by rw [hw]; exact HP29.2); have hp_ : Kd.R (Kd.int .u8) 5 w30 w.heap.size (fun _ => True) (.slice (some ⟨go21, 0, none⟩) t521.length co28) y526 := (by rw [hw, Ny526.out]; exact HP29.1); clear HP29; have n0_ := ak_ (hp_); have n1_ := ak_ ((by rw [hw]; exact zs_ (HB.out) GB21.out : Below w.heap.size w w30)); clear HO_7; clear HB; have HO_7 := n0_; have HB := n1_; clear n0_ n1_; clear hg hw hp_) | ((with_reducible refine gate_callee (f := 31) rfl ?_); refine goesL_ (some 50) rfl rfl Try.func31 (by kernel_rfl) rfl #[.slice (some ⟨go21, 0, none⟩) y526.length co28, .int .i64 0] rfl (by (try simp only [List.map_toArray, List.map_cons, List.map_nil]); first | done | (rw [show y526.length = t521.length from (Kd.R_reads' HO_7.out).1.symm] <;> rfl) | rfl | (simp only [List.length_drop, List.length_take]; rfl)) ?_; (with_reducible refine (record_Get.calls kj8 _ _ y526 0 t527 t528 t529 _ ?side1 ?side2 A22.out).mono ?_); (case side1 => repeat (first | exact (Kd.R_reads' HO_7.out).2.2 | (with_reducible refine Kd.C_alloc ?_ _) | (with_reducible refine Kd.C_drewN ?_ _) | (with_reducible refine Kd.C_drew ?_))); (case side2 => rw [show y526.length = t521.length from (Kd.R_reads' HO_7.out).1.symm]; exact (Kd.R_reads' HO_7.out).2.1); rintro e w31 ⟨v530, rfl, ho0, hb⟩; refine ⟨_, rfl, ?_⟩; have n0_ := ak_ (Kd.R_elder' (by (with_reducible repeat (first | apply Kd.R_alloc | apply Kd.R_drewN | apply Kd.R_drew)); exact HO_7.out) (Kd.R_base ho0) hb); have n1_ := ak_ (Kd.R_lower (Kd.R_new' ho0 (Kd.R_lt (by (with_reducible repeat (first | apply Kd.R_alloc | apply Kd.R_drewN | apply Kd.R_drew)); exact HO_7.out))) (below_size (by repeat (first | (with_reducible first | exact HB.out | apply pa_ | apply pd_ | apply p1_) | exact HB.out)))); have n2_ := ak_ (ps_ (by repeat (first | (with_reducible first | exact HB.out | apply pa_ | apply pd_ | apply p1_) | exact HB.out)) hb); clear HO_7; clear HB; have HO_7 := n0_; have HO531 := n1_; have HB := n2_; clear n0_ n1_ n2_; (try clear hb hk hi); (try clear ho0)) | ((with_reducible refine gate_callee (f := 33) rfl ?_); refine goesL_ (some 56) rfl rfl Try.func33 (by kernel_rfl) rfl #[.slice (some ⟨go21, 0, none⟩) y526.length co28] rfl (by (try simp only [List.map_toArray, List.map_cons, List.map_nil]); first | done | (rw [show y526.length = t521.length from (Kd.R_reads' HO_7.out).1.symm] <;> rfl) | rfl | (simp only [List.length_drop, List.length_take]; rfl)) ?_; (with_reducible refine (record_All.calls kj8 _ _ y526 t532 t533 t534 _ ?side1 ?side2 A23.out).mono ?_); (case side1 => repeat (first | exact (Kd.R_reads' HO_7.out).2.2 | (with_reducible refine Kd.C_alloc ?_ _) | (with_reducible refine Kd.C_drewN ?_ _) | (with_reducible refine Kd.C_drew ?_))); (case side2 => rw [show y526.length = t521.length from (Kd.R_reads' HO_7.out).1.symm]; exact (Kd.R_reads' HO_7.out).2.1); rintro e w32 ⟨v535, rfl, ho0, hb⟩; refine ⟨_, rfl, ?_⟩; have n0_ := ak_ (Kd.R_below (by (with_reducible repeat (first | apply Kd.R_alloc | apply Kd.R_drewN | apply Kd.R_drew)); exact HO_7.out) hb); have n1_ := ak_ (Kd.R_below (by (with_reducible repeat (first | apply Kd.R_alloc | apply Kd.R_drewN | apply Kd.R_drew)); exact HO531.out) hb); have n2_ := ak_ (Kd.S_lower (Kd.S_new' (Kd.S_new' ho0 (Kd.R_lt (by (with_reducible repeat (first | apply Kd.R_alloc | apply Kd.R_drewN | apply Kd.R_drew)); exact HO_7.out))) (Kd.R_lt (by (with_reducible repeat (first | apply Kd.R_alloc | apply Kd.R_drewN | apply Kd.R_drew)); exact HO531.out))) (below_size (by repeat (first | (with_reducible first | exact HB.out | apply pa_ | apply pd_ | apply p1_) | exact HB.out)))); have n3_ := ak_ (ps_ (by repeat (first | (with_reducible first | exact HB.out | apply pa_ | apply pd_ | apply p1_) | exact HB.out)) hb); clear HO_7; clear HO531; clear HB; have HO_7 := n0_; have HO531 := n1_; have HO536 := n2_; have HB := n3_; clear n0_ n1_ n2_ n3_; (try clear hb hk hi); (try clear ho0); obtain ⟨Ao33, co33, eo33⟩ := Kd.S_slice HO536.out; subst eo33))
                  go_ret
                  exact ⟨by first | rfl | (simp [errW_none, errW_some] <;> rfl) | (simp only [← hji16]; first | rfl | (simp [errW_none, errW_some] <;> rfl)) | (simp [*, errW_none, errW_some] <;> rfl), by repeat (first | (with_reducible first | exact HB.out | apply pa_ | apply pd_ | apply p1_) | exact HB.out)⟩
                rw [if_neg c27] at H
                have c27b0 : (t533 == 0) = false := beq_eq_false_iff_ne.mpr c27
                have c27b1 : (t533 != 0) = true := bne_iff_ne.mpr c27
                exact absurd ((Option.some.inj H).trans HTR_.out) (by decide)
              rw [if_neg c26] at H
              have c26b0 : ((t532.length : Int) == 0) = false := beq_eq_false_iff_ne.mpr c26
              have c26b1 : ((t532.length : Int) != 0) = true := bne_iff_ne.mpr c26
              have c26b2 : ¬ (t532 = []) := fun h_ => c26 (by rw [h_]; rfl)
              exact absurd ((Option.some.inj H).trans HTR_.out) (by decide)
            rw [if_neg c25] at H
            have c25b0 : (t528 == 0) = false := beq_eq_false_iff_ne.mpr c25
            have c25b1 : (t528 != 0) = true := bne_iff_ne.mpr c25
            exact absurd ((Option.some.inj H).trans HTR_.out) (by decide)
          rw [if_neg c18] at H
          exact absurd H (by simp)
        rw [if_neg c17] at H
        exact absurd H (by simp)
  replace c5 := Bool.eq_false_iff.mpr c5
  subst c5
  have H1 : (some false) = some r := by rw [if_neg (show ¬ (false = true) by decide)] at H; exact H
  clear H
  have H := H1
  clear H1
  exact absurd ((Option.some.inj H).trans HTR_.out) (by decide)

/-- THE ONE PURE STATEMENT of usufructlaw06_RecordTurned: yours. -/
def usufructlaw06_RecordTurned.Pure : Prop := ∀ (l0 : List Int) (a1 : Int) (a2 : Int), l0.length ≤ maxLen → l0.length * 1 ≤ 140737488351232 → (∀ x ∈ l0, (Lit.int .u8 x).wf = true) → (Lit.int .u16 a1).wf = true → (Lit.int .u8 a2).wf = true → ∃ k, usufructlaw06_RecordTurned.f k l0 a1 a2 = some true
theorem usufructlaw06_RecordTurned.walk (P : usufructlaw06_RecordTurned.Pure) (a0 : Option Addr) (len0 cap0 : Nat) (z0 : List Int) (a1 : Int) (a2 : Int) (w : World) (w0 : (a0 = none ∧ len0 = 0 ∧ cap0 = 0 ∧ z0 = []) ∨ ∃ x, a0 = some x ∧ len0 ≤ cap0 ∧ cap0 ≤ maxLen ∧ z0.length = cap0 ∧ (∀ i, i < z0.length → w.cell? (x.add i) = some (.int .u8 (z0.getD i 0))) ∧ ∀ n ∈ z0, (Lit.int .u8 n).wf = true) (y0 : len0 * 1 ≤ 140737488351232) (w1 : (Lit.int .u16 a1).wf = true) (w2 : (Lit.int .u8 a2).wf = true) :
    Calls Try.prog 9 #[.slice a0 len0 cap0, .int .u16 a1, .int .u8 a2] w fun e w' => e = .returned (.bool true) ∧ Below w.heap.size w w' := by
  obtain ⟨l0, rfl, hr0, hm0, hw0, hc0⟩ := ReadsInt.ofRowC w0
  obtain ⟨k, h⟩ := P l0 a1 a2 hm0 y0 hw0 w1 w2
  refine (usufructlaw06_RecordTurned.calls k _ _ l0 a1 a2 true w (Kd.C_of_reads (d := (0 : Int)) (h1 := fun _ => rfl) hr0) hc0 h rfl).mono ?_
  rintro e w' ⟨rfl, hd⟩
  exact ⟨rfl, hd⟩

end Go.Proofs.Ytdamiipeijnpnaa.Q
