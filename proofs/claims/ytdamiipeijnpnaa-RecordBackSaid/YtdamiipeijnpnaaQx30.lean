-- written for this claim by a program of the session
import Derived.Test.YtdamiipeijnpnaaQx0
namespace Go.Proofs.Ytdamiipeijnpnaa.Q
open Go.RowKit Go.Proofs.YtdamiipeijnpnaaW.PrintWords Go.Proofs.YtdamiipeijnpnaaW.PrintLast Go.Proofs.YtdamiipeijnpnaaW.PrintMore
attribute [local go_sem] max2_int min2_int max_two min_two max_three min_three max_four min_four   -- for this text's walks alone
set_option linter.unusedVariables false
set_option linter.unusedSimpArgs false

/-! ### usufructlaw06_same: function 35 -/
def usufructlaw06_same.l0 : Nat → List (List Int) → List ByteArray → Int → Option (Bool)
  | 0, _, _, _ => none
  | k + 1, x0, x1, x5 => if x5 < (x0.length : Int) then (if 0 ≤ x5 then (if x5 < (x1.length : Int) then (if (strOfNums (rd_L5 x0 x5)).toList = (rdOf ByteArray.empty x1 x5).toList then (usufructlaw06_same.l0 k x0 x1 (wrap64 (x5 + 1))) else (some false)) else (none)) else (none)) else (some true)
def usufructlaw06_same.f (k : Nat) (l0 : List (List Int)) (l1 : List ByteArray) : Option (Bool) := if (l0.length : Int) = (l1.length : Int) then (usufructlaw06_same.l0 k l0 l1 0) else (some false)
theorem usufructlaw06_same.mono_l : ∀ k, (∀ y0 y1 y2, LeO (usufructlaw06_same.l0 k y0 y1 y2) (usufructlaw06_same.l0 (k + 1) y0 y1 y2))
  | 0 => fun _ _ _ r h => by simp [usufructlaw06_same.l0] at h
  | k + 1 => by
    have ih0 := usufructlaw06_same.mono_l k
    · intro y0 y1 y2
      unfold usufructlaw06_same.l0
      repeat' first
      | (with_reducible exact ih0 _ _ _)
      | (with_reducible exact LeO.refl _)
      | (with_reducible exact LeO.none _)
      | (with_reducible refine LeO.ite ?_ ?_)
      | (with_reducible refine LeO.bind ?_ (fun _ => ?_))
      | exact ih0 _ _ _
      | exact LeO.none _
      | refine LeO.ite ?_ ?_
      | refine LeO.bind ?_ (fun _ => ?_)
theorem usufructlaw06_same.mono : ∀ a0 a1 k, LeO (usufructlaw06_same.f k a0 a1) (usufructlaw06_same.f (k + 1) a0 a1) := by
  intro a0 a1 k
  have ih0 := usufructlaw06_same.mono_l k
  unfold usufructlaw06_same.f
  repeat' first
      | (with_reducible exact ih0 _ _ _)
      | (with_reducible exact LeO.refl _)
      | (with_reducible exact LeO.none _)
      | (with_reducible refine LeO.ite ?_ ?_)
      | (with_reducible refine LeO.bind ?_ (fun _ => ?_))
      | exact ih0 _ _ _
      | exact LeO.none _
      | refine LeO.ite ?_ ?_
      | refine LeO.bind ?_ (fun _ => ?_)
namespace usufructlaw06_same
theorem mt_ {α β : Type} {f : α → β} {l : List α} : l.toArray.map f = (l.map f).toArray := List.map_toArray
theorem mc_ {α β : Type} {f : α → β} {a : α} {l : List α} : (a :: l).map f = f a :: l.map f := rfl
theorem mn_ {α β : Type} {f : α → β} : ([] : List α).map f = [] := rfl
abbrev zn_ := @blk_drewN
abbrev zd_ := @blk_drew
abbrev za_ := @blk_alloc
abbrev zf_ := @blk_frozen
abbrev zc_ := @blk_cell
abbrev zs_ := @below_set
abbrev zr_ := @blk_far
abbrev zp_ := @blk_put
abbrev pd_ := @pw_below_drewN
abbrev p1_ := @below_drew1
abbrev pa_ := @below_alloc
abbrev ak_ := @Aside0.mk
abbrev bl_ := @World.block_lt_of_cell?
abbrev ps_ := @below_step
def b_ (n k : Nat) : Array Bool := ((List.range n).map fun i => k.testBit i).toArray
theorem sa_ {α : Type} {l : List α} {i : Nat} {a : α} : l.toArray.setIfInBounds i a = (l.set i a).toArray := List.setIfInBounds_toArray l i a
theorem sz_ {α : Type} {a b : α} {l : List α} : (a :: l).set 0 b = b :: l := rfl
theorem ss_ {α : Type} {a b : α} {l : List α} {n : Nat} : (a :: l).set (n + 1) b = a :: l.set n b := rfl
end usufructlaw06_same
open usufructlaw06_same in
set_option maxHeartbeats 8000000 in
set_option maxRecDepth 100000 in
theorem usufructlaw06_same.calls (k : Nat) (A0 : Option Addr) (c0 : Nat) (l0 : List (List Int)) (A1 : Option Addr) (c1 : Nat) (l1 : List ByteArray) (r : Bool) (w : World) (hr0 : Kd.C (Kd.slice 5 (Kd.int .u8)) w A0 l0.length l0) (hc0 : l0.length ≤ c0) (hr1 : Kd.C Kd.string w A1 l1.length l1) (hc1 : l1.length ≤ c1) (h : usufructlaw06_same.f k l0 l1 = some r) :
    Calls Try.prog 35 #[.slice A0 l0.length c0, .slice A1 l1.length c1] w fun e w' => e = .returned (.bool r) ∧ Drawn0 w w' := by
  have HR0 := ak_ hr0
  have HC0 := ak_ hc0
  clear hr0 hc0
  have HR1 := ak_ hr1
  have HC1 := ak_ hc1
  clear hr1 hc1
  have H : (if (l0.length : Int) = (l1.length : Int) then (usufructlaw06_same.l0 k l0 l1 0) else (some false)) = some r := h
  clear h
  by_cases c3 : (l0.length : Int) = (l1.length : Int)
  · rw [if_pos c3] at H
    have c3b0 : ((l0.length : Int) == (l1.length : Int)) = true := beq_iff_eq.mpr c3
    have c3b1 : ((l0.length : Int) != (l1.length : Int)) = false := bne_eq_false_iff_eq.mpr c3
    have c3b2 : (l0.length == l1.length) = true := by first | simpa using c3 | (simp at c3 ⊢; omega)
    clear c3
    have H' := ak_ H
    clear H
    go_enter Try.func35, Try.ntmps35
    go_wp2
    repeat (go_quiet (fail); try go_wp2)
    go_loopg [5] k (fun kq v5 w' => ∃ (x5_1 : Int), v5 = .int .i64 x5_1 ∧ Aside0 (usufructlaw06_same.l0 kq l0 l1 x5_1 = some r) ∧ Aside0 (kq ≤ k) ∧ Drawn0 w w')
    case atStart => exact ⟨(0), (by first | rfl | (simp; done) | (simp [*]; done)), H', ⟨Nat.le_refl _⟩, by repeat (first | exact Drawn0.refl _ | apply Drawn0.step)⟩
    case round =>
      clear H'
      try clear c1
      try clear p2
      try clear c3
      try clear c3b0
      try clear c3b1
      try clear c3b2
      obtain ⟨x5_1, rfl, HA, HK1, ⟨m1, rfl⟩⟩ := hrel
      cases gk with
      | zero => exact absurd HA.out (by simp [usufructlaw06_same.l0])
      | succ k1 =>
        have H := HA.out
        clear HA
        simp only [usufructlaw06_same.l0] at H
        by_cases c4 : x5_1 < (l0.length : Int)
        · rw [if_pos c4] at H
          have c4b0 : decide (x5_1 < (l0.length : Int)) = true := decide_eq_true c4
          clear c4
          by_cases c5 : 0 ≤ x5_1
          · rw [if_pos c5] at H
            have c5b0 : decide (0 ≤ x5_1) = true := decide_eq_true c5
            clear c5
            by_cases c6 : x5_1 < (l1.length : Int)
            · rw [if_pos c6] at H
              have c6b0 : decide (x5_1 < (l1.length : Int)) = true := decide_eq_true c6
              clear c6
              by_cases c7 : (strOfNums (rd_L5 l0 x5_1)).toList = (rdOf ByteArray.empty l1 x5_1).toList
              · rw [if_pos c7] at H
                have c7b0 : ((strOfNums (rd_L5 l0 x5_1)).toList == (rdOf ByteArray.empty l1 x5_1).toList) = true := beq_iff_eq.mpr c7
                have c7b1 : ((strOfNums (rd_L5 l0 x5_1)).toList != (rdOf ByteArray.empty l1 x5_1).toList) = false := bne_eq_false_iff_eq.mpr c7
                clear c7
                have H' := ak_ H
                clear H
                have p439 : 0 ≤ (x5_1 : Int) := of_decide_eq_true (by assumption)
                have q439 : x5_1 < (l0.length : Int) := of_decide_eq_true (by assumption)
                obtain ⟨ad439, A439_0, c439_0, e439, hx439_0, hl439_0, hi439_0⟩ := at_L5 HR0.out x5_1 p439 q439
                cases e439
                have HR439_0 := ak_ hi439_0
                have HC439_0 := ak_ hl439_0
                clear hi439_0 hl439_0
                replace p439 := eq_true p439
                replace q439 := eq_true q439
                have hcv8 := fun m_ => Kd.C_string (P := Try.prog) (w := w.drewN m_) (A := A439_0) (c := c439_0) Try.underlying25 Try.underlying5 Try.underlying9 (Kd.C_drewN HR439_0.out m_)
                have hcv8' := fun m_ => Kd.C_string (P := Try.prog) (w := (w.drewN m_).drew) (A := A439_0) (c := c439_0) Try.underlying25 Try.underlying5 Try.underlying9 (Kd.C_drew (Kd.C_drewN HR439_0.out m_))
                have p440 : 0 ≤ (x5_1 : Int) := of_decide_eq_true (by assumption)
                have q440 : x5_1 < (l1.length : Int) := of_decide_eq_true (by assumption)
                obtain ⟨ad440, e440, hx440_0⟩ := Kd.at_string HR1.out x5_1 p440 q440
                cases e440
                replace p440 := eq_true p440
                replace q440 := eq_true q440
                go_wp2
                repeat (go_quiet (fail); try go_wp2)
                go_roundg k1
                case measure => have := HK1.out; omega
                case rel => exact ⟨(wrap64 (x5_1 + 1)), (by first | rfl | (simp; done) | (simp [*]; done)), H', ⟨by have := HK1.out; omega⟩, by repeat (first | exact Drawn0.refl _ | apply Drawn0.step)⟩
              rw [if_neg c7] at H
              have c7b0 : ((strOfNums (rd_L5 l0 x5_1)).toList == (rdOf ByteArray.empty l1 x5_1).toList) = false := beq_eq_false_iff_ne.mpr c7
              have c7b1 : ((strOfNums (rd_L5 l0 x5_1)).toList != (rdOf ByteArray.empty l1 x5_1).toList) = true := bne_iff_ne.mpr c7
              obtain rfl := Option.some.inj H
              have p439 : 0 ≤ (x5_1 : Int) := of_decide_eq_true (by assumption)
              have q439 : x5_1 < (l0.length : Int) := of_decide_eq_true (by assumption)
              obtain ⟨ad439, A439_0, c439_0, e439, hx439_0, hl439_0, hi439_0⟩ := at_L5 HR0.out x5_1 p439 q439
              cases e439
              have HR439_0 := ak_ hi439_0
              have HC439_0 := ak_ hl439_0
              clear hi439_0 hl439_0
              replace p439 := eq_true p439
              replace q439 := eq_true q439
              have hcv9 := fun m_ => Kd.C_string (P := Try.prog) (w := w.drewN m_) (A := A439_0) (c := c439_0) Try.underlying25 Try.underlying5 Try.underlying9 (Kd.C_drewN HR439_0.out m_)
              have hcv9' := fun m_ => Kd.C_string (P := Try.prog) (w := (w.drewN m_).drew) (A := A439_0) (c := c439_0) Try.underlying25 Try.underlying5 Try.underlying9 (Kd.C_drew (Kd.C_drewN HR439_0.out m_))
              have p440 : 0 ≤ (x5_1 : Int) := of_decide_eq_true (by assumption)
              have q440 : x5_1 < (l1.length : Int) := of_decide_eq_true (by assumption)
              obtain ⟨ad440, e440, hx440_0⟩ := Kd.at_string HR1.out x5_1 p440 q440
              cases e440
              replace p440 := eq_true p440
              replace q440 := eq_true q440
              go_wp2
              repeat (go_quiet (fail); try go_wp2)
              go_ret
              exact ⟨by first | rfl | (simp; done) | (simp [*]; done), by repeat (first | exact Drawn0.refl _ | apply Drawn0.step)⟩
            rw [if_neg c6] at H
            exact absurd H (by simp)
          rw [if_neg c5] at H
          exact absurd H (by simp)
        rw [if_neg c4] at H
        have c4b0 : decide (x5_1 < (l0.length : Int)) = false := decide_eq_false c4
        clear c4
        obtain rfl := Option.some.inj H
        go_wp2
        repeat (go_quiet (fail); try go_wp2)
        go_ret
        exact ⟨by first | rfl | (simp; done) | (simp [*]; done), by repeat (first | exact Drawn0.refl _ | apply Drawn0.step)⟩
  rw [if_neg c3] at H
  have c3b0 : ((l0.length : Int) == (l1.length : Int)) = false := beq_eq_false_iff_ne.mpr c3
  have c3b1 : ((l0.length : Int) != (l1.length : Int)) = true := bne_iff_ne.mpr c3
  have c3b2 : (l0.length == l1.length) = false := by first | simpa using c3 | (simp at c3 ⊢; omega)
  obtain rfl := Option.some.inj H
  go_enter Try.func35, Try.ntmps35
  go_wp2
  repeat (go_quiet (fail); try go_wp2)
  go_ret
  exact ⟨by first | rfl | (simp; done) | (simp [*]; done), by repeat (first | exact Drawn0.refl _ | apply Drawn0.step)⟩

end Go.Proofs.Ytdamiipeijnpnaa.Q
