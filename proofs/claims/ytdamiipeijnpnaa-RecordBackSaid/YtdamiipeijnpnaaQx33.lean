-- written for this claim by a program of the session
import Derived.Test.YtdamiipeijnpnaaQx0
import Derived.Test.YtdamiipeijnpnaaQx19
import Derived.Test.YtdamiipeijnpnaaQx20
import Derived.Test.YtdamiipeijnpnaaQx30
import Derived.Test.YtdamiipeijnpnaaGAwakeRec
import Derived.Test.YtdamiipeijnpnaaGRecAll
import Derived.Test.YtdamiipeijnpnaaGRefPut
namespace Go.Proofs.Ytdamiipeijnpnaa.Q
open Go.RowKit Go.Proofs.YtdamiipeijnpnaaW.PrintWords Go.Proofs.YtdamiipeijnpnaaW.PrintLast Go.Proofs.YtdamiipeijnpnaaW.PrintMore
attribute [local go_sem] max2_int min2_int max_two min_two max_three min_three max_four min_four   -- for this text's walks alone
set_option linter.unusedVariables false
set_option linter.unusedSimpArgs false

/-! ### usufructlaw06_RecordBack: function 8 -/
mutual
def usufructlaw06_RecordBack.l0 : Nat → List (List Int) → Int → List Int → List Int → List ByteArray → Int → Option (Bool)
  | 0, _, _, _, _, _, _ => none
  | k + 1, x0, x1, x5, x6, x7, x8 => if x8 < (x0.length : Int) then (if 0 ≤ x8 then (if ((rd_L5 x0 x8).length : Int) > 60 then (some true) else ((record_Put.f (rd_L5 x0 x8)).bind fun bt466 => (if bt466.2 = 0 then ((usufructref06_Put.f k (strOfNums (rd_L5 x0 x8))).bind fun t471 => (if (strOfNums bt466.1).toList = t471.toList then ((record_Size.f ((rd_L5 x0 x8).length : Int)).bind fun t473 => (if (bt466.1.length : Int) = t473 then (if x5.length + bt466.1.length < 140737488355328 then ((some (x5 ++ bt466.1 : List Int)).bind fun y474 => (if x6.length < 17592186044416 then (if x7.length < 8796093022208 then (usufructlaw06_RecordBack.l0 k x0 x1 y474 (x6 ++ [(y474.length : Int)]) (x7 ++ [strOfNums (rd_L5 x0 x8)]) (wrap64 (x8 + 1))) else (none)) else (none))) else (none)) else (some false))) else (some false))) else (some false)))) else (none)) else ((record_All.f k x5).bind fun bt484 => ((usufructlaw06_same.f k bt484.1 x7).bind fun t489 => (if t489 = true then (if bt484.2.1 = (x5.length : Int) then (usufructlaw06_RecordBack.j1 k x1 x5 x6 x7 (bt484.2.2 != 0)) else (usufructlaw06_RecordBack.j1 k x1 x5 x6 x7 true)) else (usufructlaw06_RecordBack.j1 k x1 x5 x6 x7 true))))
def usufructlaw06_RecordBack.j1 : Nat → Int → List Int → List Int → List ByteArray → Bool → Option (Bool)
  | 0, _, _, _, _, _ => none
  | k + 1, x1, x5, x6, x7, x102 => if x102 = true then (some false) else (if (wrap64 ((x5.length : Int) + 1)) = 0 then (none) else (usufructlaw06_RecordBack.l1 k x5 x6 x7 (Int.tmod (wrap64 (x1)) (wrap64 ((x5.length : Int) + 1))) 0 0 0))
def usufructlaw06_RecordBack.l1 : Nat → List Int → List Int → List ByteArray → Int → Int → Int → Int → Option (Bool)
  | 0, _, _, _, _, _, _, _ => none
  | k + 1, x5, x6, x7, x14, x15, x16, x17 => if x17 < (x6.length : Int) then (if 0 ≤ x17 then (if (rd x6 x17) ≤ x14 then (usufructlaw06_RecordBack.l1 k x5 x6 x7 x14 (wrap64 (x17 + 1)) (rd x6 x17) (wrap64 (x17 + 1))) else (if 0 ≤ x14 then (if x14 ≤ (x5.length : Int) then ((record_All.f k (x5.take (x14 : Int).toNat)).bind fun bt496 => (if 0 ≤ x15 then (if x15 ≤ (x7.length : Int) then ((usufructlaw06_same.f k bt496.1 (x7.take (x15 : Int).toNat)).bind fun t505 => (if t505 = true then (if bt496.2.1 = x16 then (if ((bt496.2.2 == 0) == (x16 == x14)) = true then (if bt496.2.2 = 0 then (some true) else (some (bt496.2.2 == 2))) else (some false)) else (some false)) else (some false))) else (none)) else (none))) else (none)) else (none))) else (none)) else (if 0 ≤ x14 then (if x14 ≤ (x5.length : Int) then ((record_All.f k (x5.take (x14 : Int).toNat)).bind fun bt510 => (if 0 ≤ x15 then (if x15 ≤ (x7.length : Int) then ((usufructlaw06_same.f k bt510.1 (x7.take (x15 : Int).toNat)).bind fun t519 => (if t519 = true then (if bt510.2.1 = x16 then (if ((bt510.2.2 == 0) == (x16 == x14)) = true then (if bt510.2.2 = 0 then (some true) else (some (bt510.2.2 == 2))) else (some false)) else (some false)) else (some false))) else (none)) else (none))) else (none)) else (none))
end
def usufructlaw06_RecordBack.f (k : Nat) (l0 : List (List Int)) (a1 : Int) : Option (Bool) := (usufructlaw06_awake.f).bind fun t463 => (if t463 = true then (if (l0.length : Int) > 12 then (some true) else (usufructlaw06_RecordBack.l0 k l0 a1 ([] : List Int) ([] : List Int) ([] : List ByteArray) 0)) else (some false))
theorem usufructlaw06_RecordBack.mono_l : ∀ k, (∀ y0 y1 y2 y3 y4 y5, LeO (usufructlaw06_RecordBack.l0 k y0 y1 y2 y3 y4 y5) (usufructlaw06_RecordBack.l0 (k + 1) y0 y1 y2 y3 y4 y5)) ∧ (∀ y0 y1 y2 y3 y4, LeO (usufructlaw06_RecordBack.j1 k y0 y1 y2 y3 y4) (usufructlaw06_RecordBack.j1 (k + 1) y0 y1 y2 y3 y4)) ∧ (∀ y0 y1 y2 y3 y4 y5 y6, LeO (usufructlaw06_RecordBack.l1 k y0 y1 y2 y3 y4 y5 y6) (usufructlaw06_RecordBack.l1 (k + 1) y0 y1 y2 y3 y4 y5 y6))
  | 0 => ⟨fun _ _ _ _ _ _ r h => by simp [usufructlaw06_RecordBack.l0] at h, fun _ _ _ _ _ r h => by simp [usufructlaw06_RecordBack.j1] at h, fun _ _ _ _ _ _ _ r h => by simp [usufructlaw06_RecordBack.l1] at h⟩
  | k + 1 => by
    obtain ⟨ih0, ih1, ih2⟩ := usufructlaw06_RecordBack.mono_l k
    refine ⟨?_, ?_, ?_⟩
    · intro y0 y1 y2 y3 y4 y5
      unfold usufructlaw06_RecordBack.l0
      repeat' first
      | (with_reducible exact ih0 _ _ _ _ _ _)
      | (with_reducible exact ih1 _ _ _ _ _)
      | (with_reducible exact ih2 _ _ _ _ _ _ _)
      | (with_reducible exact record_All.mono _ _)
      | (with_reducible exact usufructlaw06_same.mono _ _ _)
      | (with_reducible exact usufructref06_Put.mono _ _)
      | (with_reducible exact LeO.refl _)
      | (with_reducible exact LeO.none _)
      | (with_reducible refine LeO.ite ?_ ?_)
      | (with_reducible refine LeO.bind ?_ (fun _ => ?_))
      | exact ih0 _ _ _ _ _ _
      | exact ih1 _ _ _ _ _
      | exact ih2 _ _ _ _ _ _ _
      | exact record_All.mono _ _
      | exact usufructlaw06_same.mono _ _ _
      | exact usufructref06_Put.mono _ _
      | exact LeO.none _
      | refine LeO.ite ?_ ?_
      | refine LeO.bind ?_ (fun _ => ?_)
    · intro y0 y1 y2 y3 y4
      unfold usufructlaw06_RecordBack.j1
      repeat' first
      | (with_reducible exact ih0 _ _ _ _ _ _)
      | (with_reducible exact ih1 _ _ _ _ _)
      | (with_reducible exact ih2 _ _ _ _ _ _ _)
      | (with_reducible exact record_All.mono _ _)
      | (with_reducible exact usufructlaw06_same.mono _ _ _)
      | (with_reducible exact usufructref06_Put.mono _ _)
      | (with_reducible exact LeO.refl _)
      | (with_reducible exact LeO.none _)
      | (with_reducible refine LeO.ite ?_ ?_)
      | (with_reducible refine LeO.bind ?_ (fun _ => ?_))
      | exact ih0 _ _ _ _ _ _
      | exact ih1 _ _ _ _ _
      | exact ih2 _ _ _ _ _ _ _
      | exact record_All.mono _ _
      | exact usufructlaw06_same.mono _ _ _
      | exact usufructref06_Put.mono _ _
      | exact LeO.none _
      | refine LeO.ite ?_ ?_
      | refine LeO.bind ?_ (fun _ => ?_)
    · intro y0 y1 y2 y3 y4 y5 y6
      unfold usufructlaw06_RecordBack.l1
      repeat' first
      | (with_reducible exact ih0 _ _ _ _ _ _)
      | (with_reducible exact ih1 _ _ _ _ _)
      | (with_reducible exact ih2 _ _ _ _ _ _ _)
      | (with_reducible exact record_All.mono _ _)
      | (with_reducible exact usufructlaw06_same.mono _ _ _)
      | (with_reducible exact usufructref06_Put.mono _ _)
      | (with_reducible exact LeO.refl _)
      | (with_reducible exact LeO.none _)
      | (with_reducible refine LeO.ite ?_ ?_)
      | (with_reducible refine LeO.bind ?_ (fun _ => ?_))
      | exact ih0 _ _ _ _ _ _
      | exact ih1 _ _ _ _ _
      | exact ih2 _ _ _ _ _ _ _
      | exact record_All.mono _ _
      | exact usufructlaw06_same.mono _ _ _
      | exact usufructref06_Put.mono _ _
      | exact LeO.none _
      | refine LeO.ite ?_ ?_
      | refine LeO.bind ?_ (fun _ => ?_)
theorem usufructlaw06_RecordBack.mono : ∀ a0 a1 k, LeO (usufructlaw06_RecordBack.f k a0 a1) (usufructlaw06_RecordBack.f (k + 1) a0 a1) := by
  intro a0 a1 k
  obtain ⟨ih0, ih1, ih2⟩ := usufructlaw06_RecordBack.mono_l k
  unfold usufructlaw06_RecordBack.f
  repeat' first
      | (with_reducible exact ih0 _ _ _ _ _ _)
      | (with_reducible exact ih1 _ _ _ _ _)
      | (with_reducible exact ih2 _ _ _ _ _ _ _)
      | (with_reducible exact record_All.mono _ _)
      | (with_reducible exact usufructlaw06_same.mono _ _ _)
      | (with_reducible exact usufructref06_Put.mono _ _)
      | (with_reducible exact LeO.refl _)
      | (with_reducible exact LeO.none _)
      | (with_reducible refine LeO.ite ?_ ?_)
      | (with_reducible refine LeO.bind ?_ (fun _ => ?_))
      | exact ih0 _ _ _ _ _ _
      | exact ih1 _ _ _ _ _
      | exact ih2 _ _ _ _ _ _ _
      | exact record_All.mono _ _
      | exact usufructlaw06_same.mono _ _ _
      | exact usufructref06_Put.mono _ _
      | exact LeO.none _
      | refine LeO.ite ?_ ?_
      | refine LeO.bind ?_ (fun _ => ?_)
def usufructlaw06_RecordBack.T14 : Bool × List (List Nat × List Nat) := (true, [([], []), ([0], [0]), ([1], [1]), ([2], [2]), ([3, 2], [2, 3]), ([2], [2]), ([2], [2]), ([5, 6, 2], [2, 5, 6]), ([7, 2], [2, 7]), ([8, 2], [2, 8]), ([9, 2, 2], [2, 9]), ([4, 10, 2], [2, 4, 10]), ([2, 11], [2, 11]), ([12, 10], [12]), ([13], [13]), ([14, 13], [13, 14]), ([13], [13]), ([13], [13]), ([16, 17, 13], [13, 16, 17]), ([18, 13], [13, 18]), ([19, 13], [13, 19]), ([20, 13, 13], [13, 20]), ([15, 21, 13], [13, 15, 21]), ([13, 22], [13, 22])])
def usufructlaw06_RecordBack.B14 : List Nat := [0, 1, 3, 7, 15, 7, 7, 103, 231, 487, 999, 2047, 4095, 8191, 16383, 32767, 16383, 16383, 212991, 475135, 999423, 2047999, 4194303, 8388607]
theorem usufructlaw06_RecordBack.tab14 : rtab .any (opsOf Try.f8 14) = usufructlaw06_RecordBack.T14 := by kernel_rfl
theorem usufructlaw06_RecordBack.bits14 : waitsOk usufructlaw06_RecordBack.T14.2 usufructlaw06_RecordBack.B14 = true := by kernel_rfl
namespace usufructlaw06_RecordBack
theorem mt_ {α β : Type} {f : α → β} {l : List α} : l.toArray.map f = (l.map f).toArray := List.map_toArray
theorem mc_ {α β : Type} {f : α → β} {a : α} {l : List α} : (a :: l).map f = f a :: l.map f := rfl
theorem mn_ {α β : Type} {f : α → β} : ([] : List α).map f = [] := rfl
abbrev zn_ := @blk_drewN
abbrev zd_ := @blk_drew
abbrev za_ := @blk_alloc
abbrev zf_ := @blk_frozen
abbrev zc_ := @blk_cell
abbrev zs_ := @below_set
abbrev zr_ := @blk_far
abbrev zp_ := @blk_put
abbrev pd_ := @pw_below_drewN
abbrev p1_ := @below_drew1
abbrev pa_ := @below_alloc
abbrev ak_ := @Aside0.mk
abbrev bl_ := @World.block_lt_of_cell?
abbrev ps_ := @below_step
def b_ (n k : Nat) : Array Bool := ((List.range n).map fun i => k.testBit i).toArray
theorem sa_ {α : Type} {l : List α} {i : Nat} {a : α} : l.toArray.setIfInBounds i a = (l.set i a).toArray := List.setIfInBounds_toArray l i a
theorem sz_ {α : Type} {a b : α} {l : List α} : (a :: l).set 0 b = b :: l := rfl
theorem ss_ {α : Type} {a b : α} {l : List α} {n : Nat} : (a :: l).set (n + 1) b = a :: l.set n b := rfl
end usufructlaw06_RecordBack
open usufructlaw06_RecordBack in
set_option maxHeartbeats 8000000 in
set_option maxRecDepth 100000 in
theorem usufructlaw06_RecordBack.calls (k : Nat) (A0 : Option Addr) (c0 : Nat) (l0 : List (List Int)) (a1 : Int) (r : Bool) (w : World) (hr0 : Kd.C (Kd.slice 5 (Kd.int .u8)) w A0 l0.length l0) (hc0 : l0.length ≤ c0) (h : usufructlaw06_RecordBack.f k l0 a1 = some r) (hT_ : r = true) :
    Calls Try.prog 8 #[.slice A0 l0.length c0, .int .u16 a1] w fun e w' => e = .returned (.bool r) ∧ Below w.heap.size w w' := by
  have HTR_ := ak_ hT_
  clear hT_
  have HR0 := ak_ hr0
  have HC0 := ak_ hc0
  clear hr0 hc0
  have HB := ak_ (Below.refl w.heap.size w)
  have H : ((usufructlaw06_awake.f).bind fun t463 => (if t463 = true then (if (l0.length : Int) > 12 then (some true) else (usufructlaw06_RecordBack.l0 k l0 a1 ([] : List Int) ([] : List Int) ([] : List ByteArray) 0)) else (some false))) = some r := h
  clear h
  replace H := Option.bind_eq_some_iff.mp H
  obtain ⟨t463, A30, H⟩ := H
  replace H : (if t463 = true then (if (l0.length : Int) > 12 then (some true) else (usufructlaw06_RecordBack.l0 k l0 a1 ([] : List Int) ([] : List Int) ([] : List ByteArray) 0)) else (some false)) = some r := H
  have A3 := ak_ A30
  clear A30
  by_cases c4 : t463 = true
  · subst c4
    have H1 : (if (l0.length : Int) > 12 then (some true) else (usufructlaw06_RecordBack.l0 k l0 a1 ([] : List Int) ([] : List Int) ([] : List ByteArray) 0)) = some r := by rw [if_pos rfl] at H; exact H
    clear H
    have H := H1
    clear H1
    by_cases c5 : (l0.length : Int) > 12
    · rw [if_pos c5] at H
      have c5b0 : decide (12 < (l0.length : Int)) = true := decide_eq_true c5
      have c5b1 : decide (12 < l0.length) = true := decide_eq_true (by omega)
      clear c5
      obtain rfl := Option.some.inj H
      go_enter Try.func8, Try.ntmps8
      go_wp2_with (first | ((with_reducible refine gate_callee (f := 28) rfl ?_); refine goesL_ (some 18) rfl rfl Try.func28 (by kernel_rfl) rfl #[] rfl (by simp only [mt_, mc_, mn_] <;> rfl) ?_; (with_reducible refine (usufructlaw06_awake.calls  true _ A3.out).mono ?_); rintro e w6 ⟨rfl, hb⟩; refine ⟨_, rfl, ?_⟩; have n0_ := ak_ (ps_ (by repeat (first | (with_reducible first | exact HB.out | apply pa_ | apply pd_ | apply p1_) | exact HB.out)) hb); clear HB; have HB := n0_; clear n0_; (try clear hb hk hi)))
      go_ret
      exact ⟨by first | rfl | (simp [errW_none, errW_some] <;> rfl) | (simp [*, errW_none, errW_some] <;> rfl), by repeat (first | (with_reducible first | exact HB.out | apply pa_ | apply pd_ | apply p1_) | exact HB.out)⟩
    rw [if_neg c5] at H
    have c5b0 : decide (12 < (l0.length : Int)) = false := decide_eq_false c5
    have c5b1 : decide (12 < l0.length) = false := decide_eq_false (by omega)
    clear c5
    have H' := ak_ H
    clear H
    go_enter Try.func8, Try.ntmps8
    go_wp2_with (first | ((with_reducible refine gate_callee (f := 28) rfl ?_); refine goesL_ (some 18) rfl rfl Try.func28 (by kernel_rfl) rfl #[] rfl (by simp only [mt_, mc_, mn_] <;> rfl) ?_; (with_reducible refine (usufructlaw06_awake.calls  true _ A3.out).mono ?_); rintro e w7 ⟨rfl, hb⟩; refine ⟨_, rfl, ?_⟩; have n0_ := ak_ (ps_ (by repeat (first | (with_reducible first | exact HB.out | apply pa_ | apply pd_ | apply p1_) | exact HB.out)) hb); clear HB; have HB := n0_; clear n0_; (try clear hb hk hi)))
    go_loopg [5, 6, 7, 8] k (fun kq v5 v6 v7 v8 w' => ∃ (x5_1 : List Int) (x6_1 : List Int) (x7_1 : List ByteArray) (x8_1 : Int), v8 = .int .i64 x8_1 ∧ Aside0 (usufructlaw06_RecordBack.l0 kq l0 a1 x5_1 x6_1 x7_1 x8_1 = some r) ∧ Aside0 (kq ≤ k) ∧ Aside0 (Kd.R (Kd.int .u8) 5 w' w.heap.size (fun _ => True) v5 x5_1) ∧ Aside0 (Kd.R (Kd.int .i64) 3 w' w.heap.size (fun _ => True) v6 x6_1) ∧ Aside0 (Kd.R Kd.string 9 w' w.heap.size (fun _ => True) v7 x7_1) ∧ Aside0 (Below w.heap.size w w'))
    case atStart => exact ⟨(([] : List Int)), (([] : List Int)), (([] : List ByteArray)), (0), (by first | rfl | (simp; done) | (simp [*]; done)), H', ⟨Nat.le_refl _⟩, ⟨by first | exact Kd.R_nil _ _ _ _ _ | exact Kd.N_nil _ _ _ _ _ | exact Kd.V_nil _ _ _ _ _ | exact Kd.Q_nil _ _ _ _ _ | exact Kd.S_nil _ _ _ _ _⟩, ⟨by first | exact Kd.R_nil _ _ _ _ _ | exact Kd.N_nil _ _ _ _ _ | exact Kd.V_nil _ _ _ _ _ | exact Kd.Q_nil _ _ _ _ _ | exact Kd.S_nil _ _ _ _ _⟩, ⟨by first | exact Kd.R_nil _ _ _ _ _ | exact Kd.N_nil _ _ _ _ _ | exact Kd.V_nil _ _ _ _ _ | exact Kd.Q_nil _ _ _ _ _ | exact Kd.S_nil _ _ _ _ _⟩, ⟨by repeat (first | (with_reducible first | exact HB.out | apply pa_ | apply pd_ | apply p1_) | exact HB.out)⟩⟩
    case round =>
      clear H'
      try clear c2
      try clear p2
      try clear c4
      try clear c5
      try clear c5b0
      try clear c5b1
      obtain ⟨x5_1, x6_1, x7_1, x8_1, rfl, HA, HK1, HO_5, HO_6, HO_7, HB⟩ := hrel
      cases gk with
      | zero => exact absurd HA.out (by simp [usufructlaw06_RecordBack.l0])
      | succ k1 =>
        have H := HA.out
        clear HA
        simp only [usufructlaw06_RecordBack.l0] at H
        by_cases c8 : x8_1 < (l0.length : Int)
        · rw [if_pos c8] at H
          have c8b0 : decide (x8_1 < (l0.length : Int)) = true := decide_eq_true c8
          clear c8
          by_cases c9 : 0 ≤ x8_1
          · rw [if_pos c9] at H
            have c9b0 : decide (0 ≤ x8_1) = true := decide_eq_true c9
            clear c9
            by_cases c10 : ((rd_L5 l0 x8_1).length : Int) > 60
            · rw [if_pos c10] at H
              have c10b0 : decide (60 < ((rd_L5 l0 x8_1).length : Int)) = true := decide_eq_true c10
              have c10b1 : decide (60 < (rd_L5 l0 x8_1).length) = true := decide_eq_true (by omega)
              clear c10
              obtain rfl := Option.some.inj H
              have p464 : 0 ≤ (x8_1 : Int) := of_decide_eq_true (by assumption)
              have q464 : x8_1 < (l0.length : Int) := of_decide_eq_true (by assumption)
              obtain ⟨ad464, A464_0, c464_0, e464, hx464_0, hl464_0, hi464_0⟩ := at_L5 HR0.out x8_1 p464 q464
              cases e464
              replace hx464_0 := (HB.out.cell (bl_ w _ hx464_0)).trans hx464_0
              have HR464_0 := ak_ hi464_0
              have HC464_0 := ak_ hl464_0
              clear hi464_0 hl464_0
              replace p464 := eq_true p464
              replace q464 := eq_true q464
              go_wp2
              go_ret
              exact ⟨by first | rfl | (simp [errW_none, errW_some] <;> rfl) | (simp [*, errW_none, errW_some] <;> rfl), by repeat (first | (with_reducible first | exact HB.out | apply pa_ | apply pd_ | apply p1_) | exact HB.out)⟩
            rw [if_neg c10] at H
            have c10b0 : decide (60 < ((rd_L5 l0 x8_1).length : Int)) = false := decide_eq_false c10
            have c10b1 : decide (60 < (rd_L5 l0 x8_1).length) = false := decide_eq_false (by omega)
            clear c10
            replace H := Option.bind_eq_some_iff.mp H
            obtain ⟨⟨t466, t469⟩, A110, H⟩ := H
            replace H : (if t469 = 0 then ((usufructref06_Put.f k1 (strOfNums (rd_L5 l0 x8_1))).bind fun t471 => (if (strOfNums t466).toList = t471.toList then ((record_Size.f ((rd_L5 l0 x8_1).length : Int)).bind fun t473 => (if (t466.length : Int) = t473 then (if x5_1.length + t466.length < 140737488355328 then ((some (x5_1 ++ t466 : List Int)).bind fun y474 => (if x6_1.length < 17592186044416 then (if x7_1.length < 8796093022208 then (usufructlaw06_RecordBack.l0 k1 l0 a1 y474 (x6_1 ++ [(y474.length : Int)]) (x7_1 ++ [strOfNums (rd_L5 l0 x8_1)]) (wrap64 (x8_1 + 1))) else (none)) else (none))) else (none)) else (some false))) else (some false))) else (some false)) = some r := H
            have A11 := ak_ A110
            clear A110
            by_cases c12 : t469 = 0
            · rw [if_pos c12] at H
              have c12b0 : (t469 == 0) = true := beq_iff_eq.mpr c12
              have c12b1 : (t469 != 0) = false := bne_eq_false_iff_eq.mpr c12
              clear c12
              replace H := Option.bind_eq_some_iff.mp H
              obtain ⟨t471, A130, H⟩ := H
              replace H : (if (strOfNums t466).toList = t471.toList then ((record_Size.f ((rd_L5 l0 x8_1).length : Int)).bind fun t473 => (if (t466.length : Int) = t473 then (if x5_1.length + t466.length < 140737488355328 then ((some (x5_1 ++ t466 : List Int)).bind fun y474 => (if x6_1.length < 17592186044416 then (if x7_1.length < 8796093022208 then (usufructlaw06_RecordBack.l0 k1 l0 a1 y474 (x6_1 ++ [(y474.length : Int)]) (x7_1 ++ [strOfNums (rd_L5 l0 x8_1)]) (wrap64 (x8_1 + 1))) else (none)) else (none))) else (none)) else (some false))) else (some false)) = some r := H
              have A13 := ak_ A130
              clear A130
              by_cases c14 : (strOfNums t466).toList = t471.toList
              · rw [if_pos c14] at H
                have c14b0 : ((strOfNums t466).toList == t471.toList) = true := beq_iff_eq.mpr c14
                have c14b1 : ((strOfNums t466).toList != t471.toList) = false := bne_eq_false_iff_eq.mpr c14
                clear c14
                replace H := Option.bind_eq_some_iff.mp H
                obtain ⟨t473, A150, H⟩ := H
                replace H : (if (t466.length : Int) = t473 then (if x5_1.length + t466.length < 140737488355328 then ((some (x5_1 ++ t466 : List Int)).bind fun y474 => (if x6_1.length < 17592186044416 then (if x7_1.length < 8796093022208 then (usufructlaw06_RecordBack.l0 k1 l0 a1 y474 (x6_1 ++ [(y474.length : Int)]) (x7_1 ++ [strOfNums (rd_L5 l0 x8_1)]) (wrap64 (x8_1 + 1))) else (none)) else (none))) else (none)) else (some false)) = some r := H
                have A15 := ak_ A150
                clear A150
                by_cases c16 : (t466.length : Int) = t473
                · rw [if_pos c16] at H
                  have c16b0 : ((t466.length : Int) == t473) = true := beq_iff_eq.mpr c16
                  have c16b1 : ((t466.length : Int) != t473) = false := bne_eq_false_iff_eq.mpr c16
                  clear c16
                  by_cases c17 : x5_1.length + t466.length < 140737488355328
                  · rw [if_pos c17] at H
                    have LMc17 := ak_ c17
                    clear c17
                    obtain ⟨y474, hy474⟩ : ∃ y_ : List Int, y_ = (x5_1 ++ t466) := ⟨_, rfl⟩
                    replace H : (if x6_1.length < 17592186044416 then (if x7_1.length < 8796093022208 then (usufructlaw06_RecordBack.l0 k1 l0 a1 y474 (x6_1 ++ [(y474.length : Int)]) (x7_1 ++ [strOfNums (rd_L5 l0 x8_1)]) (wrap64 (x8_1 + 1))) else (none)) else (none)) = some r := by first | (rw [hy474]; with_reducible exact H) | (have H2_ := (Option.bind_some _ _).symm.trans H; rw [hy474]; with_reducible exact H2_) | (have H2_ := (Option.bind_some _ _).symm.trans H; with_reducible exact H2_) | with_reducible exact H | (rw [hy474]; exact H) | exact H
                    have Ny474 := ak_ hy474
                    clear hy474
                    by_cases c18 : x6_1.length < 17592186044416
                    · rw [if_pos c18] at H
                      have LMc18 := ak_ c18
                      clear c18
                      obtain ⟨y477, hy477⟩ : ∃ y_ : List Int, y_ = (x6_1 ++ [(y474.length : Int)]) := ⟨_, rfl⟩
                      replace H : (if x7_1.length < 8796093022208 then (usufructlaw06_RecordBack.l0 k1 l0 a1 y474 y477 (x7_1 ++ [strOfNums (rd_L5 l0 x8_1)]) (wrap64 (x8_1 + 1))) else (none)) = some r := by first | (rw [hy477]; with_reducible exact H) | (have H2_ := (Option.bind_some _ _).symm.trans H; rw [hy477]; with_reducible exact H2_) | (have H2_ := (Option.bind_some _ _).symm.trans H; with_reducible exact H2_) | with_reducible exact H | (rw [hy477]; exact H) | exact H
                      have Ny477 := ak_ hy477
                      clear hy477
                      by_cases c19 : x7_1.length < 8796093022208
                      · rw [if_pos c19] at H
                        have LMc19 := ak_ c19
                        clear c19
                        obtain ⟨y481, hy481⟩ : ∃ y_ : List ByteArray, y_ = (x7_1 ++ [strOfNums (rd_L5 l0 x8_1)]) := ⟨_, rfl⟩
                        replace H : (usufructlaw06_RecordBack.l0 k1 l0 a1 y474 y477 y481 (wrap64 (x8_1 + 1))) = some r := by first | (rw [hy481]; with_reducible exact H) | (have H2_ := (Option.bind_some _ _).symm.trans H; rw [hy481]; with_reducible exact H2_) | (have H2_ := (Option.bind_some _ _).symm.trans H; with_reducible exact H2_) | with_reducible exact H | (rw [hy481]; exact H) | exact H
                        have Ny481 := ak_ hy481
                        clear hy481
                        have H' := ak_ H
                        clear H
                        have p464 : 0 ≤ (x8_1 : Int) := of_decide_eq_true (by assumption)
                        have q464 : x8_1 < (l0.length : Int) := of_decide_eq_true (by assumption)
                        obtain ⟨ad464, A464_0, c464_0, e464, hx464_0, hl464_0, hi464_0⟩ := at_L5 HR0.out x8_1 p464 q464
                        cases e464
                        replace hx464_0 := (HB.out.cell (bl_ w _ hx464_0)).trans hx464_0
                        have HR464_0 := ak_ hi464_0
                        have HC464_0 := ak_ hl464_0
                        clear hi464_0 hl464_0
                        replace p464 := eq_true p464
                        replace q464 := eq_true q464
                        have p465 : 0 ≤ (x8_1 : Int) := of_decide_eq_true (by assumption)
                        have q465 : x8_1 < (l0.length : Int) := of_decide_eq_true (by assumption)
                        obtain ⟨ad465, A465_0, c465_0, e465, hx465_0, hl465_0, hi465_0⟩ := at_L5 HR0.out x8_1 p465 q465
                        obtain rfl : ad464 = ad465 := (by injection e465)
                        replace hx465_0 := (HB.out.cell (bl_ w _ hx465_0)).trans hx465_0
                        have HR465_0 := ak_ hi465_0
                        have HC465_0 := ak_ hl465_0
                        clear hi465_0 hl465_0
                        replace p465 := eq_true p465
                        replace q465 := eq_true q465
                        have ea_ := Option.some.inj (hx464_0.symm.trans hx465_0)
                        injection ea_ with ea_ en_ ec_
                        subst ea_
                        subst ec_
                        clear en_
                        try go_wp2_with (first | ((with_reducible refine gate_callee (f := 30) rfl ?_); refine goesL_ (some 40) rfl rfl Try.func30 (by kernel_rfl) rfl #[.slice A464_0 (rd_L5 l0 x8_1).length c464_0] rfl (by (try simp only [List.map_toArray, List.map_cons, List.map_nil]); first | done | rfl | (simp only [List.length_drop, List.length_take]; rfl)) ?_; (with_reducible refine (record_Put.calls (fun k_ => k_ < w.heap.size) _ _ (rd_L5 l0 x8_1) t466 t469 _ ?side1 A11.out).mono ?_); (case side1 => exact Kd.V_mk HC465_0.out (Kd.F_below (Kd.C_F (Kd.heap_int .u8) HR465_0.out) (by repeat (first | (with_reducible first | exact HB.out | apply pa_ | apply pd_ | apply p1_) | exact HB.out)))); rintro e w20 ⟨v467, rfl, ho0, hb⟩; refine ⟨_, rfl, ?_⟩; have n0_ := ak_ (Kd.R_elder' (by (with_reducible repeat (first | apply Kd.R_alloc | apply Kd.R_drewN | apply Kd.R_drew)); exact HO_5.out) (Kd.R_base ho0) hb); have n1_ := ak_ (Kd.R_below (by (with_reducible repeat (first | apply Kd.R_alloc | apply Kd.R_drewN | apply Kd.R_drew)); exact HO_6.out) hb); have n2_ := ak_ (Kd.R_below (by (with_reducible repeat (first | apply Kd.R_alloc | apply Kd.R_drewN | apply Kd.R_drew)); exact HO_7.out) hb); have n3_ := ak_ (Kd.R_lower (Kd.R_new' (Kd.R_mono (ok' := fun k_ => True) ho0 (fun _ hk_ => trivial)) (Kd.R_lt (by (with_reducible repeat (first | apply Kd.R_alloc | apply Kd.R_drewN | apply Kd.R_drew)); exact HO_5.out))) (below_size (by repeat (first | (with_reducible first | exact HB.out | apply pa_ | apply pd_ | apply p1_) | exact HB.out)))); have n4_ := ak_ (ps_ (by repeat (first | (with_reducible first | exact HB.out | apply pa_ | apply pd_ | apply p1_) | exact HB.out)) hb); clear HO_5; clear HO_6; clear HO_7; clear HB; have HO_5 := n0_; have HO_6 := n1_; have HO_7 := n2_; have HO468 := n3_; have HB := n4_; clear n0_ n1_ n2_ n3_ n4_; (try clear hb hk hi); (try clear ho0)))
                        have n0_ := ak_ (Kd.R_drew HO_5.out)
                        have n1_ := ak_ (Kd.R_drew HO_6.out)
                        have n2_ := ak_ (Kd.R_drew HO_7.out)
                        have n3_ := ak_ (Kd.R_drew HO468.out)
                        have n4_ := ak_ (p1_ HB.out)
                        clear HO_5
                        clear HO_6
                        clear HO_7
                        clear HO468
                        clear HB
                        have HO_5 := n0_
                        have HO_6 := n1_
                        have HO_7 := n2_
                        have HO468 := n3_
                        have HB := n4_
                        clear n0_ n1_ n2_ n3_ n4_
                        have p470 : 0 ≤ (x8_1 : Int) := of_decide_eq_true (by assumption)
                        have q470 : x8_1 < (l0.length : Int) := of_decide_eq_true (by assumption)
                        obtain ⟨ad470, A470_0, c470_0, e470, hx470_0, hl470_0, hi470_0⟩ := at_L5 HR0.out x8_1 p470 q470
                        have hw470_0 := hx470_0
                        obtain rfl : ad464 = ad470 := (by injection e470)
                        replace hx470_0 := (HB.out.cell (bl_ w _ hx470_0)).trans hx470_0
                        have HR470_0 := ak_ hi470_0
                        have HC470_0 := ak_ hl470_0
                        clear hi470_0 hl470_0
                        replace p470 := eq_true p470
                        replace q470 := eq_true q470
                        have p472 : 0 ≤ (x8_1 : Int) := of_decide_eq_true (by assumption)
                        have q472 : x8_1 < (l0.length : Int) := of_decide_eq_true (by assumption)
                        obtain ⟨ad472, A472_0, c472_0, e472, hx472_0, hl472_0, hi472_0⟩ := at_L5 HR0.out x8_1 p472 q472
                        have hw472_0 := hx472_0
                        obtain rfl : ad464 = ad472 := (by injection e472)
                        replace hx472_0 := (HB.out.cell (bl_ w _ hx472_0)).trans hx472_0
                        have HR472_0 := ak_ hi472_0
                        have HC472_0 := ak_ hl472_0
                        clear hi472_0 hl472_0
                        replace p472 := eq_true p472
                        replace q472 := eq_true q472
                        obtain ⟨Ao25, co25, eo25⟩ := Kd.R_slice HO468.out
                        (first | subst eo25 | (injection eo25 with f1_ f2_ f3_; have f4_ := f1_.symm; have f5_ := f3_.symm; clear f1_ f2_ f3_; subst f4_; subst f5_))
                        refine start_ (n := 24) (S := fun w' => w'.cell? (ad464.add (x8_1).toNat) = some (.slice A470_0 (rd_L5 l0 x8_1).length c470_0) ∧ w'.cell? (ad464.add (x8_1).toNat) = some (.slice A472_0 (rd_L5 l0 x8_1).length c472_0)) (ds := []) #[false, false, false, false, false, false, false, false, false, false, false, false, false, false, false, false, false, false, false, false, false, false, false, false] (by kernel_rfl) rfl rfl ⟨((HB.out.cell (bl_ w _ hw470_0)).trans hw470_0), ((HB.out.cell (bl_ w _ hw472_0)).trans hw472_0)⟩ (fun hHeld => ?_); refine with_tabW usufructlaw06_RecordBack.tab14 usufructlaw06_RecordBack.bits14 (fun HT_ HW_ => ?_)
                        generalize w20.drew = w21 at HO_5 HO_6 HO_7 HO468 HB HR470_0 HR472_0 hx470_0 hx472_0 hHeld ⊢
                        refine pure_ (i := 0) (N := some 43) (v := ?_) (a' := ?_) (b_ 24 1) rfl rfl (any_of HT_.out (by kernel_rfl)) (fun _ _ _ h => h) (Or.inl ⟨by rfl, ?_⟩) ?_ ?_; rotate_left; (· intro w'; go_simp; with_reducible rfl); rotate_left; (· simp only [Act.put, sa_, sz_, ss_, i64_w, i32_w]; rfl)
                        refine pure_ (i := 1) (N := some 44) (v := ?_) (a' := ?_) (b_ 24 3) rfl rfl (any_of HT_.out (by kernel_rfl)) (fun _ _ _ h => h) (Or.inl ⟨by rfl, ?_⟩) ?_ ?_; rotate_left; (· intro w'; go_simp; with_reducible rfl); rotate_left; (· simp only [Act.put, sa_, sz_, ss_, i64_w, i32_w]; rfl)
                        refine pure_ (i := 2) (N := some 45) (v := ?_) (a' := ?_) (b_ 24 7) rfl rfl (any_of HT_.out (by kernel_rfl)) (fun _ _ _ h => h) (Or.inl ⟨by rfl, ?_⟩) ?_ ?_; rotate_left; (· intro w'; go_simp; with_reducible rfl); rotate_left; (· simp only [Act.put, sa_, sz_, ss_, i64_w, i32_w]; rfl)
                        refine pure_ (i := 3) (N := some 46) (v := ?_) (a' := ?_) (b_ 24 15) rfl rfl (any_of HT_.out (by kernel_rfl)) (fun _ _ _ h => h) (Or.inl ⟨by rfl, ?_⟩) ?_ ?_; rotate_left; (· intro w'; go_simp; with_reducible rfl); rotate_left; (· simp only [Act.put, sa_, sz_, ss_, i64_w, i32_w]; rfl)
                        refine pure_ (i := 5) (N := some 48) (v := ?_) (a' := ?_) (b_ 24 47) rfl rfl (any_of HT_.out (by kernel_rfl)) (fun _ _ _ h => h) (Or.inl ⟨by rfl, ?_⟩) ?_ ?_; rotate_left; (· intro w'; go_simp; with_reducible rfl); rotate_left; (· simp only [Act.put, sa_, sz_, ss_, i64_w, i32_w]; rfl)
                        refine pure_ (i := 6) (N := some 49) (v := ?_) (a' := ?_) (b_ 24 111) rfl rfl (any_of HT_.out (by kernel_rfl)) (fun _ _ _ h => h) (Or.inl ⟨by rfl, ?_⟩) ?_ ?_; rotate_left; (· intro w'; go_simp; with_reducible rfl); rotate_left; (· simp only [Act.put, sa_, sz_, ss_, i64_w, i32_w]; rfl)
                        refine pure_ (i := 7) (N := some 50) (v := ?_) (a' := ?_) (b_ 24 239) rfl rfl (any_of HT_.out (by kernel_rfl)) (fun _ _ _ h => h) (Or.inl ⟨by rfl, ?_⟩) ?_ ?_; rotate_left; (· intro w'; go_simp; with_reducible rfl); rotate_left; (· simp only [Act.put, sa_, sz_, ss_, i64_w, i32_w]; rfl)
                        refine take_ (i := 8) (N := some 51) (v := ?_) (a' := ?_) (b_ 24 495) rfl rfl (take_ofW HT_.out HW_.out (by kernel_rfl)) (fun _ _ _ h => h) (Or.inl ⟨by rfl, ?_⟩) hHeld ?_ ?_
                        rotate_left
                        · rintro w' ⟨s0, s1⟩
                          go_simp
                          with_reducible rfl
                        rotate_left
                        · simp only [Act.put, sa_, sz_, ss_, i64_w, i32_w]
                          rfl
                        refine join_ (σ := Unit) 13 (b_ 24 2047) (fun s_ => [(47, .string (strOfNums t466)), (52, .string (strOfNums (rd_L5 l0 x8_1))), (53, .string t471)]) (fun s_ w' => (w'.cell? (ad464.add (x8_1).toNat) = some (.slice A470_0 (rd_L5 l0 x8_1).length c470_0) ∧ w'.cell? (ad464.add (x8_1).toNat) = some (.slice A472_0 (rd_L5 l0 x8_1).length c472_0)) ∧ (Kd.R (Kd.int .u8) 5 w' w.heap.size (fun k_ => some k_ ≠ (u5 : Value).ownBlock) (.slice Ao25 t466.length co25) t466) ∧ (Kd.R (Kd.int .u8) 5 w' w.heap.size (fun k_ => some k_ ≠ (.slice Ao25 t466.length co25 : Value).ownBlock) u5 x5_1) ∧ (Kd.R (Kd.int .i64) 3 w' w.heap.size (fun _ => True) u6 x6_1) ∧ (Kd.R Kd.string 9 w' w.heap.size (fun _ => True) u7 x7_1) ∧ (Below w.heap.size w w')) ?_ ?_
                        rotate_left
                        · intro hCont
                          refine two_ (i := 4) (j := 9) (Ni := some 47) (Nj := some 52) (b_ 24 511) (b_ 24 1007) rfl rfl rfl rfl (two_of HT_.out (by kernel_rfl)) (by decide) (by decide) (fun K hK => ?_) (fun K hK => ?_)
                          · skip
                            have hcv22 := own_string (P := Try.prog) Try.underlying25 Try.underlying5 Try.underlying9 (Kd.own_of_R HO468.out)
                            refine value_ (w1 := ?_) (v := ?_) (by rfl) rfl ?_ ?_
                            rotate_left 2
                            · go_simp
                              constructor
                              · rfl
                              rfl
                            clear hcv22
                            refine hK.out _ _ ⟨((HB.out.cell (bl_ w _ hw470_0)).trans hw470_0), ((HB.out.cell (bl_ w _ hw472_0)).trans hw472_0)⟩ (fun hHeld => ?_)
                            clear hK K
                            refine norm_ (a' := ?_) ?_ ?_
                            rotate_left
                            · show Act.put _ (some 47) _ = _
                              simp only [Act.put, sa_, sz_, ss_, i64_w, i32_w]
                              rfl
                            refine one_ (i := 9) (N := some 52) (b_ 24 1023) rfl rfl (one_of HT_.out (by kernel_rfl)) (by decide) (fun K hK => ?_)
                            have hcv23 := Kd.C_string (P := Try.prog) (A := A470_0) (c := c470_0) Try.underlying25 Try.underlying5 Try.underlying9 (Kd.C_below HR470_0.out HB.out)
                            refine value_ (w1 := ?_) (v := ?_) (by rfl) rfl ?_ ?_
                            rotate_left 2
                            · go_simp
                              constructor
                              · rfl
                              rfl
                            clear hcv23
                            refine hK.out _ _ ⟨((HB.out.cell (bl_ w _ hw470_0)).trans hw470_0), ((HB.out.cell (bl_ w _ hw472_0)).trans hw472_0)⟩ (fun hHeld => ?_)
                            clear hK K
                            refine norm_ (a' := ?_) ?_ ?_
                            rotate_left
                            · show Act.put _ (some 52) _ = _
                              simp only [Act.put, sa_, sz_, ss_, i64_w, i32_w]
                              rfl
                            refine one_ (i := 10) (N := some 53) (b_ 24 2047) rfl rfl (one_of HT_.out (by kernel_rfl)) (by decide) (fun K hK => ?_)
                            refine goes_ Try.func36 (by kernel_rfl) rfl #[.string (strOfNums (rd_L5 l0 x8_1))] (by rfl) rfl rfl (by (try simp only [List.map_toArray, List.map_cons, List.map_nil]); first | done | rfl | (simp only [List.length_drop, List.length_take]; rfl)) ?_
                            with_reducible refine (usufructref06_Put.calls k1 (strOfNums (rd_L5 l0 x8_1)) t471 _ A13.out).mono ?_
                            rintro e w24 ⟨rfl, hb⟩
                            refine ⟨_, rfl, ?_⟩
                            have n0_ := ak_ (Kd.R_below (by (with_reducible repeat (first | apply Kd.R_alloc | apply Kd.R_drewN | apply Kd.R_drew)); exact HO_5.out) hb)
                            have n1_ := ak_ (Kd.R_below (by (with_reducible repeat (first | apply Kd.R_alloc | apply Kd.R_drewN | apply Kd.R_drew)); exact HO_6.out) hb)
                            have n2_ := ak_ (Kd.R_below (by (with_reducible repeat (first | apply Kd.R_alloc | apply Kd.R_drewN | apply Kd.R_drew)); exact HO_7.out) hb)
                            have n3_ := ak_ (Kd.R_below (by (with_reducible repeat (first | apply Kd.R_alloc | apply Kd.R_drewN | apply Kd.R_drew)); exact HO468.out) hb)
                            have n4_ := ak_ (ps_ (by repeat (first | (with_reducible first | exact HB.out | apply pa_ | apply pd_ | apply p1_) | exact HB.out)) hb)
                            clear HO_5
                            clear HO_6
                            clear HO_7
                            clear HO468
                            clear HB
                            have HO_5 := n0_
                            have HO_6 := n1_
                            have HO_7 := n2_
                            have HO468 := n3_
                            have HB := n4_
                            clear n0_ n1_ n2_ n3_ n4_
                            (try clear hb hk hi)
                            refine hK.out _ _ ⟨((HB.out.cell (bl_ w _ hw470_0)).trans hw470_0), ((HB.out.cell (bl_ w _ hw472_0)).trans hw472_0)⟩ (fun hHeld => ?_)
                            clear hK K
                            refine norm_ (a' := ?_) ?_ ?_
                            rotate_left
                            · show Act.put _ (some 53) _ = _
                              simp only [Act.put, sa_, sz_, ss_, i64_w, i32_w]
                              rfl
                            exact norm_ (by simp only [putAll, Act.put, sa_, sz_, ss_]) (hCont () _ ⟨hHeld, (by (with_reducible repeat (first | apply Kd.R_alloc | apply Kd.R_drewN | apply Kd.R_drew)); exact Kd.R_mono HO468.out (fun _ hk => hk.2)), (by (with_reducible repeat (first | apply Kd.R_alloc | apply Kd.R_drewN | apply Kd.R_drew)); exact Kd.R_mono HO_5.out (fun _ hk => hk.2)), (by (with_reducible repeat (first | apply Kd.R_alloc | apply Kd.R_drewN | apply Kd.R_drew)); exact HO_6.out), (by (with_reducible repeat (first | apply Kd.R_alloc | apply Kd.R_drewN | apply Kd.R_drew)); exact HO_7.out), (by repeat (first | (with_reducible first | exact HB.out | apply pa_ | apply pd_ | apply p1_) | exact HB.out))⟩)
                          skip
                          have hcv22 := Kd.C_string (P := Try.prog) (A := A470_0) (c := c470_0) Try.underlying25 Try.underlying5 Try.underlying9 (Kd.C_below HR470_0.out HB.out)
                          refine value_ (w1 := ?_) (v := ?_) (by rfl) rfl ?_ ?_
                          rotate_left 2
                          · go_simp
                            constructor
                            · rfl
                            rfl
                          clear hcv22
                          refine hK.out _ _ ⟨((HB.out.cell (bl_ w _ hw470_0)).trans hw470_0), ((HB.out.cell (bl_ w _ hw472_0)).trans hw472_0)⟩ (fun hHeld => ?_)
                          clear hK K
                          refine norm_ (a' := ?_) ?_ ?_
                          rotate_left
                          · show Act.put _ (some 52) _ = _
                            simp only [Act.put, sa_, sz_, ss_, i64_w, i32_w]
                            rfl
                          refine two_ (i := 4) (j := 10) (Ni := some 47) (Nj := some 53) (b_ 24 1023) (b_ 24 2031) rfl rfl rfl rfl (two_of HT_.out (by kernel_rfl)) (by decide) (by decide) (fun K hK => ?_) (fun K hK => ?_)
                          · skip
                            have hcv23 := own_string (P := Try.prog) Try.underlying25 Try.underlying5 Try.underlying9 (Kd.own_of_R HO468.out)
                            refine value_ (w1 := ?_) (v := ?_) (by rfl) rfl ?_ ?_
                            rotate_left 2
                            · go_simp
                              constructor
                              · rfl
                              rfl
                            clear hcv23
                            refine hK.out _ _ ⟨((HB.out.cell (bl_ w _ hw470_0)).trans hw470_0), ((HB.out.cell (bl_ w _ hw472_0)).trans hw472_0)⟩ (fun hHeld => ?_)
                            clear hK K
                            refine norm_ (a' := ?_) ?_ ?_
                            rotate_left
                            · show Act.put _ (some 47) _ = _
                              simp only [Act.put, sa_, sz_, ss_, i64_w, i32_w]
                              rfl
                            refine one_ (i := 10) (N := some 53) (b_ 24 2047) rfl rfl (one_of HT_.out (by kernel_rfl)) (by decide) (fun K hK => ?_)
                            refine goes_ Try.func36 (by kernel_rfl) rfl #[.string (strOfNums (rd_L5 l0 x8_1))] (by rfl) rfl rfl (by (try simp only [List.map_toArray, List.map_cons, List.map_nil]); first | done | rfl | (simp only [List.length_drop, List.length_take]; rfl)) ?_
                            with_reducible refine (usufructref06_Put.calls k1 (strOfNums (rd_L5 l0 x8_1)) t471 _ A13.out).mono ?_
                            rintro e w24 ⟨rfl, hb⟩
                            refine ⟨_, rfl, ?_⟩
                            have n0_ := ak_ (Kd.R_below (by (with_reducible repeat (first | apply Kd.R_alloc | apply Kd.R_drewN | apply Kd.R_drew)); exact HO_5.out) hb)
                            have n1_ := ak_ (Kd.R_below (by (with_reducible repeat (first | apply Kd.R_alloc | apply Kd.R_drewN | apply Kd.R_drew)); exact HO_6.out) hb)
                            have n2_ := ak_ (Kd.R_below (by (with_reducible repeat (first | apply Kd.R_alloc | apply Kd.R_drewN | apply Kd.R_drew)); exact HO_7.out) hb)
                            have n3_ := ak_ (Kd.R_below (by (with_reducible repeat (first | apply Kd.R_alloc | apply Kd.R_drewN | apply Kd.R_drew)); exact HO468.out) hb)
                            have n4_ := ak_ (ps_ (by repeat (first | (with_reducible first | exact HB.out | apply pa_ | apply pd_ | apply p1_) | exact HB.out)) hb)
                            clear HO_5
                            clear HO_6
                            clear HO_7
                            clear HO468
                            clear HB
                            have HO_5 := n0_
                            have HO_6 := n1_
                            have HO_7 := n2_
                            have HO468 := n3_
                            have HB := n4_
                            clear n0_ n1_ n2_ n3_ n4_
                            (try clear hb hk hi)
                            refine hK.out _ _ ⟨((HB.out.cell (bl_ w _ hw470_0)).trans hw470_0), ((HB.out.cell (bl_ w _ hw472_0)).trans hw472_0)⟩ (fun hHeld => ?_)
                            clear hK K
                            refine norm_ (a' := ?_) ?_ ?_
                            rotate_left
                            · show Act.put _ (some 53) _ = _
                              simp only [Act.put, sa_, sz_, ss_, i64_w, i32_w]
                              rfl
                            exact norm_ (by simp only [putAll, Act.put, sa_, sz_, ss_]) (hCont () _ ⟨hHeld, (by (with_reducible repeat (first | apply Kd.R_alloc | apply Kd.R_drewN | apply Kd.R_drew)); exact Kd.R_mono HO468.out (fun _ hk => hk.2)), (by (with_reducible repeat (first | apply Kd.R_alloc | apply Kd.R_drewN | apply Kd.R_drew)); exact Kd.R_mono HO_5.out (fun _ hk => hk.2)), (by (with_reducible repeat (first | apply Kd.R_alloc | apply Kd.R_drewN | apply Kd.R_drew)); exact HO_6.out), (by (with_reducible repeat (first | apply Kd.R_alloc | apply Kd.R_drewN | apply Kd.R_drew)); exact HO_7.out), (by repeat (first | (with_reducible first | exact HB.out | apply pa_ | apply pd_ | apply p1_) | exact HB.out))⟩)
                          skip
                          refine goes_ Try.func36 (by kernel_rfl) rfl #[.string (strOfNums (rd_L5 l0 x8_1))] (by rfl) rfl rfl (by (try simp only [List.map_toArray, List.map_cons, List.map_nil]); first | done | rfl | (simp only [List.length_drop, List.length_take]; rfl)) ?_
                          with_reducible refine (usufructref06_Put.calls k1 (strOfNums (rd_L5 l0 x8_1)) t471 _ A13.out).mono ?_
                          rintro e w23 ⟨rfl, hb⟩
                          refine ⟨_, rfl, ?_⟩
                          have n0_ := ak_ (Kd.R_below (by (with_reducible repeat (first | apply Kd.R_alloc | apply Kd.R_drewN | apply Kd.R_drew)); exact HO_5.out) hb)
                          have n1_ := ak_ (Kd.R_below (by (with_reducible repeat (first | apply Kd.R_alloc | apply Kd.R_drewN | apply Kd.R_drew)); exact HO_6.out) hb)
                          have n2_ := ak_ (Kd.R_below (by (with_reducible repeat (first | apply Kd.R_alloc | apply Kd.R_drewN | apply Kd.R_drew)); exact HO_7.out) hb)
                          have n3_ := ak_ (Kd.R_below (by (with_reducible repeat (first | apply Kd.R_alloc | apply Kd.R_drewN | apply Kd.R_drew)); exact HO468.out) hb)
                          have n4_ := ak_ (ps_ (by repeat (first | (with_reducible first | exact HB.out | apply pa_ | apply pd_ | apply p1_) | exact HB.out)) hb)
                          clear HO_5
                          clear HO_6
                          clear HO_7
                          clear HO468
                          clear HB
                          have HO_5 := n0_
                          have HO_6 := n1_
                          have HO_7 := n2_
                          have HO468 := n3_
                          have HB := n4_
                          clear n0_ n1_ n2_ n3_ n4_
                          (try clear hb hk hi)
                          refine hK.out _ _ ⟨((HB.out.cell (bl_ w _ hw470_0)).trans hw470_0), ((HB.out.cell (bl_ w _ hw472_0)).trans hw472_0)⟩ (fun hHeld => ?_)
                          clear hK K
                          refine norm_ (a' := ?_) ?_ ?_
                          rotate_left
                          · show Act.put _ (some 53) _ = _
                            simp only [Act.put, sa_, sz_, ss_, i64_w, i32_w]
                            rfl
                          refine one_ (i := 4) (N := some 47) (b_ 24 2047) rfl rfl (one_of HT_.out (by kernel_rfl)) (by decide) (fun K hK => ?_)
                          have hcv24 := own_string (P := Try.prog) Try.underlying25 Try.underlying5 Try.underlying9 (Kd.own_of_R HO468.out)
                          refine value_ (w1 := ?_) (v := ?_) (by rfl) rfl ?_ ?_
                          rotate_left 2
                          · go_simp
                            constructor
                            · rfl
                            rfl
                          clear hcv24
                          refine hK.out _ _ ⟨((HB.out.cell (bl_ w _ hw470_0)).trans hw470_0), ((HB.out.cell (bl_ w _ hw472_0)).trans hw472_0)⟩ (fun hHeld => ?_)
                          clear hK K
                          refine norm_ (a' := ?_) ?_ ?_
                          rotate_left
                          · show Act.put _ (some 47) _ = _
                            simp only [Act.put, sa_, sz_, ss_, i64_w, i32_w]
                            rfl
                          exact norm_ (by simp only [putAll, Act.put, sa_, sz_, ss_]) (hCont () _ ⟨hHeld, (by (with_reducible repeat (first | apply Kd.R_alloc | apply Kd.R_drewN | apply Kd.R_drew)); exact Kd.R_mono HO468.out (fun _ hk => hk.2)), (by (with_reducible repeat (first | apply Kd.R_alloc | apply Kd.R_drewN | apply Kd.R_drew)); exact Kd.R_mono HO_5.out (fun _ hk => hk.2)), (by (with_reducible repeat (first | apply Kd.R_alloc | apply Kd.R_drewN | apply Kd.R_drew)); exact HO_6.out), (by (with_reducible repeat (first | apply Kd.R_alloc | apply Kd.R_drewN | apply Kd.R_drew)); exact HO_7.out), (by repeat (first | (with_reducible first | exact HB.out | apply pa_ | apply pd_ | apply p1_) | exact HB.out))⟩)
                        rintro _ w26 ⟨hS_, h0_, h1_, h2_, h3_, h4_⟩
                        have n0_ : Aside0 (Kd.R (Kd.int .u8) 5 w26 w.heap.size (fun k_ => some k_ ≠ (u5 : Value).ownBlock) (.slice Ao25 t466.length co25) t466) := ⟨h0_⟩
                        have n1_ : Aside0 (Kd.R (Kd.int .u8) 5 w26 w.heap.size (fun k_ => some k_ ≠ (.slice Ao25 t466.length co25 : Value).ownBlock) u5 x5_1) := ⟨h1_⟩
                        have n2_ : Aside0 (Kd.R (Kd.int .i64) 3 w26 w.heap.size (fun _ => True) u6 x6_1) := ⟨h2_⟩
                        have n3_ : Aside0 (Kd.R Kd.string 9 w26 w.heap.size (fun _ => True) u7 x7_1) := ⟨h3_⟩
                        have n4_ : Aside0 (Below w.heap.size w w26) := ⟨h4_⟩
                        clear HO_5
                        clear HO_6
                        clear HO_7
                        clear HO468
                        clear HB
                        clear h0_ h1_ h2_ h3_ h4_
                        have HO468 := n0_
                        have HO_5 := n1_
                        have HO_6 := n2_
                        have HO_7 := n3_
                        have HB := n4_
                        clear n0_ n1_ n2_ n3_ n4_
                        have hHeld : w26.cell? (ad464.add (x8_1).toNat) = some (.slice A470_0 (rd_L5 l0 x8_1).length c470_0) ∧ w26.cell? (ad464.add (x8_1).toNat) = some (.slice A472_0 (rd_L5 l0 x8_1).length c472_0) := hS_
                        refine norm_ (a' := ?_) ?_ ?_
                        rotate_left
                        · simp only [putAll, Act.put, sa_, sz_, ss_]
                          rfl
                        refine pure_ (i := 11) (N := some 54) (v := ?_) (a' := ?_) (b_ 24 4095) rfl rfl (any_of HT_.out (by kernel_rfl)) (fun _ _ _ h => h) (Or.inl ⟨by rfl, ?_⟩) ?_ ?_; rotate_left; (· intro w'; go_simp; with_reducible rfl); rotate_left; (· simp only [Act.put, sa_, sz_, ss_, i64_w, i32_w]; rfl)
                        refine pure_ (i := 12) (N := some 55) (v := ?_) (a' := ?_) (b_ 24 8191) rfl rfl (any_of HT_.out (by kernel_rfl)) (fun _ _ _ h => h) (Or.inl ⟨by rfl, ?_⟩) ?_ ?_; rotate_left; (· intro w'; go_simp; with_reducible rfl); rotate_left; (· simp only [Act.put, sa_, sz_, ss_, i64_w, i32_w]; rfl)
                        refine pure_ (i := 13) (N := some 56) (v := ?_) (a' := ?_) (b_ 24 16383) rfl rfl (any_of HT_.out (by kernel_rfl)) (fun _ _ _ h => h) (Or.inl ⟨by rfl, ?_⟩) ?_ ?_; rotate_left; (· intro w'; go_simp; with_reducible rfl); rotate_left; (· simp only [Act.put, sa_, sz_, ss_, i64_w, i32_w]; rfl)
                        refine pure_ (i := 14) (N := some 57) (v := ?_) (a' := ?_) (b_ 24 32767) rfl rfl (any_of HT_.out (by kernel_rfl)) (fun _ _ _ h => h) (Or.inl ⟨by rfl, ?_⟩) ?_ ?_; rotate_left; (· intro w'; go_simp; with_reducible rfl); rotate_left; (· simp only [Act.put, sa_, sz_, ss_, i64_w, i32_w]; rfl)
                        refine pure_ (i := 15) (N := some 58) (v := ?_) (a' := ?_) (b_ 24 65535) rfl rfl (any_of HT_.out (by kernel_rfl)) (fun _ _ _ h => h) (Or.inl ⟨by rfl, ?_⟩) ?_ ?_; rotate_left; (· intro w'; go_simp; with_reducible rfl); rotate_left; (· simp only [Act.put, sa_, sz_, ss_, i64_w, i32_w]; rfl)
                        refine pure_ (i := 16) (N := some 59) (v := ?_) (a' := ?_) (b_ 24 131071) rfl rfl (any_of HT_.out (by kernel_rfl)) (fun _ _ _ h => h) (Or.inl ⟨by rfl, ?_⟩) ?_ ?_; rotate_left; (· intro w'; go_simp; with_reducible rfl); rotate_left; (· simp only [Act.put, sa_, sz_, ss_, i64_w, i32_w]; rfl)
                        refine pure_ (i := 17) (N := some 60) (v := ?_) (a' := ?_) (b_ 24 262143) rfl rfl (any_of HT_.out (by kernel_rfl)) (fun _ _ _ h => h) (Or.inl ⟨by rfl, ?_⟩) ?_ ?_; rotate_left; (· intro w'; go_simp; with_reducible rfl); rotate_left; (· simp only [Act.put, sa_, sz_, ss_, i64_w, i32_w]; rfl)
                        refine pure_ (i := 18) (N := some 61) (v := ?_) (a' := ?_) (b_ 24 524287) rfl rfl (any_of HT_.out (by kernel_rfl)) (fun _ _ _ h => h) (Or.inl ⟨by rfl, ?_⟩) ?_ ?_; rotate_left; (· intro w'; go_simp; with_reducible rfl); rotate_left; (· simp only [Act.put, sa_, sz_, ss_, i64_w, i32_w]; rfl)
                        refine take_ (i := 19) (N := some 62) (v := ?_) (a' := ?_) (b_ 24 1048575) rfl rfl (take_ofW HT_.out HW_.out (by kernel_rfl)) (fun _ _ _ h => h) (Or.inl ⟨by rfl, ?_⟩) hHeld ?_ ?_
                        rotate_left
                        · rintro w' ⟨s0, s1⟩
                          go_simp
                          with_reducible rfl
                        rotate_left
                        · simp only [Act.put, sa_, sz_, ss_, i64_w, i32_w]
                          rfl
                        refine pure_ (i := 20) (N := some 63) (v := ?_) (a' := ?_) (b_ 24 2097151) rfl rfl (any_of HT_.out (by kernel_rfl)) (fun _ _ _ h => h) (Or.inl ⟨by rfl, ?_⟩) ?_ ?_; rotate_left; (· intro w'; go_simp; with_reducible rfl); rotate_left; (· simp only [Act.put, sa_, sz_, ss_, i64_w, i32_w]; rfl)
                        refine one_ (i := 21) (N := some 64) (b_ 24 4194303) rfl rfl (one_of HT_.out (by kernel_rfl)) (by decide) (fun K hK => ?_)
                        refine goes_ Try.func29 (by kernel_rfl) rfl #[.int .i64 ((rd_L5 l0 x8_1).length : Int)] (by rfl) rfl rfl (by (try simp only [List.map_toArray, List.map_cons, List.map_nil]); first | done | rfl | (simp only [List.length_drop, List.length_take]; rfl)) ?_
                        with_reducible refine (record_Size.calls ((rd_L5 l0 x8_1).length : Int) t473 _ A15.out).mono ?_
                        rintro e w' ⟨rfl, ⟨nd, rfl⟩⟩
                        refine ⟨_, rfl, ?_⟩
                        refine hK.out _ _ ⟨((HB.out.cell (bl_ w _ hw470_0)).trans hw470_0), ((HB.out.cell (bl_ w _ hw472_0)).trans hw472_0)⟩ (fun hHeld => ?_)
                        clear hK K
                        refine norm_ (a' := ?_) ?_ ?_
                        rotate_left
                        · show Act.put _ (some 64) _ = _
                          simp only [Act.put, sa_, sz_, ss_, i64_w, i32_w]
                          rfl
                        refine pure_ (i := 22) (N := some 65) (v := ?_) (a' := ?_) (b_ 24 8388607) rfl rfl (any_of HT_.out (by kernel_rfl)) (fun _ _ _ h => h) (Or.inl ⟨by rfl, ?_⟩) ?_ ?_; rotate_left; (· intro w'; go_simp; with_reducible rfl); rotate_left; (· simp only [Act.put, sa_, sz_, ss_, i64_w, i32_w]; rfl)
                        refine pure_ (i := 23) (N := some 66) (v := ?_) (a' := ?_) (b_ 24 16777215) rfl rfl (any_of HT_.out (by kernel_rfl)) (fun _ _ _ h => h) (Or.inl ⟨by rfl, ?_⟩) ?_ ?_; rotate_left; (· intro w'; go_simp; with_reducible rfl); rotate_left; (· simp only [Act.put, sa_, sz_, ss_, i64_w, i32_w]; rfl)
                        refine done_ (done_of HT_.out (by kernel_rfl)) ?_
                        try go_wp2_with (first | ((with_reducible refine gate_builtin (b := .append) (xs := #[.tmp 67, .tmp 68]) rfl ?_); (try (refine gate_guard (by rfl) ?_; dsimp only)); at_builtin; refine Kd.R_append_rows (Kd.int .u8) (w0 := w) w.heap.size rfl (.tmp 67) (.tmp 68) 25 5 (.int .u8 0) 1 rfl Try.underlying25 info5 rfl (by decide) (by omega) u5 x5_1 t466 _ _ _ (fun k_ => some k_ ≠ (.slice Ao25 t466.length co25 : Value).ownBlock) (fun _ => False) rfl rfl ?aO ?aR (fun _ _ h => h) (fun _ h => h.elim) ?aF ?aB ?aS ?aL ?_; (case aR => repeat (first | exact (Kd.R_reads' HO468.out).2.2 | (with_reducible refine Kd.C_alloc ?_ _) | (with_reducible refine Kd.C_drewN ?_ _) | (with_reducible refine Kd.C_drew ?_))); (case aB => exact (by repeat (first | (with_reducible first | exact HB.out | apply pa_ | apply pd_ | apply p1_) | exact HB.out))); (case aF => exact (fun k_ hk => Kd.fresh' (Kd.R_lt (by (with_reducible repeat (first | apply Kd.R_alloc | apply Kd.R_drewN | apply Kd.R_drew)); exact HO468.out)) k_ hk)); (case aO => exact (by (with_reducible repeat (first | apply Kd.R_alloc | apply Kd.R_drewN | apply Kd.R_drew)); exact HO_5.out)); (case aS => exact (below_size (by repeat (first | (with_reducible first | exact HB.out | apply pa_ | apply pd_ | apply p1_) | exact HB.out)))); (case aL => have := LMc17.out; omega); intro v475 w27 ho hb hg hat; rw [← Ny474.out] at ho; have n0_ := ak_ (Kd.R_over' (by (with_reducible repeat (first | apply Kd.R_alloc | apply Kd.R_drewN | apply Kd.R_drew)); exact HO_6.out) (Kd.R_typed (by (with_reducible repeat (first | apply Kd.R_alloc | apply Kd.R_drewN | apply Kd.R_drew)); exact HO_5.out)) (by decide) hg); have n1_ := ak_ (Kd.R_over' (by (with_reducible repeat (first | apply Kd.R_alloc | apply Kd.R_drewN | apply Kd.R_drew)); exact HO_7.out) (Kd.R_typed (by (with_reducible repeat (first | apply Kd.R_alloc | apply Kd.R_drewN | apply Kd.R_drew)); exact HO_5.out)) (by decide) hg); have n2_ := ak_ (Kd.R_after (ok := (fun _ => True)) (by (with_reducible repeat (first | apply Kd.R_alloc | apply Kd.R_drewN | apply Kd.R_drew)); exact Kd.R_mono HO468.out (fun _ hk => ⟨trivial, hk⟩)) hg hat); have n3_ := ak_ (hb); have n4_ := ak_ (ho); clear HO_6; clear HO_7; clear HO468; clear HB; clear HO_5; have HO_6 := n0_; have HO_7 := n1_; have HO468 := n2_; have HB := n3_; have HO476 := n4_; clear n0_ n1_ n2_ n3_ n4_; clear ho hb hg hat; obtain ⟨Ao28, co28, eo28⟩ := Kd.R_slice HO476.out; subst eo28) | ((with_reducible refine gate_builtin (b := .append) (xs := #[.tmp 70, .tmp 73]) rfl ?_); (try (refine gate_guard (by rfl) ?_; dsimp only)); at_builtin; refine Kd.R_append (Kd.int .i64) (w0 := w) w.heap.size rfl (.tmp 70) (.tmp 73) 72 3 (.int .i64 0) 8 rfl Try.underlying72 info3 rfl (by decide) (by omega) u6 x6_1 (y474.length : Int) [.int .i64 (y474.length : Int)] (fun _ => True) (fun _ => False) rfl rfl ?aP (fun _ hk => hk.elim) ?aF ?aO ?aB ?aS ?aL ?_; (case aP => exact rfl); (case aB => exact (by repeat (first | (with_reducible first | exact HB.out | apply pa_ | apply pd_ | apply p1_) | exact HB.out))); (case aF => exact (fun _ _ => trivial)); (case aO => exact (by (with_reducible repeat (first | apply Kd.R_alloc | apply Kd.R_drewN | apply Kd.R_drew)); exact HO_6.out)); (case aS => exact (below_size (by repeat (first | (with_reducible first | exact HB.out | apply pa_ | apply pd_ | apply p1_) | exact HB.out)))); (case aL => have := LMc18.out; omega); intro v478 w29 ho hb hg hat; rw [← Ny477.out] at ho; have n0_ := ak_ (Kd.R_over' (by (with_reducible repeat (first | apply Kd.R_alloc | apply Kd.R_drewN | apply Kd.R_drew)); exact HO_7.out) (Kd.R_typed (by (with_reducible repeat (first | apply Kd.R_alloc | apply Kd.R_drewN | apply Kd.R_drew)); exact HO_6.out)) (by decide) hg); have n1_ := ak_ (Kd.R_over' (by (with_reducible repeat (first | apply Kd.R_alloc | apply Kd.R_drewN | apply Kd.R_drew)); exact HO468.out) (Kd.R_typed (by (with_reducible repeat (first | apply Kd.R_alloc | apply Kd.R_drewN | apply Kd.R_drew)); exact HO_6.out)) (by decide) hg); have n2_ := ak_ (Kd.R_over' (by (with_reducible repeat (first | apply Kd.R_alloc | apply Kd.R_drewN | apply Kd.R_drew)); exact HO476.out) (Kd.R_typed (by (with_reducible repeat (first | apply Kd.R_alloc | apply Kd.R_drewN | apply Kd.R_drew)); exact HO_6.out)) (by decide) hg); have n3_ := ak_ (hb); have n4_ := ak_ (ho); clear HO_7; clear HO468; clear HO476; clear HB; clear HO_6; have HO_7 := n0_; have HO468 := n1_; have HO476 := n2_; have HB := n3_; have HO479 := n4_; clear n0_ n1_ n2_ n3_ n4_; clear ho hb hg hat; have p480 : 0 ≤ (x8_1 : Int) := of_decide_eq_true (by assumption); have q480 : x8_1 < (l0.length : Int) := of_decide_eq_true (by assumption); obtain ⟨ad480, A480_0, c480_0, e480, hx480_0, hl480_0, hi480_0⟩ := at_L5 HR0.out x8_1 p480 q480; obtain rfl : ad464 = ad480 := (by injection e480); replace hx480_0 := (HB.out.cell (bl_ w _ hx480_0)).trans hx480_0; have HR480_0 := ak_ hi480_0; have HC480_0 := ak_ hl480_0; clear hi480_0 hl480_0; replace p480 := eq_true p480; replace q480 := eq_true q480; have hcv30 := Kd.C_string (P := Try.prog) (A := A480_0) (c := c480_0) Try.underlying25 Try.underlying5 Try.underlying9 (Kd.C_below HR480_0.out HB.out)) | ((with_reducible refine gate_builtin (b := .append) (xs := #[.tmp 75, .tmp 81]) rfl ?_); (try (refine gate_guard (by rfl) ?_; dsimp only)); at_builtin; refine Kd.R_append Kd.string (w0 := w) w.heap.size rfl (.tmp 75) (.tmp 81) 66 9 (.string ⟨#[]⟩) 16 rfl Try.underlying66 info9 rfl (by decide) (by omega) u7 x7_1 (strOfNums (rd_L5 l0 x8_1)) [.string (strOfNums (rd_L5 l0 x8_1))] (fun _ => True) (fun _ => False) rfl rfl ?aP (fun _ hk => hk.elim) ?aF ?aO ?aB ?aS ?aL ?_; (case aP => exact rfl); (case aB => exact (by repeat (first | (with_reducible first | exact HB.out | apply pa_ | apply pd_ | apply p1_) | exact HB.out))); (case aF => exact (fun _ _ => trivial)); (case aO => exact (by (with_reducible repeat (first | apply Kd.R_alloc | apply Kd.R_drewN | apply Kd.R_drew)); exact HO_7.out)); (case aS => exact (below_size (by repeat (first | (with_reducible first | exact HB.out | apply pa_ | apply pd_ | apply p1_) | exact HB.out)))); (case aL => have := LMc19.out; omega); intro v482 w31 ho hb hg hat; rw [← Ny481.out] at ho; have n0_ := ak_ (Kd.R_over' (by (with_reducible repeat (first | apply Kd.R_alloc | apply Kd.R_drewN | apply Kd.R_drew)); exact HO468.out) (Kd.R_typed (by (with_reducible repeat (first | apply Kd.R_alloc | apply Kd.R_drewN | apply Kd.R_drew)); exact HO_7.out)) (by decide) hg); have n1_ := ak_ (Kd.R_over' (by (with_reducible repeat (first | apply Kd.R_alloc | apply Kd.R_drewN | apply Kd.R_drew)); exact HO476.out) (Kd.R_typed (by (with_reducible repeat (first | apply Kd.R_alloc | apply Kd.R_drewN | apply Kd.R_drew)); exact HO_7.out)) (by decide) hg); have n2_ := ak_ (Kd.R_over' (by (with_reducible repeat (first | apply Kd.R_alloc | apply Kd.R_drewN | apply Kd.R_drew)); exact HO479.out) (Kd.R_typed (by (with_reducible repeat (first | apply Kd.R_alloc | apply Kd.R_drewN | apply Kd.R_drew)); exact HO_7.out)) (by decide) hg); have n3_ := ak_ (hb); have n4_ := ak_ (ho); clear HO468; clear HO476; clear HO479; clear HB; clear HO_7; have HO468 := n0_; have HO476 := n1_; have HO479 := n2_; have HB := n3_; have HO483 := n4_; clear n0_ n1_ n2_ n3_ n4_; clear ho hb hg hat))
                        go_roundg k1
                        case measure => have := HK1.out; omega
                        case rel => exact ⟨(y474), (y477), (y481), (wrap64 (x8_1 + 1)), (by first | rfl | (simp; done) | (simp [*]; done)), H', ⟨by have := HK1.out; omega⟩, ⟨by (with_reducible repeat (first | apply Kd.R_alloc | apply Kd.R_drewN | apply Kd.R_drew)); exact Kd.R_mono HO476.out (fun _ hk => trivial)⟩, ⟨by (with_reducible repeat (first | apply Kd.R_alloc | apply Kd.R_drewN | apply Kd.R_drew)); exact HO479.out⟩, ⟨by (with_reducible repeat (first | apply Kd.R_alloc | apply Kd.R_drewN | apply Kd.R_drew)); exact HO483.out⟩, ⟨by repeat (first | (with_reducible first | exact HB.out | apply pa_ | apply pd_ | apply p1_) | exact HB.out)⟩⟩
                      rw [if_neg c19] at H
                      exact absurd H (by simp)
                    rw [if_neg c18] at H
                    exact absurd H (by simp)
                  rw [if_neg c17] at H
                  exact absurd H (by simp)
                rw [if_neg c16] at H
                have c16b0 : ((t466.length : Int) == t473) = false := beq_eq_false_iff_ne.mpr c16
                have c16b1 : ((t466.length : Int) != t473) = true := bne_iff_ne.mpr c16
                exact absurd ((Option.some.inj H).trans HTR_.out) (by decide)
              rw [if_neg c14] at H
              have c14b0 : ((strOfNums t466).toList == t471.toList) = false := beq_eq_false_iff_ne.mpr c14
              have c14b1 : ((strOfNums t466).toList != t471.toList) = true := bne_iff_ne.mpr c14
              exact absurd ((Option.some.inj H).trans HTR_.out) (by decide)
            rw [if_neg c12] at H
            have c12b0 : (t469 == 0) = false := beq_eq_false_iff_ne.mpr c12
            have c12b1 : (t469 != 0) = true := bne_iff_ne.mpr c12
            exact absurd ((Option.some.inj H).trans HTR_.out) (by decide)
          rw [if_neg c9] at H
          exact absurd H (by simp)
        rw [if_neg c8] at H
        have c8b0 : decide (x8_1 < (l0.length : Int)) = false := decide_eq_false c8
        clear c8
        replace H := Option.bind_eq_some_iff.mp H
        obtain ⟨⟨t484, t485, t486⟩, A320, H⟩ := H
        replace H : ((usufructlaw06_same.f k1 t484 x7_1).bind fun t489 => (if t489 = true then (if t485 = (x5_1.length : Int) then (usufructlaw06_RecordBack.j1 k1 a1 x5_1 x6_1 x7_1 (t486 != 0)) else (usufructlaw06_RecordBack.j1 k1 a1 x5_1 x6_1 x7_1 true)) else (usufructlaw06_RecordBack.j1 k1 a1 x5_1 x6_1 x7_1 true))) = some r := H
        have A32 := ak_ A320
        clear A320
        have HC33 := ak_ H
        clear H
        obtain ⟨Ao34, co34, eo34⟩ := Kd.R_slice HO_5.out
        subst eo34
        go_upto_region 20 with (first | ((with_reducible refine gate_callee (f := 33) rfl ?_); refine goesL_ (some 85) rfl rfl Try.func33 (by kernel_rfl) rfl #[.slice Ao34 x5_1.length co34] rfl (by (try simp only [List.map_toArray, List.map_cons, List.map_nil]); first | done | rfl | (simp only [List.length_drop, List.length_take]; rfl)) ?_; (with_reducible refine (record_All.calls k1 _ _ x5_1 t484 t485 t486 _ ?side1 ?side2 A32.out).mono ?_); (case side1 => repeat (first | exact (Kd.R_reads' HO_5.out).2.2 | (with_reducible refine Kd.C_alloc ?_ _) | (with_reducible refine Kd.C_drewN ?_ _) | (with_reducible refine Kd.C_drew ?_))); (case side2 => exact (Kd.R_reads' HO_5.out).2.1); rintro e w35 ⟨v487, rfl, ho0, hb⟩; refine ⟨_, rfl, ?_⟩; have n0_ := ak_ (Kd.R_below (by (with_reducible repeat (first | apply Kd.R_alloc | apply Kd.R_drewN | apply Kd.R_drew)); exact HO_5.out) hb); have n1_ := ak_ (Kd.R_below (by (with_reducible repeat (first | apply Kd.R_alloc | apply Kd.R_drewN | apply Kd.R_drew)); exact HO_6.out) hb); have n2_ := ak_ (Kd.R_below (by (with_reducible repeat (first | apply Kd.R_alloc | apply Kd.R_drewN | apply Kd.R_drew)); exact HO_7.out) hb); have n3_ := ak_ (Kd.S_lower (Kd.S_new' ho0 (Kd.R_lt (by (with_reducible repeat (first | apply Kd.R_alloc | apply Kd.R_drewN | apply Kd.R_drew)); exact HO_5.out))) (below_size (by repeat (first | (with_reducible first | exact HB.out | apply pa_ | apply pd_ | apply p1_) | exact HB.out)))); have n4_ := ak_ (ps_ (by repeat (first | (with_reducible first | exact HB.out | apply pa_ | apply pd_ | apply p1_) | exact HB.out)) hb); clear HO_5; clear HO_6; clear HO_7; clear HB; have HO_5 := n0_; have HO_6 := n1_; have HO_7 := n2_; have HO488 := n3_; have HB := n4_; clear n0_ n1_ n2_ n3_ n4_; (try clear hb hk hi); (try clear ho0)))
        (try simp only [Act.put, sa_, sz_, ss_])
        go_cut [102] (fun v102 wc => ∃ (kq : Nat) (x102_32 : Bool), v102 = .bool x102_32 ∧ Aside0 (usufructlaw06_RecordBack.j1 kq a1 x5_1 x6_1 x7_1 x102_32 = some r) ∧ Aside0 (kq ≤ k1) ∧ Aside0 (Kd.R (Kd.int .u8) 5 wc w.heap.size (fun _ => True) (.slice Ao34 x5_1.length co34) x5_1) ∧ Aside0 (Kd.R (Kd.int .i64) 3 wc w.heap.size (fun _ => True) u6 x6_1) ∧ Aside0 (Kd.R Kd.string 9 wc w.heap.size (fun _ => True) u7 x7_1) ∧ Aside0 (Below w.heap.size w wc))
        case first =>
          have H := HC33.out
          clear HC33
          replace H := Option.bind_eq_some_iff.mp H
          obtain ⟨t489, A360, H⟩ := H
          replace H : (if t489 = true then (if t485 = (x5_1.length : Int) then (usufructlaw06_RecordBack.j1 k1 a1 x5_1 x6_1 x7_1 (t486 != 0)) else (usufructlaw06_RecordBack.j1 k1 a1 x5_1 x6_1 x7_1 true)) else (usufructlaw06_RecordBack.j1 k1 a1 x5_1 x6_1 x7_1 true)) = some r := H
          have A36 := ak_ A360
          clear A360
          by_cases c37 : t489 = true
          · subst c37
            have H1 : (if t485 = (x5_1.length : Int) then (usufructlaw06_RecordBack.j1 k1 a1 x5_1 x6_1 x7_1 (t486 != 0)) else (usufructlaw06_RecordBack.j1 k1 a1 x5_1 x6_1 x7_1 true)) = some r := by rw [if_pos rfl] at H; exact H
            clear H
            have H := H1
            clear H1
            by_cases c38 : t485 = (x5_1.length : Int)
            · rw [if_pos c38] at H
              have c38b0 : (t485 == (x5_1.length : Int)) = true := beq_iff_eq.mpr c38
              have c38b1 : (t485 != (x5_1.length : Int)) = false := bne_eq_false_iff_eq.mpr c38
              clear c38
              (first | rw [c38b0] | (simp only [i64_w, i32_w]; rw [c38b0]) | skip)
              have H' := ak_ H
              clear H
              obtain ⟨Ao39, co39, eo39⟩ := Kd.S_slice HO488.out
              subst eo39
              obtain ⟨Ao40, co40, eo40⟩ := Kd.R_slice HO_7.out
              subst eo40
              go_wp2_with (first | ((with_reducible refine gate_callee (f := 35) rfl ?_); refine goesL_ (some 91) rfl rfl Try.func35 (by kernel_rfl) rfl #[.slice Ao39 t484.length co39, .slice Ao40 x7_1.length co40] rfl (by (try simp only [List.map_toArray, List.map_cons, List.map_nil]); first | done | rfl | (simp only [List.length_drop, List.length_take]; rfl)) ?_; (with_reducible refine (usufructlaw06_same.calls k1 _ _ t484 _ _ x7_1 true _ ?side1 ?side2 ?side3 ?side4 A36.out).mono ?_); (case side1 => repeat (first | exact (Kd.S_reads' HO488.out).2.2 | (with_reducible refine Kd.C_alloc ?_ _) | (with_reducible refine Kd.C_drewN ?_ _) | (with_reducible refine Kd.C_drew ?_))); (case side2 => exact (Kd.S_reads' HO488.out).2.1); (case side3 => repeat (first | exact (Kd.R_reads' HO_7.out).2.2 | (with_reducible refine Kd.C_alloc ?_ _) | (with_reducible refine Kd.C_drewN ?_ _) | (with_reducible refine Kd.C_drew ?_))); (case side4 => exact (Kd.R_reads' HO_7.out).2.1); rintro e w' ⟨rfl, ⟨nd, rfl⟩⟩; refine ⟨_, rfl, ?_⟩))
              go_meet
              case rel => exact ⟨_, ((t486 != 0)), (by first | rfl | (simp; done) | (simp [*]; done)), H', ⟨by have := HK1.out; first | omega | exact Nat.le_refl _⟩, ⟨by (with_reducible repeat (first | apply Kd.R_alloc | apply Kd.R_drewN | apply Kd.R_drew)); exact HO_5.out⟩, ⟨by (with_reducible repeat (first | apply Kd.R_alloc | apply Kd.R_drewN | apply Kd.R_drew)); exact HO_6.out⟩, ⟨by (with_reducible repeat (first | apply Kd.R_alloc | apply Kd.R_drewN | apply Kd.R_drew)); exact HO_7.out⟩, ⟨by repeat (first | (with_reducible first | exact HB.out | apply pa_ | apply pd_ | apply p1_) | exact HB.out)⟩⟩
            rw [if_neg c38] at H
            have c38b0 : (t485 == (x5_1.length : Int)) = false := beq_eq_false_iff_ne.mpr c38
            have c38b1 : (t485 != (x5_1.length : Int)) = true := bne_iff_ne.mpr c38
            (first | rw [c38b0] | (simp only [i64_w, i32_w]; rw [c38b0]) | skip)
            exfalso
            revert H
            cases k1 <;> simp [usufructlaw06_RecordBack.j1, HTR_.out]
          replace c37 := Bool.eq_false_iff.mpr c37
          subst c37
          have H1 : (usufructlaw06_RecordBack.j1 k1 a1 x5_1 x6_1 x7_1 true) = some r := by rw [if_neg (show ¬ (false = true) by decide)] at H; exact H
          clear H
          have H := H1
          clear H1
          exfalso
          revert H
          cases k1 <;> simp [usufructlaw06_RecordBack.j1, HTR_.out]
        case rest =>
          clear HC33
          try clear c1
          try clear c2
          try clear p2
          try clear hcv2
          try clear c3
          try clear hcv3
          try clear c4
          try clear p4
          try clear q4
          try clear hx4
          try clear p6
          try clear c8
          try clear c8b0
          try clear c9
          try clear c10
          try clear c10b0
          try clear c10b1
          try clear c12
          try clear c12b0
          try clear c12b1
          try clear c14
          try clear c14b0
          try clear c14b1
          try clear c16
          try clear c16b0
          try clear c16b1
          try clear c17
          try clear c18
          try clear c19
          try clear hcv22
          try clear hcv23
          try clear hcv24
          try clear c29
          try clear c30
          try clear hcv30
          try clear c33
          try clear c35
          try clear c36
          try clear c37
          try clear c38
          try clear c38b0
          try clear c38b1
          try clear hx464_0
          try clear hx465_0
          try clear hx470_0
          try clear hx472_0
          try clear hx480_0
          try clear p464
          try clear p465
          try clear p470
          try clear p472
          try clear p480
          try clear q464
          try clear q465
          try clear q470
          try clear q472
          try clear q480
          obtain ⟨kq, x102_32, rfl, HA, HJ32, HO_5, HO_6, HO_7, HB⟩ := hcut
          cases kq with
          | zero => exact absurd HA.out (by simp [usufructlaw06_RecordBack.j1])
          | succ kj32 =>
            have H := HA.out
            clear HA
            simp only [usufructlaw06_RecordBack.j1] at H
            by_cases c41 : x102_32 = true
            · subst c41
              have H1 : (some false) = some r := by rw [if_pos rfl] at H; exact H
              clear H
              have H := H1
              clear H1
              exact absurd ((Option.some.inj H).trans HTR_.out) (by decide)
            replace c41 := Bool.eq_false_iff.mpr c41
            subst c41
            have H1 : (if (wrap64 ((x5_1.length : Int) + 1)) = 0 then (none) else (usufructlaw06_RecordBack.l1 kj32 x5_1 x6_1 x7_1 (Int.tmod (wrap64 (a1)) (wrap64 ((x5_1.length : Int) + 1))) 0 0 0)) = some r := by rw [if_neg (show ¬ (false = true) by decide)] at H; exact H
            clear H
            have H := H1
            clear H1
            by_cases c42 : (wrap64 ((x5_1.length : Int) + 1)) = 0
            · rw [if_pos c42] at H
              exact absurd H (by simp)
            rw [if_neg c42] at H
            have c42b0 : ((wrap64 ((x5_1.length : Int) + 1)) == 0) = false := beq_eq_false_iff_ne.mpr c42
            have c42b1 : ((wrap64 ((x5_1.length : Int) + 1)) != 0) = true := bne_iff_ne.mpr c42
            have H' := ak_ H
            clear H
            go_wp2
            go_loopg [15, 16, 17] kj32 (fun kq v15 v16 v17 w' => ∃ (x15_3 : Int) (x16_3 : Int) (x17_3 : Int), v15 = .int .i64 x15_3 ∧ v16 = .int .i64 x16_3 ∧ v17 = .int .i64 x17_3 ∧ Aside0 (usufructlaw06_RecordBack.l1 kq x5_1 x6_1 x7_1 (Int.tmod (wrap64 (a1)) (wrap64 ((x5_1.length : Int) + 1))) x15_3 x16_3 x17_3 = some r) ∧ Aside0 (kq ≤ kj32) ∧ Aside0 (Kd.R (Kd.int .u8) 5 w' w.heap.size (fun _ => True) (.slice Ao34 x5_1.length co34) x5_1) ∧ Aside0 (Kd.R (Kd.int .i64) 3 w' w.heap.size (fun _ => True) u6 x6_1) ∧ Aside0 (Kd.R Kd.string 9 w' w.heap.size (fun _ => True) u7 x7_1) ∧ Aside0 (Below w.heap.size w w'))
            case atStart => exact ⟨(0), (0), (0), (by first | rfl | (simp; done) | (simp [*]; done)), (by first | rfl | (simp; done) | (simp [*]; done)), (by first | rfl | (simp; done) | (simp [*]; done)), H', ⟨Nat.le_refl _⟩, ⟨by (with_reducible repeat (first | apply Kd.R_alloc | apply Kd.R_drewN | apply Kd.R_drew)); exact HO_5.out⟩, ⟨by (with_reducible repeat (first | apply Kd.R_alloc | apply Kd.R_drewN | apply Kd.R_drew)); exact HO_6.out⟩, ⟨by (with_reducible repeat (first | apply Kd.R_alloc | apply Kd.R_drewN | apply Kd.R_drew)); exact HO_7.out⟩, ⟨by repeat (first | (with_reducible first | exact HB.out | apply pa_ | apply pd_ | apply p1_) | exact HB.out)⟩⟩
            case round =>
              clear H'
              try clear c1
              try clear c2
              try clear p2
              try clear hcv2
              try clear c3
              try clear hcv3
              try clear c4
              try clear p4
              try clear q4
              try clear hx4
              try clear p6
              try clear c8
              try clear c8b0
              try clear c9
              try clear c10
              try clear c10b0
              try clear c10b1
              try clear c12
              try clear c12b0
              try clear c12b1
              try clear c14
              try clear c14b0
              try clear c14b1
              try clear c16
              try clear c16b0
              try clear c16b1
              try clear c17
              try clear c18
              try clear c19
              try clear hcv22
              try clear hcv23
              try clear hcv24
              try clear c29
              try clear c30
              try clear hcv30
              try clear c33
              try clear c35
              try clear c36
              try clear c37
              try clear c38
              try clear c38b0
              try clear c38b1
              try clear c41
              try clear c42
              try clear c42b0
              try clear c42b1
              try clear hx464_0
              try clear hx465_0
              try clear hx470_0
              try clear hx472_0
              try clear hx480_0
              try clear p2
              try clear p4
              try clear p464
              try clear p465
              try clear p470
              try clear p472
              try clear p480
              try clear p6
              try clear q4
              try clear q464
              try clear q465
              try clear q470
              try clear q472
              try clear q480
              obtain ⟨x15_3, x16_3, x17_3, rfl, rfl, rfl, HA, HK3, HO_5, HO_6, HO_7, HB⟩ := hrel
              cases gk with
              | zero => exact absurd HA.out (by simp [usufructlaw06_RecordBack.l1])
              | succ k3 =>
                have H := HA.out
                clear HA
                simp only [usufructlaw06_RecordBack.l1] at H
                by_cases c43 : x17_3 < (x6_1.length : Int)
                · rw [if_pos c43] at H
                  have c43b0 : decide (x17_3 < (x6_1.length : Int)) = true := decide_eq_true c43
                  clear c43
                  by_cases c44 : 0 ≤ x17_3
                  · rw [if_pos c44] at H
                    have c44b0 : decide (0 ≤ x17_3) = true := decide_eq_true c44
                    clear c44
                    by_cases c45 : (rd x6_1 x17_3) ≤ (Int.tmod (wrap64 (a1)) (wrap64 ((x5_1.length : Int) + 1)))
                    · rw [if_pos c45] at H
                      have c45b0 : decide ((rd x6_1 x17_3) ≤ (Int.tmod (wrap64 (a1)) (wrap64 ((x5_1.length : Int) + 1)))) = true := decide_eq_true c45
                      clear c45
                      have H' := ak_ H
                      clear H
                      obtain ⟨Ao46, co46, eo46⟩ := Kd.R_slice HO_6.out
                      subst eo46
                      have p490 : 0 ≤ (x17_3 : Int) := of_decide_eq_true (by assumption)
                      have q490 : x17_3 < (x6_1.length : Int) := of_decide_eq_true (by assumption)
                      obtain ⟨ad490, e490, hx490_0⟩ := Kd.at_int (Kd.R_reads' HO_6.out).2.2 x17_3 p490 q490
                      cases e490
                      replace p490 := eq_true p490
                      replace q490 := eq_true q490
                      have p491 : 0 ≤ (x17_3 : Int) := of_decide_eq_true (by assumption)
                      have q491 : x17_3 < (x6_1.length : Int) := of_decide_eq_true (by assumption)
                      obtain ⟨ad491, e491, hx491_0⟩ := Kd.at_int (Kd.R_reads' HO_6.out).2.2 x17_3 p491 q491
                      obtain rfl : ad490 = ad491 := (by injection e491)
                      replace p491 := eq_true p491
                      replace q491 := eq_true q491
                      go_wp2
                      go_roundg k3
                      case measure => have := HK1.out; have := HJ32.out; have := HK3.out; omega
                      case rel => exact ⟨(wrap64 (x17_3 + 1)), (rd x6_1 x17_3), (wrap64 (x17_3 + 1)), (by first | rfl | (simp; done) | (simp [*]; done)), (by first | rfl | (simp; done) | (simp [*]; done)), (by first | rfl | (simp; done) | (simp [*]; done)), H', ⟨by have := HK1.out; have := HJ32.out; have := HK3.out; omega⟩, ⟨by (with_reducible repeat (first | apply Kd.R_alloc | apply Kd.R_drewN | apply Kd.R_drew)); exact HO_5.out⟩, ⟨by (with_reducible repeat (first | apply Kd.R_alloc | apply Kd.R_drewN | apply Kd.R_drew)); exact HO_6.out⟩, ⟨by (with_reducible repeat (first | apply Kd.R_alloc | apply Kd.R_drewN | apply Kd.R_drew)); exact HO_7.out⟩, ⟨by repeat (first | (with_reducible first | exact HB.out | apply pa_ | apply pd_ | apply p1_) | exact HB.out)⟩⟩
                    rw [if_neg c45] at H
                    have c45b0 : decide ((rd x6_1 x17_3) ≤ (Int.tmod (wrap64 (a1)) (wrap64 ((x5_1.length : Int) + 1)))) = false := decide_eq_false c45
                    clear c45
                    obtain ⟨ji47, hji47⟩ : ∃ j_ : Int, (Int.tmod (wrap64 (a1)) (wrap64 ((x5_1.length : Int) + 1))) = j_ := ⟨_, rfl⟩
                    replace H : (if 0 ≤ (ji47) then (if (ji47) ≤ (x5_1.length : Int) then ((record_All.f k3 (x5_1.take ((ji47) : Int).toNat)).bind fun bt496 => (if 0 ≤ x15_3 then (if x15_3 ≤ (x7_1.length : Int) then ((usufructlaw06_same.f k3 bt496.1 (x7_1.take (x15_3 : Int).toNat)).bind fun t505 => (if t505 = true then (if bt496.2.1 = x16_3 then (if ((bt496.2.2 == 0) == (x16_3 == (ji47))) = true then (if bt496.2.2 = 0 then (some true) else (some (bt496.2.2 == 2))) else (some false)) else (some false)) else (some false))) else (none)) else (none))) else (none)) else (none)) = some r := by first | (rw [hji47] at H; exact H) | (simp only [hji47] at H ⊢; exact H)
                    (try rw [hji47] at c45b0)
                    by_cases c48 : 0 ≤ (ji47)
                    · rw [if_pos c48] at H
                      have c48b0 := eq_true c48
                      have c48b1 : decide (0 ≤ (ji47)) = true := decide_eq_true c48
                      clear c48
                      by_cases c49 : (ji47) ≤ (x5_1.length : Int)
                      · rw [if_pos c49] at H
                        have c49b0 := eq_true c49
                        have c49b1 : decide ((ji47) ≤ (x5_1.length : Int)) = true := decide_eq_true c49
                        clear c49
                        obtain ⟨y492, hy492⟩ : ∃ y_ : List Int, y_ = (x5_1.take ((ji47) : Int).toNat) := ⟨_, rfl⟩
                        replace H : ((record_All.f k3 y492).bind fun bt496 => (if 0 ≤ x15_3 then (if x15_3 ≤ (x7_1.length : Int) then ((usufructlaw06_same.f k3 bt496.1 (x7_1.take (x15_3 : Int).toNat)).bind fun t505 => (if t505 = true then (if bt496.2.1 = x16_3 then (if ((bt496.2.2 == 0) == (x16_3 == (ji47))) = true then (if bt496.2.2 = 0 then (some true) else (some (bt496.2.2 == 2))) else (some false)) else (some false)) else (some false))) else (none)) else (none))) = some r := by first | (rw [hy492]; with_reducible exact H) | (have H2_ := (Option.bind_some _ _).symm.trans H; rw [hy492]; with_reducible exact H2_) | (have H2_ := (Option.bind_some _ _).symm.trans H; with_reducible exact H2_) | with_reducible exact H | (rw [hy492]; exact H) | exact H
                        have Ny492 := ak_ hy492
                        clear hy492
                        replace H := Option.bind_eq_some_iff.mp H
                        obtain ⟨⟨t496, t497, t498⟩, A500, H⟩ := H
                        replace H : (if 0 ≤ x15_3 then (if x15_3 ≤ (x7_1.length : Int) then ((usufructlaw06_same.f k3 t496 (x7_1.take (x15_3 : Int).toNat)).bind fun t505 => (if t505 = true then (if t497 = x16_3 then (if ((t498 == 0) == (x16_3 == (ji47))) = true then (if t498 = 0 then (some true) else (some (t498 == 2))) else (some false)) else (some false)) else (some false))) else (none)) else (none)) = some r := H
                        have A50 := ak_ A500
                        clear A500
                        by_cases c51 : 0 ≤ x15_3
                        · rw [if_pos c51] at H
                          have c51b0 := eq_true c51
                          have c51b1 : decide (0 ≤ x15_3) = true := decide_eq_true c51
                          clear c51
                          by_cases c52 : x15_3 ≤ (x7_1.length : Int)
                          · rw [if_pos c52] at H
                            have c52b0 := eq_true c52
                            have c52b1 : decide (x15_3 ≤ (x7_1.length : Int)) = true := decide_eq_true c52
                            clear c52
                            obtain ⟨y501, hy501⟩ : ∃ y_ : List ByteArray, y_ = (x7_1.take (x15_3 : Int).toNat) := ⟨_, rfl⟩
                            replace H : ((usufructlaw06_same.f k3 t496 y501).bind fun t505 => (if t505 = true then (if t497 = x16_3 then (if ((t498 == 0) == (x16_3 == (ji47))) = true then (if t498 = 0 then (some true) else (some (t498 == 2))) else (some false)) else (some false)) else (some false))) = some r := by first | (rw [hy501]; with_reducible exact H) | (have H2_ := (Option.bind_some _ _).symm.trans H; rw [hy501]; with_reducible exact H2_) | (have H2_ := (Option.bind_some _ _).symm.trans H; with_reducible exact H2_) | with_reducible exact H | (rw [hy501]; exact H) | exact H
                            have Ny501 := ak_ hy501
                            clear hy501
                            replace H := Option.bind_eq_some_iff.mp H
                            obtain ⟨t505, A530, H⟩ := H
                            replace H : (if t505 = true then (if t497 = x16_3 then (if ((t498 == 0) == (x16_3 == (ji47))) = true then (if t498 = 0 then (some true) else (some (t498 == 2))) else (some false)) else (some false)) else (some false)) = some r := H
                            have A53 := ak_ A530
                            clear A530
                            by_cases c54 : t505 = true
                            · subst c54
                              have H1 : (if t497 = x16_3 then (if ((t498 == 0) == (x16_3 == (ji47))) = true then (if t498 = 0 then (some true) else (some (t498 == 2))) else (some false)) else (some false)) = some r := by rw [if_pos rfl] at H; exact H
                              clear H
                              have H := H1
                              clear H1
                              by_cases c55 : t497 = x16_3
                              · rw [if_pos c55] at H
                                have c55b0 : (t497 == x16_3) = true := beq_iff_eq.mpr c55
                                have c55b1 : (t497 != x16_3) = false := bne_eq_false_iff_eq.mpr c55
                                clear c55
                                by_cases c56 : ((t498 == 0) == (x16_3 == (ji47))) = true
                                · rw [if_pos c56] at H
                                  have c56b0 : ((t498 == 0) == (x16_3 == (ji47))) = true := c56
                                  (try (have c56b1 : decide ((t498 == 0) = (x16_3 == (ji47))) = true := by simpa using c56))
                                  (try (have c56b2 : ((t498 == 0) == (x16_3 == (ji47))) = true := by simpa using c56))
                                  clear c56
                                  by_cases c57 : t498 = 0
                                  · rw [if_pos c57] at H
                                    have c57b0 : (t498 == 0) = true := beq_iff_eq.mpr c57
                                    have c57b1 : (t498 != 0) = false := bne_eq_false_iff_eq.mpr c57
                                    have c57z0 : (x16_3 == (ji47)) = true := by have h_ := c56b0; rw [c57b0] at h_; simpa using h_
                                    have c57z1 : (x16_3 != (ji47)) = false := by simp only [bne, c57z0, Bool.not_true, Bool.not_false]
                                    have c57z2 : decide (x16_3 = (ji47)) = true := by simpa using c57z0
                                    clear c57
                                    obtain rfl := Option.some.inj H
                                    obtain ⟨Ao58, co58, eo58⟩ := Kd.R_slice HO_6.out
                                    subst eo58
                                    have p490 : 0 ≤ (x17_3 : Int) := of_decide_eq_true (by assumption)
                                    have q490 : x17_3 < (x6_1.length : Int) := of_decide_eq_true (by assumption)
                                    obtain ⟨ad490, e490, hx490_0⟩ := Kd.at_int (Kd.R_reads' HO_6.out).2.2 x17_3 p490 q490
                                    cases e490
                                    replace p490 := eq_true p490
                                    replace q490 := eq_true q490
                                    have q59 : ((ji47) : Int) ≤ ((x5_1.length : Int) : Int) := of_decide_eq_true (by assumption)
                                    obtain ⟨i059, hi059, _, hsz59, _⟩ := info_parts info5
                                    have hroom59 : x5_1.length ≤ co34 := (Kd.R_reads' HO_5.out).2.1
                                    have hC59 : Kd.C (Kd.int .u8) _ Ao34 x5_1.length x5_1 := (Kd.R_reads' HO_5.out).2.2
                                    have hcut59 := cut_to (P := Try.prog) 25 5 .i64 Try.underlying25 hi059 Ao34 x5_1.length co34 (ji47) (of_decide_eq_true (by assumption)) q59 hroom59
                                    have hr59 := Kd.C_take (m := ((ji47) : Int).toNat) hC59 (by omega)
                                    have hy59 : y492.length = ((ji47) : Int).toNat := (by rw [Ny492.out, List.length_take]; omega)
                                    rw [← Ny492.out] at hr59
                                    rw [← hy59] at hcut59
                                    have HR495 := ak_ hr59
                                    have HC495 := ak_ (show y492.length ≤ co34 from by omega)
                                    clear hr59 hC59 hroom59 hi059 hsz59
                                    have KY59 := ak_ hy59
                                    clear hy59
                                    have KL59 := ak_ (show ((ji47) : Int).toNat ≤ x5_1.length from by omega)
                                    replace q59 := eq_true q59
                                    go_wp2_with (first | ((with_reducible refine gate_callee (f := 33) rfl ?_); refine goesL_ (some 133) rfl rfl Try.func33 (by kernel_rfl) rfl #[.slice Ao34 y492.length co34] rfl (by (try simp only [List.map_toArray, List.map_cons, List.map_nil]); first | done | rfl | (simp only [List.length_drop, List.length_take]; rfl)) ?_; (with_reducible refine (record_All.calls k3 _ _ y492 t496 t497 t498 _ ?side1 ?side2 A50.out).mono ?_); (case side1 => repeat (first | exact (by repeat (first | (with_reducible exact HR495.out) | (with_reducible refine Kd.C_alloc ?_ _) | (with_reducible refine Kd.C_drewN ?_ _) | (with_reducible refine Kd.C_drew ?_) | exact HR495.out)) | (with_reducible refine Kd.C_alloc ?_ _) | (with_reducible refine Kd.C_drewN ?_ _) | (with_reducible refine Kd.C_drew ?_))); (case side2 => exact HC495.out); rintro e w60 ⟨v499, rfl, ho0, hb⟩; refine ⟨_, rfl, ?_⟩; have n0_ := ak_ (Kd.R_below (by (with_reducible repeat (first | apply Kd.R_alloc | apply Kd.R_drewN | apply Kd.R_drew)); exact HO_5.out) hb); have n1_ := ak_ (Kd.R_below (by (with_reducible repeat (first | apply Kd.R_alloc | apply Kd.R_drewN | apply Kd.R_drew)); exact HO_6.out) hb); have n2_ := ak_ (Kd.R_below (by (with_reducible repeat (first | apply Kd.R_alloc | apply Kd.R_drewN | apply Kd.R_drew)); exact HO_7.out) hb); have n3_ := ak_ (Kd.S_lower (Kd.S_new' ho0 (Kd.R_lt (by (with_reducible repeat (first | apply Kd.R_alloc | apply Kd.R_drewN | apply Kd.R_drew)); exact HO_5.out))) (below_size (by repeat (first | (with_reducible first | exact HB.out | apply pa_ | apply pd_ | apply p1_) | exact HB.out)))); have n4_ := ak_ (Kd.C_below (by repeat (first | (with_reducible exact HR495.out) | (with_reducible refine Kd.C_alloc ?_ _) | (with_reducible refine Kd.C_drewN ?_ _) | (with_reducible refine Kd.C_drew ?_) | exact HR495.out)) hb); have n5_ := ak_ (ps_ (by repeat (first | (with_reducible first | exact HB.out | apply pa_ | apply pd_ | apply p1_) | exact HB.out)) hb); clear HO_5; clear HO_6; clear HO_7; clear HR495; clear HB; have HO_5 := n0_; have HO_6 := n1_; have HO_7 := n2_; have HO500 := n3_; have HR495 := n4_; have HB := n5_; clear n0_ n1_ n2_ n3_ n4_ n5_; (try clear hb hk hi); (try clear ho0); obtain ⟨Ao62, co62, eo62⟩ := Kd.R_slice HO_7.out; subst eo62; have q61 : (x15_3 : Int) ≤ ((x7_1.length : Int) : Int) := of_decide_eq_true (by assumption); obtain ⟨i061, hi061, _, hsz61, _⟩ := info_parts info9; have hroom61 : x7_1.length ≤ co62 := (Kd.R_reads' HO_7.out).2.1; have hC61 : Kd.C Kd.string _ Ao62 x7_1.length x7_1 := (Kd.R_reads' HO_7.out).2.2; have hcut61 := cut_to (P := Try.prog) 66 9 .i64 Try.underlying66 hi061 Ao62 x7_1.length co62 x15_3 (of_decide_eq_true (by assumption)) q61 hroom61; have hr61 := Kd.C_take (m := (x15_3 : Int).toNat) hC61 (by omega); have hy61 : y501.length = (x15_3 : Int).toNat := (by rw [Ny501.out, List.length_take]; omega); rw [← Ny501.out] at hr61; rw [← hy61] at hcut61; have HR504 := ak_ hr61; have HC504 := ak_ (show y501.length ≤ co62 from by omega); clear hr61 hC61 hroom61 hi061 hsz61; have KY61 := ak_ hy61; clear hy61; have KL61 := ak_ (show (x15_3 : Int).toNat ≤ x7_1.length from by omega); replace q61 := eq_true q61; obtain ⟨Ao63, co63, eo63⟩ := Kd.S_slice HO500.out; subst eo63) | ((with_reducible refine gate_callee (f := 35) rfl ?_); refine goesL_ (some 141) rfl rfl Try.func35 (by kernel_rfl) rfl #[.slice Ao63 t496.length co63, .slice Ao62 y501.length co62] rfl (by (try simp only [List.map_toArray, List.map_cons, List.map_nil]); first | done | rfl | (simp only [List.length_drop, List.length_take]; rfl)) ?_; (with_reducible refine (usufructlaw06_same.calls k3 _ _ t496 _ _ y501 true _ ?side1 ?side2 ?side3 ?side4 A53.out).mono ?_); (case side1 => repeat (first | exact (Kd.S_reads' HO500.out).2.2 | (with_reducible refine Kd.C_alloc ?_ _) | (with_reducible refine Kd.C_drewN ?_ _) | (with_reducible refine Kd.C_drew ?_))); (case side2 => exact (Kd.S_reads' HO500.out).2.1); (case side3 => repeat (first | exact (by repeat (first | (with_reducible exact HR504.out) | (with_reducible refine Kd.C_alloc ?_ _) | (with_reducible refine Kd.C_drewN ?_ _) | (with_reducible refine Kd.C_drew ?_) | exact HR504.out)) | (with_reducible refine Kd.C_alloc ?_ _) | (with_reducible refine Kd.C_drewN ?_ _) | (with_reducible refine Kd.C_drew ?_))); (case side4 => exact HC504.out); rintro e w' ⟨rfl, ⟨nd, rfl⟩⟩; refine ⟨_, rfl, ?_⟩))
                                    go_ret
                                    exact ⟨by first | rfl | (simp [errW_none, errW_some] <;> rfl) | (simp only [← hji47]; first | rfl | (simp [errW_none, errW_some] <;> rfl)) | (simp [*, errW_none, errW_some] <;> rfl), by repeat (first | (with_reducible first | exact HB.out | apply pa_ | apply pd_ | apply p1_) | exact HB.out)⟩
                                  rw [if_neg c57] at H
                                  have c57b0 : (t498 == 0) = false := beq_eq_false_iff_ne.mpr c57
                                  have c57b1 : (t498 != 0) = true := bne_iff_ne.mpr c57
                                  have c57z0 : (x16_3 == (ji47)) = false := by have h_ := c56b0; rw [c57b0] at h_; simpa using h_
                                  have c57z1 : (x16_3 != (ji47)) = true := by simp only [bne, c57z0, Bool.not_true, Bool.not_false]
                                  have c57z2 : decide (x16_3 = (ji47)) = false := by simpa using c57z0
                                  obtain rfl := Option.some.inj H
                                  obtain ⟨Ao64, co64, eo64⟩ := Kd.R_slice HO_6.out
                                  subst eo64
                                  have p490 : 0 ≤ (x17_3 : Int) := of_decide_eq_true (by assumption)
                                  have q490 : x17_3 < (x6_1.length : Int) := of_decide_eq_true (by assumption)
                                  obtain ⟨ad490, e490, hx490_0⟩ := Kd.at_int (Kd.R_reads' HO_6.out).2.2 x17_3 p490 q490
                                  cases e490
                                  replace p490 := eq_true p490
                                  replace q490 := eq_true q490
                                  have q65 : ((ji47) : Int) ≤ ((x5_1.length : Int) : Int) := of_decide_eq_true (by assumption)
                                  obtain ⟨i065, hi065, _, hsz65, _⟩ := info_parts info5
                                  have hroom65 : x5_1.length ≤ co34 := (Kd.R_reads' HO_5.out).2.1
                                  have hC65 : Kd.C (Kd.int .u8) _ Ao34 x5_1.length x5_1 := (Kd.R_reads' HO_5.out).2.2
                                  have hcut65 := cut_to (P := Try.prog) 25 5 .i64 Try.underlying25 hi065 Ao34 x5_1.length co34 (ji47) (of_decide_eq_true (by assumption)) q65 hroom65
                                  have hr65 := Kd.C_take (m := ((ji47) : Int).toNat) hC65 (by omega)
                                  have hy65 : y492.length = ((ji47) : Int).toNat := (by rw [Ny492.out, List.length_take]; omega)
                                  rw [← Ny492.out] at hr65
                                  rw [← hy65] at hcut65
                                  have HR495 := ak_ hr65
                                  have HC495 := ak_ (show y492.length ≤ co34 from by omega)
                                  clear hr65 hC65 hroom65 hi065 hsz65
                                  have KY65 := ak_ hy65
                                  clear hy65
                                  have KL65 := ak_ (show ((ji47) : Int).toNat ≤ x5_1.length from by omega)
                                  replace q65 := eq_true q65
                                  go_wp2_with (first | ((with_reducible refine gate_callee (f := 33) rfl ?_); refine goesL_ (some 133) rfl rfl Try.func33 (by kernel_rfl) rfl #[.slice Ao34 y492.length co34] rfl (by (try simp only [List.map_toArray, List.map_cons, List.map_nil]); first | done | rfl | (simp only [List.length_drop, List.length_take]; rfl)) ?_; (with_reducible refine (record_All.calls k3 _ _ y492 t496 t497 t498 _ ?side1 ?side2 A50.out).mono ?_); (case side1 => repeat (first | exact (by repeat (first | (with_reducible exact HR495.out) | (with_reducible refine Kd.C_alloc ?_ _) | (with_reducible refine Kd.C_drewN ?_ _) | (with_reducible refine Kd.C_drew ?_) | exact HR495.out)) | (with_reducible refine Kd.C_alloc ?_ _) | (with_reducible refine Kd.C_drewN ?_ _) | (with_reducible refine Kd.C_drew ?_))); (case side2 => exact HC495.out); rintro e w66 ⟨v499, rfl, ho0, hb⟩; refine ⟨_, rfl, ?_⟩; have n0_ := ak_ (Kd.R_below (by (with_reducible repeat (first | apply Kd.R_alloc | apply Kd.R_drewN | apply Kd.R_drew)); exact HO_5.out) hb); have n1_ := ak_ (Kd.R_below (by (with_reducible repeat (first | apply Kd.R_alloc | apply Kd.R_drewN | apply Kd.R_drew)); exact HO_6.out) hb); have n2_ := ak_ (Kd.R_below (by (with_reducible repeat (first | apply Kd.R_alloc | apply Kd.R_drewN | apply Kd.R_drew)); exact HO_7.out) hb); have n3_ := ak_ (Kd.S_lower (Kd.S_new' ho0 (Kd.R_lt (by (with_reducible repeat (first | apply Kd.R_alloc | apply Kd.R_drewN | apply Kd.R_drew)); exact HO_5.out))) (below_size (by repeat (first | (with_reducible first | exact HB.out | apply pa_ | apply pd_ | apply p1_) | exact HB.out)))); have n4_ := ak_ (Kd.C_below (by repeat (first | (with_reducible exact HR495.out) | (with_reducible refine Kd.C_alloc ?_ _) | (with_reducible refine Kd.C_drewN ?_ _) | (with_reducible refine Kd.C_drew ?_) | exact HR495.out)) hb); have n5_ := ak_ (ps_ (by repeat (first | (with_reducible first | exact HB.out | apply pa_ | apply pd_ | apply p1_) | exact HB.out)) hb); clear HO_5; clear HO_6; clear HO_7; clear HR495; clear HB; have HO_5 := n0_; have HO_6 := n1_; have HO_7 := n2_; have HO500 := n3_; have HR495 := n4_; have HB := n5_; clear n0_ n1_ n2_ n3_ n4_ n5_; (try clear hb hk hi); (try clear ho0); obtain ⟨Ao68, co68, eo68⟩ := Kd.R_slice HO_7.out; subst eo68; have q67 : (x15_3 : Int) ≤ ((x7_1.length : Int) : Int) := of_decide_eq_true (by assumption); obtain ⟨i067, hi067, _, hsz67, _⟩ := info_parts info9; have hroom67 : x7_1.length ≤ co68 := (Kd.R_reads' HO_7.out).2.1; have hC67 : Kd.C Kd.string _ Ao68 x7_1.length x7_1 := (Kd.R_reads' HO_7.out).2.2; have hcut67 := cut_to (P := Try.prog) 66 9 .i64 Try.underlying66 hi067 Ao68 x7_1.length co68 x15_3 (of_decide_eq_true (by assumption)) q67 hroom67; have hr67 := Kd.C_take (m := (x15_3 : Int).toNat) hC67 (by omega); have hy67 : y501.length = (x15_3 : Int).toNat := (by rw [Ny501.out, List.length_take]; omega); rw [← Ny501.out] at hr67; rw [← hy67] at hcut67; have HR504 := ak_ hr67; have HC504 := ak_ (show y501.length ≤ co68 from by omega); clear hr67 hC67 hroom67 hi067 hsz67; have KY67 := ak_ hy67; clear hy67; have KL67 := ak_ (show (x15_3 : Int).toNat ≤ x7_1.length from by omega); replace q67 := eq_true q67; obtain ⟨Ao69, co69, eo69⟩ := Kd.S_slice HO500.out; subst eo69) | ((with_reducible refine gate_callee (f := 35) rfl ?_); refine goesL_ (some 141) rfl rfl Try.func35 (by kernel_rfl) rfl #[.slice Ao69 t496.length co69, .slice Ao68 y501.length co68] rfl (by (try simp only [List.map_toArray, List.map_cons, List.map_nil]); first | done | rfl | (simp only [List.length_drop, List.length_take]; rfl)) ?_; (with_reducible refine (usufructlaw06_same.calls k3 _ _ t496 _ _ y501 true _ ?side1 ?side2 ?side3 ?side4 A53.out).mono ?_); (case side1 => repeat (first | exact (Kd.S_reads' HO500.out).2.2 | (with_reducible refine Kd.C_alloc ?_ _) | (with_reducible refine Kd.C_drewN ?_ _) | (with_reducible refine Kd.C_drew ?_))); (case side2 => exact (Kd.S_reads' HO500.out).2.1); (case side3 => repeat (first | exact (by repeat (first | (with_reducible exact HR504.out) | (with_reducible refine Kd.C_alloc ?_ _) | (with_reducible refine Kd.C_drewN ?_ _) | (with_reducible refine Kd.C_drew ?_) | exact HR504.out)) | (with_reducible refine Kd.C_alloc ?_ _) | (with_reducible refine Kd.C_drewN ?_ _) | (with_reducible refine Kd.C_drew ?_))); (case side4 => exact HC504.out); rintro e w' ⟨rfl, ⟨nd, rfl⟩⟩; refine ⟨_, rfl, ?_⟩))
                                  go_ret
                                  exact ⟨by first | rfl | (simp [errW_none, errW_some] <;> rfl) | (simp only [← hji47]; first | rfl | (simp [errW_none, errW_some] <;> rfl)) | (simp [*, errW_none, errW_some] <;> rfl), by repeat (first | (with_reducible first | exact HB.out | apply pa_ | apply pd_ | apply p1_) | exact HB.out)⟩
                                rw [if_neg c56] at H
                                have c56b0 : ((t498 == 0) == (x16_3 == (ji47))) = false := by simpa using c56
                                (try (have c56b1 : decide ((t498 == 0) = (x16_3 == (ji47))) = false := by simpa using c56))
                                (try (have c56b2 : ((t498 == 0) == (x16_3 == (ji47))) = false := by simpa using c56))
                                (try (have c56b3 : ¬ ((t498 == 0) = (x16_3 == (ji47))) := by simpa using c56))
                                clear c56
                                exact absurd ((Option.some.inj H).trans HTR_.out) (by decide)
                              rw [if_neg c55] at H
                              have c55b0 : (t497 == x16_3) = false := beq_eq_false_iff_ne.mpr c55
                              have c55b1 : (t497 != x16_3) = true := bne_iff_ne.mpr c55
                              exact absurd ((Option.some.inj H).trans HTR_.out) (by decide)
                            replace c54 := Bool.eq_false_iff.mpr c54
                            subst c54
                            have H1 : (some false) = some r := by rw [if_neg (show ¬ (false = true) by decide)] at H; exact H
                            clear H
                            have H := H1
                            clear H1
                            exact absurd ((Option.some.inj H).trans HTR_.out) (by decide)
                          rw [if_neg c52] at H
                          exact absurd H (by simp)
                        rw [if_neg c51] at H
                        exact absurd H (by simp)
                      rw [if_neg c49] at H
                      exact absurd H (by simp)
                    rw [if_neg c48] at H
                    exact absurd H (by simp)
                  rw [if_neg c44] at H
                  exact absurd H (by simp)
                rw [if_neg c43] at H
                have c43b0 : decide (x17_3 < (x6_1.length : Int)) = false := decide_eq_false c43
                clear c43
                obtain ⟨ji70, hji70⟩ : ∃ j_ : Int, (Int.tmod (wrap64 (a1)) (wrap64 ((x5_1.length : Int) + 1))) = j_ := ⟨_, rfl⟩
                replace H : (if 0 ≤ (ji70) then (if (ji70) ≤ (x5_1.length : Int) then ((record_All.f k3 (x5_1.take ((ji70) : Int).toNat)).bind fun bt510 => (if 0 ≤ x15_3 then (if x15_3 ≤ (x7_1.length : Int) then ((usufructlaw06_same.f k3 bt510.1 (x7_1.take (x15_3 : Int).toNat)).bind fun t519 => (if t519 = true then (if bt510.2.1 = x16_3 then (if ((bt510.2.2 == 0) == (x16_3 == (ji70))) = true then (if bt510.2.2 = 0 then (some true) else (some (bt510.2.2 == 2))) else (some false)) else (some false)) else (some false))) else (none)) else (none))) else (none)) else (none)) = some r := by first | (rw [hji70] at H; exact H) | (simp only [hji70] at H ⊢; exact H)
                by_cases c71 : 0 ≤ (ji70)
                · rw [if_pos c71] at H
                  have c71b0 := eq_true c71
                  have c71b1 : decide (0 ≤ (ji70)) = true := decide_eq_true c71
                  clear c71
                  by_cases c72 : (ji70) ≤ (x5_1.length : Int)
                  · rw [if_pos c72] at H
                    have c72b0 := eq_true c72
                    have c72b1 : decide ((ji70) ≤ (x5_1.length : Int)) = true := decide_eq_true c72
                    clear c72
                    obtain ⟨y506, hy506⟩ : ∃ y_ : List Int, y_ = (x5_1.take ((ji70) : Int).toNat) := ⟨_, rfl⟩
                    replace H : ((record_All.f k3 y506).bind fun bt510 => (if 0 ≤ x15_3 then (if x15_3 ≤ (x7_1.length : Int) then ((usufructlaw06_same.f k3 bt510.1 (x7_1.take (x15_3 : Int).toNat)).bind fun t519 => (if t519 = true then (if bt510.2.1 = x16_3 then (if ((bt510.2.2 == 0) == (x16_3 == (ji70))) = true then (if bt510.2.2 = 0 then (some true) else (some (bt510.2.2 == 2))) else (some false)) else (some false)) else (some false))) else (none)) else (none))) = some r := by first | (rw [hy506]; with_reducible exact H) | (have H2_ := (Option.bind_some _ _).symm.trans H; rw [hy506]; with_reducible exact H2_) | (have H2_ := (Option.bind_some _ _).symm.trans H; with_reducible exact H2_) | with_reducible exact H | (rw [hy506]; exact H) | exact H
                    have Ny506 := ak_ hy506
                    clear hy506
                    replace H := Option.bind_eq_some_iff.mp H
                    obtain ⟨⟨t510, t511, t512⟩, A730, H⟩ := H
                    replace H : (if 0 ≤ x15_3 then (if x15_3 ≤ (x7_1.length : Int) then ((usufructlaw06_same.f k3 t510 (x7_1.take (x15_3 : Int).toNat)).bind fun t519 => (if t519 = true then (if t511 = x16_3 then (if ((t512 == 0) == (x16_3 == (ji70))) = true then (if t512 = 0 then (some true) else (some (t512 == 2))) else (some false)) else (some false)) else (some false))) else (none)) else (none)) = some r := H
                    have A73 := ak_ A730
                    clear A730
                    by_cases c74 : 0 ≤ x15_3
                    · rw [if_pos c74] at H
                      have c74b0 := eq_true c74
                      have c74b1 : decide (0 ≤ x15_3) = true := decide_eq_true c74
                      clear c74
                      by_cases c75 : x15_3 ≤ (x7_1.length : Int)
                      · rw [if_pos c75] at H
                        have c75b0 := eq_true c75
                        have c75b1 : decide (x15_3 ≤ (x7_1.length : Int)) = true := decide_eq_true c75
                        clear c75
                        obtain ⟨y515, hy515⟩ : ∃ y_ : List ByteArray, y_ = (x7_1.take (x15_3 : Int).toNat) := ⟨_, rfl⟩
                        replace H : ((usufructlaw06_same.f k3 t510 y515).bind fun t519 => (if t519 = true then (if t511 = x16_3 then (if ((t512 == 0) == (x16_3 == (ji70))) = true then (if t512 = 0 then (some true) else (some (t512 == 2))) else (some false)) else (some false)) else (some false))) = some r := by first | (rw [hy515]; with_reducible exact H) | (have H2_ := (Option.bind_some _ _).symm.trans H; rw [hy515]; with_reducible exact H2_) | (have H2_ := (Option.bind_some _ _).symm.trans H; with_reducible exact H2_) | with_reducible exact H | (rw [hy515]; exact H) | exact H
                        have Ny515 := ak_ hy515
                        clear hy515
                        replace H := Option.bind_eq_some_iff.mp H
                        obtain ⟨t519, A760, H⟩ := H
                        replace H : (if t519 = true then (if t511 = x16_3 then (if ((t512 == 0) == (x16_3 == (ji70))) = true then (if t512 = 0 then (some true) else (some (t512 == 2))) else (some false)) else (some false)) else (some false)) = some r := H
                        have A76 := ak_ A760
                        clear A760
                        by_cases c77 : t519 = true
                        · subst c77
                          have H1 : (if t511 = x16_3 then (if ((t512 == 0) == (x16_3 == (ji70))) = true then (if t512 = 0 then (some true) else (some (t512 == 2))) else (some false)) else (some false)) = some r := by rw [if_pos rfl] at H; exact H
                          clear H
                          have H := H1
                          clear H1
                          by_cases c78 : t511 = x16_3
                          · rw [if_pos c78] at H
                            have c78b0 : (t511 == x16_3) = true := beq_iff_eq.mpr c78
                            have c78b1 : (t511 != x16_3) = false := bne_eq_false_iff_eq.mpr c78
                            clear c78
                            by_cases c79 : ((t512 == 0) == (x16_3 == (ji70))) = true
                            · rw [if_pos c79] at H
                              have c79b0 : ((t512 == 0) == (x16_3 == (ji70))) = true := c79
                              (try (have c79b1 : decide ((t512 == 0) = (x16_3 == (ji70))) = true := by simpa using c79))
                              (try (have c79b2 : ((t512 == 0) == (x16_3 == (ji70))) = true := by simpa using c79))
                              clear c79
                              by_cases c80 : t512 = 0
                              · rw [if_pos c80] at H
                                have c80b0 : (t512 == 0) = true := beq_iff_eq.mpr c80
                                have c80b1 : (t512 != 0) = false := bne_eq_false_iff_eq.mpr c80
                                have c80z0 : (x16_3 == (ji70)) = true := by have h_ := c79b0; rw [c80b0] at h_; simpa using h_
                                have c80z1 : (x16_3 != (ji70)) = false := by simp only [bne, c80z0, Bool.not_true, Bool.not_false]
                                have c80z2 : decide (x16_3 = (ji70)) = true := by simpa using c80z0
                                clear c80
                                obtain rfl := Option.some.inj H
                                obtain ⟨Ao81, co81, eo81⟩ := Kd.R_slice HO_6.out
                                subst eo81
                                have q82 : ((ji70) : Int) ≤ ((x5_1.length : Int) : Int) := of_decide_eq_true (by assumption)
                                obtain ⟨i082, hi082, _, hsz82, _⟩ := info_parts info5
                                have hroom82 : x5_1.length ≤ co34 := (Kd.R_reads' HO_5.out).2.1
                                have hC82 : Kd.C (Kd.int .u8) _ Ao34 x5_1.length x5_1 := (Kd.R_reads' HO_5.out).2.2
                                have hcut82 := cut_to (P := Try.prog) 25 5 .i64 Try.underlying25 hi082 Ao34 x5_1.length co34 (ji70) (of_decide_eq_true (by assumption)) q82 hroom82
                                have hr82 := Kd.C_take (m := ((ji70) : Int).toNat) hC82 (by omega)
                                have hy82 : y506.length = ((ji70) : Int).toNat := (by rw [Ny506.out, List.length_take]; omega)
                                rw [← Ny506.out] at hr82
                                rw [← hy82] at hcut82
                                have HR509 := ak_ hr82
                                have HC509 := ak_ (show y506.length ≤ co34 from by omega)
                                clear hr82 hC82 hroom82 hi082 hsz82
                                have KY82 := ak_ hy82
                                clear hy82
                                have KL82 := ak_ (show ((ji70) : Int).toNat ≤ x5_1.length from by omega)
                                replace q82 := eq_true q82
                                go_wp2_with (first | ((with_reducible refine gate_callee (f := 33) rfl ?_); refine goesL_ (some 133) rfl rfl Try.func33 (by kernel_rfl) rfl #[.slice Ao34 y506.length co34] rfl (by (try simp only [List.map_toArray, List.map_cons, List.map_nil]); first | done | rfl | (simp only [List.length_drop, List.length_take]; rfl)) ?_; (with_reducible refine (record_All.calls k3 _ _ y506 t510 t511 t512 _ ?side1 ?side2 A73.out).mono ?_); (case side1 => repeat (first | exact (by repeat (first | (with_reducible exact HR509.out) | (with_reducible refine Kd.C_alloc ?_ _) | (with_reducible refine Kd.C_drewN ?_ _) | (with_reducible refine Kd.C_drew ?_) | exact HR509.out)) | (with_reducible refine Kd.C_alloc ?_ _) | (with_reducible refine Kd.C_drewN ?_ _) | (with_reducible refine Kd.C_drew ?_))); (case side2 => exact HC509.out); rintro e w83 ⟨v513, rfl, ho0, hb⟩; refine ⟨_, rfl, ?_⟩; have n0_ := ak_ (Kd.R_below (by (with_reducible repeat (first | apply Kd.R_alloc | apply Kd.R_drewN | apply Kd.R_drew)); exact HO_5.out) hb); have n1_ := ak_ (Kd.R_below (by (with_reducible repeat (first | apply Kd.R_alloc | apply Kd.R_drewN | apply Kd.R_drew)); exact HO_6.out) hb); have n2_ := ak_ (Kd.R_below (by (with_reducible repeat (first | apply Kd.R_alloc | apply Kd.R_drewN | apply Kd.R_drew)); exact HO_7.out) hb); have n3_ := ak_ (Kd.S_lower (Kd.S_new' ho0 (Kd.R_lt (by (with_reducible repeat (first | apply Kd.R_alloc | apply Kd.R_drewN | apply Kd.R_drew)); exact HO_5.out))) (below_size (by repeat (first | (with_reducible first | exact HB.out | apply pa_ | apply pd_ | apply p1_) | exact HB.out)))); have n4_ := ak_ (Kd.C_below (by repeat (first | (with_reducible exact HR509.out) | (with_reducible refine Kd.C_alloc ?_ _) | (with_reducible refine Kd.C_drewN ?_ _) | (with_reducible refine Kd.C_drew ?_) | exact HR509.out)) hb); have n5_ := ak_ (ps_ (by repeat (first | (with_reducible first | exact HB.out | apply pa_ | apply pd_ | apply p1_) | exact HB.out)) hb); clear HO_5; clear HO_6; clear HO_7; clear HR509; clear HB; have HO_5 := n0_; have HO_6 := n1_; have HO_7 := n2_; have HO514 := n3_; have HR509 := n4_; have HB := n5_; clear n0_ n1_ n2_ n3_ n4_ n5_; (try clear hb hk hi); (try clear ho0); obtain ⟨Ao85, co85, eo85⟩ := Kd.R_slice HO_7.out; subst eo85; have q84 : (x15_3 : Int) ≤ ((x7_1.length : Int) : Int) := of_decide_eq_true (by assumption); obtain ⟨i084, hi084, _, hsz84, _⟩ := info_parts info9; have hroom84 : x7_1.length ≤ co85 := (Kd.R_reads' HO_7.out).2.1; have hC84 : Kd.C Kd.string _ Ao85 x7_1.length x7_1 := (Kd.R_reads' HO_7.out).2.2; have hcut84 := cut_to (P := Try.prog) 66 9 .i64 Try.underlying66 hi084 Ao85 x7_1.length co85 x15_3 (of_decide_eq_true (by assumption)) q84 hroom84; have hr84 := Kd.C_take (m := (x15_3 : Int).toNat) hC84 (by omega); have hy84 : y515.length = (x15_3 : Int).toNat := (by rw [Ny515.out, List.length_take]; omega); rw [← Ny515.out] at hr84; rw [← hy84] at hcut84; have HR518 := ak_ hr84; have HC518 := ak_ (show y515.length ≤ co85 from by omega); clear hr84 hC84 hroom84 hi084 hsz84; have KY84 := ak_ hy84; clear hy84; have KL84 := ak_ (show (x15_3 : Int).toNat ≤ x7_1.length from by omega); replace q84 := eq_true q84; obtain ⟨Ao86, co86, eo86⟩ := Kd.S_slice HO514.out; subst eo86) | ((with_reducible refine gate_callee (f := 35) rfl ?_); refine goesL_ (some 141) rfl rfl Try.func35 (by kernel_rfl) rfl #[.slice Ao86 t510.length co86, .slice Ao85 y515.length co85] rfl (by (try simp only [List.map_toArray, List.map_cons, List.map_nil]); first | done | rfl | (simp only [List.length_drop, List.length_take]; rfl)) ?_; (with_reducible refine (usufructlaw06_same.calls k3 _ _ t510 _ _ y515 true _ ?side1 ?side2 ?side3 ?side4 A76.out).mono ?_); (case side1 => repeat (first | exact (Kd.S_reads' HO514.out).2.2 | (with_reducible refine Kd.C_alloc ?_ _) | (with_reducible refine Kd.C_drewN ?_ _) | (with_reducible refine Kd.C_drew ?_))); (case side2 => exact (Kd.S_reads' HO514.out).2.1); (case side3 => repeat (first | exact (by repeat (first | (with_reducible exact HR518.out) | (with_reducible refine Kd.C_alloc ?_ _) | (with_reducible refine Kd.C_drewN ?_ _) | (with_reducible refine Kd.C_drew ?_) | exact HR518.out)) | (with_reducible refine Kd.C_alloc ?_ _) | (with_reducible refine Kd.C_drewN ?_ _) | (with_reducible refine Kd.C_drew ?_))); (case side4 => exact HC518.out); rintro e w' ⟨rfl, ⟨nd, rfl⟩⟩; refine ⟨_, rfl, ?_⟩))
                                go_ret
                                exact ⟨by first | rfl | (simp [errW_none, errW_some] <;> rfl) | (simp only [← hji70]; first | rfl | (simp [errW_none, errW_some] <;> rfl)) | (simp [*, errW_none, errW_some] <;> rfl), by repeat (first | (with_reducible first | exact HB.out | apply pa_ | apply pd_ | apply p1_) | exact HB.out)⟩
                              rw [if_neg c80] at H
                              have c80b0 : (t512 == 0) = false := beq_eq_false_iff_ne.mpr c80
                              have c80b1 : (t512 != 0) = true := bne_iff_ne.mpr c80
                              have c80z0 : (x16_3 == (ji70)) = false := by have h_ := c79b0; rw [c80b0] at h_; simpa using h_
                              have c80z1 : (x16_3 != (ji70)) = true := by simp only [bne, c80z0, Bool.not_true, Bool.not_false]
                              have c80z2 : decide (x16_3 = (ji70)) = false := by simpa using c80z0
                              obtain rfl := Option.some.inj H
                              obtain ⟨Ao87, co87, eo87⟩ := Kd.R_slice HO_6.out
                              subst eo87
                              have q88 : ((ji70) : Int) ≤ ((x5_1.length : Int) : Int) := of_decide_eq_true (by assumption)
                              obtain ⟨i088, hi088, _, hsz88, _⟩ := info_parts info5
                              have hroom88 : x5_1.length ≤ co34 := (Kd.R_reads' HO_5.out).2.1
                              have hC88 : Kd.C (Kd.int .u8) _ Ao34 x5_1.length x5_1 := (Kd.R_reads' HO_5.out).2.2
                              have hcut88 := cut_to (P := Try.prog) 25 5 .i64 Try.underlying25 hi088 Ao34 x5_1.length co34 (ji70) (of_decide_eq_true (by assumption)) q88 hroom88
                              have hr88 := Kd.C_take (m := ((ji70) : Int).toNat) hC88 (by omega)
                              have hy88 : y506.length = ((ji70) : Int).toNat := (by rw [Ny506.out, List.length_take]; omega)
                              rw [← Ny506.out] at hr88
                              rw [← hy88] at hcut88
                              have HR509 := ak_ hr88
                              have HC509 := ak_ (show y506.length ≤ co34 from by omega)
                              clear hr88 hC88 hroom88 hi088 hsz88
                              have KY88 := ak_ hy88
                              clear hy88
                              have KL88 := ak_ (show ((ji70) : Int).toNat ≤ x5_1.length from by omega)
                              replace q88 := eq_true q88
                              go_wp2_with (first | ((with_reducible refine gate_callee (f := 33) rfl ?_); refine goesL_ (some 133) rfl rfl Try.func33 (by kernel_rfl) rfl #[.slice Ao34 y506.length co34] rfl (by (try simp only [List.map_toArray, List.map_cons, List.map_nil]); first | done | rfl | (simp only [List.length_drop, List.length_take]; rfl)) ?_; (with_reducible refine (record_All.calls k3 _ _ y506 t510 t511 t512 _ ?side1 ?side2 A73.out).mono ?_); (case side1 => repeat (first | exact (by repeat (first | (with_reducible exact HR509.out) | (with_reducible refine Kd.C_alloc ?_ _) | (with_reducible refine Kd.C_drewN ?_ _) | (with_reducible refine Kd.C_drew ?_) | exact HR509.out)) | (with_reducible refine Kd.C_alloc ?_ _) | (with_reducible refine Kd.C_drewN ?_ _) | (with_reducible refine Kd.C_drew ?_))); (case side2 => exact HC509.out); rintro e w89 ⟨v513, rfl, ho0, hb⟩; refine ⟨_, rfl, ?_⟩; have n0_ := ak_ (Kd.R_below (by (with_reducible repeat (first | apply Kd.R_alloc | apply Kd.R_drewN | apply Kd.R_drew)); exact HO_5.out) hb); have n1_ := ak_ (Kd.R_below (by (with_reducible repeat (first | apply Kd.R_alloc | apply Kd.R_drewN | apply Kd.R_drew)); exact HO_6.out) hb); have n2_ := ak_ (Kd.R_below (by (with_reducible repeat (first | apply Kd.R_alloc | apply Kd.R_drewN | apply Kd.R_drew)); exact HO_7.out) hb); have n3_ := ak_ (Kd.S_lower (Kd.S_new' ho0 (Kd.R_lt (by (with_reducible repeat (first | apply Kd.R_alloc | apply Kd.R_drewN | apply Kd.R_drew)); exact HO_5.out))) (below_size (by repeat (first | (with_reducible first | exact HB.out | apply pa_ | apply pd_ | apply p1_) | exact HB.out)))); have n4_ := ak_ (Kd.C_below (by repeat (first | (with_reducible exact HR509.out) | (with_reducible refine Kd.C_alloc ?_ _) | (with_reducible refine Kd.C_drewN ?_ _) | (with_reducible refine Kd.C_drew ?_) | exact HR509.out)) hb); have n5_ := ak_ (ps_ (by repeat (first | (with_reducible first | exact HB.out | apply pa_ | apply pd_ | apply p1_) | exact HB.out)) hb); clear HO_5; clear HO_6; clear HO_7; clear HR509; clear HB; have HO_5 := n0_; have HO_6 := n1_; have HO_7 := n2_; have HO514 := n3_; have HR509 := n4_; have HB := n5_; clear n0_ n1_ n2_ n3_ n4_ n5_; (try clear hb hk hi); (try clear ho0); obtain ⟨Ao91, co91, eo91⟩ := Kd.R_slice HO_7.out; subst eo91; have q90 : (x15_3 : Int) ≤ ((x7_1.length : Int) : Int) := of_decide_eq_true (by assumption); obtain ⟨i090, hi090, _, hsz90, _⟩ := info_parts info9; have hroom90 : x7_1.length ≤ co91 := (Kd.R_reads' HO_7.out).2.1; have hC90 : Kd.C Kd.string _ Ao91 x7_1.length x7_1 := (Kd.R_reads' HO_7.out).2.2; have hcut90 := cut_to (P := Try.prog) 66 9 .i64 Try.underlying66 hi090 Ao91 x7_1.length co91 x15_3 (of_decide_eq_true (by assumption)) q90 hroom90; have hr90 := Kd.C_take (m := (x15_3 : Int).toNat) hC90 (by omega); have hy90 : y515.length = (x15_3 : Int).toNat := (by rw [Ny515.out, List.length_take]; omega); rw [← Ny515.out] at hr90; rw [← hy90] at hcut90; have HR518 := ak_ hr90; have HC518 := ak_ (show y515.length ≤ co91 from by omega); clear hr90 hC90 hroom90 hi090 hsz90; have KY90 := ak_ hy90; clear hy90; have KL90 := ak_ (show (x15_3 : Int).toNat ≤ x7_1.length from by omega); replace q90 := eq_true q90; obtain ⟨Ao92, co92, eo92⟩ := Kd.S_slice HO514.out; subst eo92) | ((with_reducible refine gate_callee (f := 35) rfl ?_); refine goesL_ (some 141) rfl rfl Try.func35 (by kernel_rfl) rfl #[.slice Ao92 t510.length co92, .slice Ao91 y515.length co91] rfl (by (try simp only [List.map_toArray, List.map_cons, List.map_nil]); first | done | rfl | (simp only [List.length_drop, List.length_take]; rfl)) ?_; (with_reducible refine (usufructlaw06_same.calls k3 _ _ t510 _ _ y515 true _ ?side1 ?side2 ?side3 ?side4 A76.out).mono ?_); (case side1 => repeat (first | exact (Kd.S_reads' HO514.out).2.2 | (with_reducible refine Kd.C_alloc ?_ _) | (with_reducible refine Kd.C_drewN ?_ _) | (with_reducible refine Kd.C_drew ?_))); (case side2 => exact (Kd.S_reads' HO514.out).2.1); (case side3 => repeat (first | exact (by repeat (first | (with_reducible exact HR518.out) | (with_reducible refine Kd.C_alloc ?_ _) | (with_reducible refine Kd.C_drewN ?_ _) | (with_reducible refine Kd.C_drew ?_) | exact HR518.out)) | (with_reducible refine Kd.C_alloc ?_ _) | (with_reducible refine Kd.C_drewN ?_ _) | (with_reducible refine Kd.C_drew ?_))); (case side4 => exact HC518.out); rintro e w' ⟨rfl, ⟨nd, rfl⟩⟩; refine ⟨_, rfl, ?_⟩))
                              go_ret
                              exact ⟨by first | rfl | (simp [errW_none, errW_some] <;> rfl) | (simp only [← hji70]; first | rfl | (simp [errW_none, errW_some] <;> rfl)) | (simp [*, errW_none, errW_some] <;> rfl), by repeat (first | (with_reducible first | exact HB.out | apply pa_ | apply pd_ | apply p1_) | exact HB.out)⟩
                            rw [if_neg c79] at H
                            have c79b0 : ((t512 == 0) == (x16_3 == (ji70))) = false := by simpa using c79
                            (try (have c79b1 : decide ((t512 == 0) = (x16_3 == (ji70))) = false := by simpa using c79))
                            (try (have c79b2 : ((t512 == 0) == (x16_3 == (ji70))) = false := by simpa using c79))
                            (try (have c79b3 : ¬ ((t512 == 0) = (x16_3 == (ji70))) := by simpa using c79))
                            clear c79
                            exact absurd ((Option.some.inj H).trans HTR_.out) (by decide)
                          rw [if_neg c78] at H
                          have c78b0 : (t511 == x16_3) = false := beq_eq_false_iff_ne.mpr c78
                          have c78b1 : (t511 != x16_3) = true := bne_iff_ne.mpr c78
                          exact absurd ((Option.some.inj H).trans HTR_.out) (by decide)
                        replace c77 := Bool.eq_false_iff.mpr c77
                        subst c77
                        have H1 : (some false) = some r := by rw [if_neg (show ¬ (false = true) by decide)] at H; exact H
                        clear H
                        have H := H1
                        clear H1
                        exact absurd ((Option.some.inj H).trans HTR_.out) (by decide)
                      rw [if_neg c75] at H
                      exact absurd H (by simp)
                    rw [if_neg c74] at H
                    exact absurd H (by simp)
                  rw [if_neg c72] at H
                  exact absurd H (by simp)
                rw [if_neg c71] at H
                exact absurd H (by simp)
  replace c4 := Bool.eq_false_iff.mpr c4
  subst c4
  have H1 : (some false) = some r := by rw [if_neg (show ¬ (false = true) by decide)] at H; exact H
  clear H
  have H := H1
  clear H1
  exact absurd ((Option.some.inj H).trans HTR_.out) (by decide)

end Go.Proofs.Ytdamiipeijnpnaa.Q
