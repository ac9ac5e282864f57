-- written for this claim by a program of the session
import Derived.Test.YtkpmmikpdjhliaaDoorQx0
import Derived.Test.YtkpmmikpdjhliaaDoorQx6
import Derived.Test.YtkpmmikpdjhliaaDoorQx10
import Derived.Test.YtkpmmikpdjhliaaDoorQx18
import Derived.Test.YtkpmmikpdjhliaaDoorQx19
import Derived.Test.YtkpmmikpdjhliaaDoorGAwakeLabel
namespace Go.Proofs.YtkpmmikpdjhliaaDoor.Q
open Go.RowKit Go.Proofs.YtkpmmikpdjhliaaDoorW.PrintWords Go.Proofs.YtkpmmikpdjhliaaDoorW.PrintLast Go.Proofs.YtkpmmikpdjhliaaDoorW.PrintMore
attribute [local go_sem] max2_int min2_int max_two min_two max_three min_three max_four min_four   -- for this text's walks alone
set_option linter.unusedVariables false
set_option linter.unusedSimpArgs false

/-! ### usufructlaw02_LabelKeys: function 4 -/
mutual
def usufructlaw02_LabelKeys.j0 : Nat → List ByteArray → ByteArray → Bool → Option (Bool)
  | 0, _, _, _ => none
  | k + 1, x0, x1, x27 => if x27 = true then (some true) else (usufructlaw02_LabelKeys.l0 k x0 x1 0)
def usufructlaw02_LabelKeys.l0 : Nat → List ByteArray → ByteArray → Int → Option (Bool)
  | 0, _, _, _ => none
  | k + 1, x0, x1, x5 => if x5 < (x0.length : Int) then (if 0 ≤ x5 then (if ((rdOf ByteArray.empty x0 x5).size : Int) > 100 then (some true) else (usufructlaw02_LabelKeys.l0 k x0 x1 (wrap64 (x5 + 1)))) else (none)) else ((label_Key.f k x0).bind fun bt188 => ((usufructref02_Key.f k x0).bind fun bt190 => (if bt188.1.toList = bt190.1.toList then (usufructlaw02_LabelKeys.j2 k x0 x1 bt188.1 bt188.2 (bt188.2 != bt190.2)) else (usufructlaw02_LabelKeys.j2 k x0 x1 bt188.1 bt188.2 true))))
def usufructlaw02_LabelKeys.j2 : Nat → List ByteArray → ByteArray → ByteArray → Bool → Bool → Option (Bool)
  | 0, _, _, _, _, _ => none
  | k + 1, x0, x1, x6, x7, x57 => if x57 = true then (some false) else (if x7 = true then ((label_Cut.f k x6).bind fun bt192 => (if bt192.2 = true then (usufructlaw02_LabelKeys.j3 k x0 x1 bt192.1 ((bt192.1.length : Int) != (x0.length : Int))) else (usufructlaw02_LabelKeys.j3 k x0 x1 bt192.1 true))) else (usufructlaw02_LabelKeys.j5 k x1))
def usufructlaw02_LabelKeys.j5 : Nat → ByteArray → Option (Bool)
  | 0, _ => none
  | k + 1, x1 => (label_Cut.f k x1).bind fun bt198 => ((usufructref02_Cut.f k x1).bind fun bt202 => (if (bt198.2 != bt202.2) = true then (usufructlaw02_LabelKeys.j6 k bt198.1 bt202.1 true) else (usufructlaw02_LabelKeys.j6 k bt198.1 bt202.1 ((bt198.1.length : Int) != (bt202.1.length : Int)))))
def usufructlaw02_LabelKeys.j6 : Nat → List ByteArray → List ByteArray → Bool → Option (Bool)
  | 0, _, _, _ => none
  | k + 1, x13, x15, x107 => if x107 = true then (some false) else (usufructlaw02_LabelKeys.l2 k x13 x15 0)
def usufructlaw02_LabelKeys.l2 : Nat → List ByteArray → List ByteArray → Int → Option (Bool)
  | 0, _, _, _ => none
  | k + 1, x13, x15, x17 => if x17 < (x13.length : Int) then (if 0 ≤ x17 then (if x17 < (x15.length : Int) then (if (rdOf ByteArray.empty x13 x17).toList = (rdOf ByteArray.empty x15 x17).toList then (usufructlaw02_LabelKeys.l2 k x13 x15 (wrap64 (x17 + 1))) else (some false)) else (none)) else (none)) else (some true)
def usufructlaw02_LabelKeys.j3 : Nat → List ByteArray → ByteArray → List ByteArray → Bool → Option (Bool)
  | 0, _, _, _, _ => none
  | k + 1, x0, x1, x10, x72 => if x72 = true then (some false) else (usufructlaw02_LabelKeys.l1 k x0 x1 x10 0)
def usufructlaw02_LabelKeys.l1 : Nat → List ByteArray → ByteArray → List ByteArray → Int → Option (Bool)
  | 0, _, _, _, _ => none
  | k + 1, x0, x1, x10, x12 => if x12 < (x0.length : Int) then (if 0 ≤ x12 then (if x12 < (x10.length : Int) then (if (rdOf ByteArray.empty x10 x12).toList = (rdOf ByteArray.empty x0 x12).toList then (usufructlaw02_LabelKeys.l1 k x0 x1 x10 (wrap64 (x12 + 1))) else (some false)) else (none)) else (none)) else (usufructlaw02_LabelKeys.j5 k x1)
end
def usufructlaw02_LabelKeys.f (k : Nat) (l0 : List ByteArray) (a1 : ByteArray) : Option (Bool) := (usufructlaw02_awake.f).bind fun t186 => (if t186 = true then (if (l0.length : Int) > 12 then (usufructlaw02_LabelKeys.j0 k l0 a1 true) else (usufructlaw02_LabelKeys.j0 k l0 a1 (decide ((a1.size : Int) > 300)))) else (some false))
theorem usufructlaw02_LabelKeys.mono_l : ∀ k, (∀ y0 y1 y2, LeO (usufructlaw02_LabelKeys.j0 k y0 y1 y2) (usufructlaw02_LabelKeys.j0 (k + 1) y0 y1 y2)) ∧ (∀ y0 y1 y2, LeO (usufructlaw02_LabelKeys.l0 k y0 y1 y2) (usufructlaw02_LabelKeys.l0 (k + 1) y0 y1 y2)) ∧ (∀ y0 y1 y2 y3 y4, LeO (usufructlaw02_LabelKeys.j2 k y0 y1 y2 y3 y4) (usufructlaw02_LabelKeys.j2 (k + 1) y0 y1 y2 y3 y4)) ∧ (∀ y0, LeO (usufructlaw02_LabelKeys.j5 k y0) (usufructlaw02_LabelKeys.j5 (k + 1) y0)) ∧ (∀ y0 y1 y2, LeO (usufructlaw02_LabelKeys.j6 k y0 y1 y2) (usufructlaw02_LabelKeys.j6 (k + 1) y0 y1 y2)) ∧ (∀ y0 y1 y2, LeO (usufructlaw02_LabelKeys.l2 k y0 y1 y2) (usufructlaw02_LabelKeys.l2 (k + 1) y0 y1 y2)) ∧ (∀ y0 y1 y2 y3, LeO (usufructlaw02_LabelKeys.j3 k y0 y1 y2 y3) (usufructlaw02_LabelKeys.j3 (k + 1) y0 y1 y2 y3)) ∧ (∀ y0 y1 y2 y3, LeO (usufructlaw02_LabelKeys.l1 k y0 y1 y2 y3) (usufructlaw02_LabelKeys.l1 (k + 1) y0 y1 y2 y3))
  | 0 => ⟨fun _ _ _ r h => by simp [usufructlaw02_LabelKeys.j0] at h, fun _ _ _ r h => by simp [usufructlaw02_LabelKeys.l0] at h, fun _ _ _ _ _ r h => by simp [usufructlaw02_LabelKeys.j2] at h, fun _ r h => by simp [usufructlaw02_LabelKeys.j5] at h, fun _ _ _ r h => by simp [usufructlaw02_LabelKeys.j6] at h, fun _ _ _ r h => by simp [usufructlaw02_LabelKeys.l2] at h, fun _ _ _ _ r h => by simp [usufructlaw02_LabelKeys.j3] at h, fun _ _ _ _ r h => by simp [usufructlaw02_LabelKeys.l1] at h⟩
  | k + 1 => by
    obtain ⟨ih0, ih1, ih2, ih3, ih4, ih5, ih6, ih7⟩ := usufructlaw02_LabelKeys.mono_l k
    refine ⟨?_, ?_, ?_, ?_, ?_, ?_, ?_, ?_⟩
    · intro y0 y1 y2
      unfold usufructlaw02_LabelKeys.j0
      repeat' first
      | (with_reducible exact ih0 _ _ _)
      | (with_reducible exact ih1 _ _ _)
      | (with_reducible exact ih2 _ _ _ _ _)
      | (with_reducible exact ih3 _)
      | (with_reducible exact ih4 _ _ _)
      | (with_reducible exact ih5 _ _ _)
      | (with_reducible exact ih6 _ _ _ _)
      | (with_reducible exact ih7 _ _ _ _)
      | (with_reducible exact label_Cut.mono _ _)
      | (with_reducible exact label_Key.mono _ _)
      | (with_reducible exact usufructref02_Cut.mono _ _)
      | (with_reducible exact usufructref02_Key.mono _ _)
      | (with_reducible exact LeO.refl _)
      | (with_reducible exact LeO.none _)
      | (with_reducible refine LeO.ite ?_ ?_)
      | (with_reducible refine LeO.bind ?_ (fun _ => ?_))
      | exact ih0 _ _ _
      | exact ih1 _ _ _
      | exact ih2 _ _ _ _ _
      | exact ih3 _
      | exact ih4 _ _ _
      | exact ih5 _ _ _
      | exact ih6 _ _ _ _
      | exact ih7 _ _ _ _
      | exact label_Cut.mono _ _
      | exact label_Key.mono _ _
      | exact usufructref02_Cut.mono _ _
      | exact usufructref02_Key.mono _ _
      | exact LeO.none _
      | refine LeO.ite ?_ ?_
      | refine LeO.bind ?_ (fun _ => ?_)
    · intro y0 y1 y2
      unfold usufructlaw02_LabelKeys.l0
      repeat' first
      | (with_reducible exact ih0 _ _ _)
      | (with_reducible exact ih1 _ _ _)
      | (with_reducible exact ih2 _ _ _ _ _)
      | (with_reducible exact ih3 _)
      | (with_reducible exact ih4 _ _ _)
      | (with_reducible exact ih5 _ _ _)
      | (with_reducible exact ih6 _ _ _ _)
      | (with_reducible exact ih7 _ _ _ _)
      | (with_reducible exact label_Cut.mono _ _)
      | (with_reducible exact label_Key.mono _ _)
      | (with_reducible exact usufructref02_Cut.mono _ _)
      | (with_reducible exact usufructref02_Key.mono _ _)
      | (with_reducible exact LeO.refl _)
      | (with_reducible exact LeO.none _)
      | (with_reducible refine LeO.ite ?_ ?_)
      | (with_reducible refine LeO.bind ?_ (fun _ => ?_))
      | exact ih0 _ _ _
      | exact ih1 _ _ _
      | exact ih2 _ _ _ _ _
      | exact ih3 _
      | exact ih4 _ _ _
      | exact ih5 _ _ _
      | exact ih6 _ _ _ _
      | exact ih7 _ _ _ _
      | exact label_Cut.mono _ _
      | exact label_Key.mono _ _
      | exact usufructref02_Cut.mono _ _
      | exact usufructref02_Key.mono _ _
      | exact LeO.none _
      | refine LeO.ite ?_ ?_
      | refine LeO.bind ?_ (fun _ => ?_)
    · intro y0 y1 y2 y3 y4
      unfold usufructlaw02_LabelKeys.j2
      repeat' first
      | (with_reducible exact ih0 _ _ _)
      | (with_reducible exact ih1 _ _ _)
      | (with_reducible exact ih2 _ _ _ _ _)
      | (with_reducible exact ih3 _)
      | (with_reducible exact ih4 _ _ _)
      | (with_reducible exact ih5 _ _ _)
      | (with_reducible exact ih6 _ _ _ _)
      | (with_reducible exact ih7 _ _ _ _)
      | (with_reducible exact label_Cut.mono _ _)
      | (with_reducible exact label_Key.mono _ _)
      | (with_reducible exact usufructref02_Cut.mono _ _)
      | (with_reducible exact usufructref02_Key.mono _ _)
      | (with_reducible exact LeO.refl _)
      | (with_reducible exact LeO.none _)
      | (with_reducible refine LeO.ite ?_ ?_)
      | (with_reducible refine LeO.bind ?_ (fun _ => ?_))
      | exact ih0 _ _ _
      | exact ih1 _ _ _
      | exact ih2 _ _ _ _ _
      | exact ih3 _
      | exact ih4 _ _ _
      | exact ih5 _ _ _
      | exact ih6 _ _ _ _
      | exact ih7 _ _ _ _
      | exact label_Cut.mono _ _
      | exact label_Key.mono _ _
      | exact usufructref02_Cut.mono _ _
      | exact usufructref02_Key.mono _ _
      | exact LeO.none _
      | refine LeO.ite ?_ ?_
      | refine LeO.bind ?_ (fun _ => ?_)
    · intro y0
      unfold usufructlaw02_LabelKeys.j5
      repeat' first
      | (with_reducible exact ih0 _ _ _)
      | (with_reducible exact ih1 _ _ _)
      | (with_reducible exact ih2 _ _ _ _ _)
      | (with_reducible exact ih3 _)
      | (with_reducible exact ih4 _ _ _)
      | (with_reducible exact ih5 _ _ _)
      | (with_reducible exact ih6 _ _ _ _)
      | (with_reducible exact ih7 _ _ _ _)
      | (with_reducible exact label_Cut.mono _ _)
      | (with_reducible exact label_Key.mono _ _)
      | (with_reducible exact usufructref02_Cut.mono _ _)
      | (with_reducible exact usufructref02_Key.mono _ _)
      | (with_reducible exact LeO.refl _)
      | (with_reducible exact LeO.none _)
      | (with_reducible refine LeO.ite ?_ ?_)
      | (with_reducible refine LeO.bind ?_ (fun _ => ?_))
      | exact ih0 _ _ _
      | exact ih1 _ _ _
      | exact ih2 _ _ _ _ _
      | exact ih3 _
      | exact ih4 _ _ _
      | exact ih5 _ _ _
      | exact ih6 _ _ _ _
      | exact ih7 _ _ _ _
      | exact label_Cut.mono _ _
      | exact label_Key.mono _ _
      | exact usufructref02_Cut.mono _ _
      | exact usufructref02_Key.mono _ _
      | exact LeO.none _
      | refine LeO.ite ?_ ?_
      | refine LeO.bind ?_ (fun _ => ?_)
    · intro y0 y1 y2
      unfold usufructlaw02_LabelKeys.j6
      repeat' first
      | (with_reducible exact ih0 _ _ _)
      | (with_reducible exact ih1 _ _ _)
      | (with_reducible exact ih2 _ _ _ _ _)
      | (with_reducible exact ih3 _)
      | (with_reducible exact ih4 _ _ _)
      | (with_reducible exact ih5 _ _ _)
      | (with_reducible exact ih6 _ _ _ _)
      | (with_reducible exact ih7 _ _ _ _)
      | (with_reducible exact label_Cut.mono _ _)
      | (with_reducible exact label_Key.mono _ _)
      | (with_reducible exact usufructref02_Cut.mono _ _)
      | (with_reducible exact usufructref02_Key.mono _ _)
      | (with_reducible exact LeO.refl _)
      | (with_reducible exact LeO.none _)
      | (with_reducible refine LeO.ite ?_ ?_)
      | (with_reducible refine LeO.bind ?_ (fun _ => ?_))
      | exact ih0 _ _ _
      | exact ih1 _ _ _
      | exact ih2 _ _ _ _ _
      | exact ih3 _
      | exact ih4 _ _ _
      | exact ih5 _ _ _
      | exact ih6 _ _ _ _
      | exact ih7 _ _ _ _
      | exact label_Cut.mono _ _
      | exact label_Key.mono _ _
      | exact usufructref02_Cut.mono _ _
      | exact usufructref02_Key.mono _ _
      | exact LeO.none _
      | refine LeO.ite ?_ ?_
      | refine LeO.bind ?_ (fun _ => ?_)
    · intro y0 y1 y2
      unfold usufructlaw02_LabelKeys.l2
      repeat' first
      | (with_reducible exact ih0 _ _ _)
      | (with_reducible exact ih1 _ _ _)
      | (with_reducible exact ih2 _ _ _ _ _)
      | (with_reducible exact ih3 _)
      | (with_reducible exact ih4 _ _ _)
      | (with_reducible exact ih5 _ _ _)
      | (with_reducible exact ih6 _ _ _ _)
      | (with_reducible exact ih7 _ _ _ _)
      | (with_reducible exact label_Cut.mono _ _)
      | (with_reducible exact label_Key.mono _ _)
      | (with_reducible exact usufructref02_Cut.mono _ _)
      | (with_reducible exact usufructref02_Key.mono _ _)
      | (with_reducible exact LeO.refl _)
      | (with_reducible exact LeO.none _)
      | (with_reducible refine LeO.ite ?_ ?_)
      | (with_reducible refine LeO.bind ?_ (fun _ => ?_))
      | exact ih0 _ _ _
      | exact ih1 _ _ _
      | exact ih2 _ _ _ _ _
      | exact ih3 _
      | exact ih4 _ _ _
      | exact ih5 _ _ _
      | exact ih6 _ _ _ _
      | exact ih7 _ _ _ _
      | exact label_Cut.mono _ _
      | exact label_Key.mono _ _
      | exact usufructref02_Cut.mono _ _
      | exact usufructref02_Key.mono _ _
      | exact LeO.none _
      | refine LeO.ite ?_ ?_
      | refine LeO.bind ?_ (fun _ => ?_)
    · intro y0 y1 y2 y3
      unfold usufructlaw02_LabelKeys.j3
      repeat' first
      | (with_reducible exact ih0 _ _ _)
      | (with_reducible exact ih1 _ _ _)
      | (with_reducible exact ih2 _ _ _ _ _)
      | (with_reducible exact ih3 _)
      | (with_reducible exact ih4 _ _ _)
      | (with_reducible exact ih5 _ _ _)
      | (with_reducible exact ih6 _ _ _ _)
      | (with_reducible exact ih7 _ _ _ _)
      | (with_reducible exact label_Cut.mono _ _)
      | (with_reducible exact label_Key.mono _ _)
      | (with_reducible exact usufructref02_Cut.mono _ _)
      | (with_reducible exact usufructref02_Key.mono _ _)
      | (with_reducible exact LeO.refl _)
      | (with_reducible exact LeO.none _)
      | (with_reducible refine LeO.ite ?_ ?_)
      | (with_reducible refine LeO.bind ?_ (fun _ => ?_))
      | exact ih0 _ _ _
      | exact ih1 _ _ _
      | exact ih2 _ _ _ _ _
      | exact ih3 _
      | exact ih4 _ _ _
      | exact ih5 _ _ _
      | exact ih6 _ _ _ _
      | exact ih7 _ _ _ _
      | exact label_Cut.mono _ _
      | exact label_Key.mono _ _
      | exact usufructref02_Cut.mono _ _
      | exact usufructref02_Key.mono _ _
      | exact LeO.none _
      | refine LeO.ite ?_ ?_
      | refine LeO.bind ?_ (fun _ => ?_)
    · intro y0 y1 y2 y3
      unfold usufructlaw02_LabelKeys.l1
      repeat' first
      | (with_reducible exact ih0 _ _ _)
      | (with_reducible exact ih1 _ _ _)
      | (with_reducible exact ih2 _ _ _ _ _)
      | (with_reducible exact ih3 _)
      | (with_reducible exact ih4 _ _ _)
      | (with_reducible exact ih5 _ _ _)
      | (with_reducible exact ih6 _ _ _ _)
      | (with_reducible exact ih7 _ _ _ _)
      | (with_reducible exact label_Cut.mono _ _)
      | (with_reducible exact label_Key.mono _ _)
      | (with_reducible exact usufructref02_Cut.mono _ _)
      | (with_reducible exact usufructref02_Key.mono _ _)
      | (with_reducible exact LeO.refl _)
      | (with_reducible exact LeO.none _)
      | (with_reducible refine LeO.ite ?_ ?_)
      | (with_reducible refine LeO.bind ?_ (fun _ => ?_))
      | exact ih0 _ _ _
      | exact ih1 _ _ _
      | exact ih2 _ _ _ _ _
      | exact ih3 _
      | exact ih4 _ _ _
      | exact ih5 _ _ _
      | exact ih6 _ _ _ _
      | exact ih7 _ _ _ _
      | exact label_Cut.mono _ _
      | exact label_Key.mono _ _
      | exact usufructref02_Cut.mono _ _
      | exact usufructref02_Key.mono _ _
      | exact LeO.none _
      | refine LeO.ite ?_ ?_
      | refine LeO.bind ?_ (fun _ => ?_)
theorem usufructlaw02_LabelKeys.mono : ∀ a0 a1 k, LeO (usufructlaw02_LabelKeys.f k a0 a1) (usufructlaw02_LabelKeys.f (k + 1) a0 a1) := by
  intro a0 a1 k
  obtain ⟨ih0, ih1, ih2, ih3, ih4, ih5, ih6, ih7⟩ := usufructlaw02_LabelKeys.mono_l k
  unfold usufructlaw02_LabelKeys.f
  repeat' first
      | (with_reducible exact ih0 _ _ _)
      | (with_reducible exact ih1 _ _ _)
      | (with_reducible exact ih2 _ _ _ _ _)
      | (with_reducible exact ih3 _)
      | (with_reducible exact ih4 _ _ _)
      | (with_reducible exact ih5 _ _ _)
      | (with_reducible exact ih6 _ _ _ _)
      | (with_reducible exact ih7 _ _ _ _)
      | (with_reducible exact label_Cut.mono _ _)
      | (with_reducible exact label_Key.mono _ _)
      | (with_reducible exact usufructref02_Cut.mono _ _)
      | (with_reducible exact usufructref02_Key.mono _ _)
      | (with_reducible exact LeO.refl _)
      | (with_reducible exact LeO.none _)
      | (with_reducible refine LeO.ite ?_ ?_)
      | (with_reducible refine LeO.bind ?_ (fun _ => ?_))
      | exact ih0 _ _ _
      | exact ih1 _ _ _
      | exact ih2 _ _ _ _ _
      | exact ih3 _
      | exact ih4 _ _ _
      | exact ih5 _ _ _
      | exact ih6 _ _ _ _
      | exact ih7 _ _ _ _
      | exact label_Cut.mono _ _
      | exact label_Key.mono _ _
      | exact usufructref02_Cut.mono _ _
      | exact usufructref02_Key.mono _ _
      | exact LeO.none _
      | refine LeO.ite ?_ ?_
      | refine LeO.bind ?_ (fun _ => ?_)
set_option maxHeartbeats 8000000 in
set_option maxRecDepth 100000 in
theorem usufructlaw02_LabelKeys.calls (k : Nat) (A0 : Option Addr) (c0 : Nat) (l0 : List ByteArray) (a1 : ByteArray) (r : Bool) (w : World) (hr0 : Kd.C Kd.string w A0 l0.length l0) (hc0 : l0.length ≤ c0) (hTab_ : Tabs_ w) (h : usufructlaw02_LabelKeys.f k l0 a1 = some r) :
    Calls Tryd.prog 4 #[.slice A0 l0.length c0, .string a1] w fun e w' => e = .returned (.bool r) ∧ Below w.heap.size w w' := by
  have HTAB_ := Aside0.mk hTab_
  clear hTab_
  have HR0 := Aside0.mk hr0
  have HC0 := Aside0.mk hc0
  clear hr0 hc0
  have HB := Aside0.mk (Below.refl w.heap.size w)
  have H : ((usufructlaw02_awake.f).bind fun t186 => (if t186 = true then (if (l0.length : Int) > 12 then (usufructlaw02_LabelKeys.j0 k l0 a1 true) else (usufructlaw02_LabelKeys.j0 k l0 a1 (decide ((a1.size : Int) > 300)))) else (some false))) = some r := h
  clear h
  replace H := Option.bind_eq_some_iff.mp H
  obtain ⟨t186, A30, H⟩ := H
  replace H : (if t186 = true then (if (l0.length : Int) > 12 then (usufructlaw02_LabelKeys.j0 k l0 a1 true) else (usufructlaw02_LabelKeys.j0 k l0 a1 (decide ((a1.size : Int) > 300)))) else (some false)) = some r := H
  have A3 := Aside0.mk A30
  clear A30
  by_cases c4 : t186 = true
  · subst c4
    have H1 : (if (l0.length : Int) > 12 then (usufructlaw02_LabelKeys.j0 k l0 a1 true) else (usufructlaw02_LabelKeys.j0 k l0 a1 (decide ((a1.size : Int) > 300)))) = some r := by rw [if_pos rfl] at H; exact H
    clear H
    have H := H1
    clear H1
    have HC5 := Aside0.mk H
    clear H
    go_enter Tryd.func4, Tryd.ntmps4
    go_upto_region 3 with (first | (go_at_call 7; (with_reducible refine (usufructlaw02_awake.calls  true _ ?tab_ A3.out).mono ?_); (case tab_ => first | exact HTAB_.out | exact Tabs_.below HTAB_.out (by repeat (first | (with_reducible first | exact HB.out | apply below_alloc | apply pw_below_drewN | apply below_drew1) | exact HB.out))); rintro e w6 ⟨rfl, hb⟩; have n0_ := Aside0.mk (below_step (by repeat (first | (with_reducible first | exact HB.out | apply below_alloc | apply pw_below_drewN | apply below_drew1) | exact HB.out)) hb); clear HB; have HB := n0_; clear n0_; (try clear hb); (try clear hb2); (try clear hk); (try clear hi)))
    repeat (go_quiet (first | (go_at_call 7; (with_reducible refine (usufructlaw02_awake.calls  true _ ?tab_ A3.out).mono ?_); (case tab_ => first | exact HTAB_.out | exact Tabs_.below HTAB_.out (by repeat (first | (with_reducible first | exact HB.out | apply below_alloc | apply pw_below_drewN | apply below_drew1) | exact HB.out))); rintro e w6 ⟨rfl, hb⟩; have n0_ := Aside0.mk (below_step (by repeat (first | (with_reducible first | exact HB.out | apply below_alloc | apply pw_below_drewN | apply below_drew1) | exact HB.out)) hb); clear HB; have HB := n0_; clear n0_; (try clear hb); (try clear hb2); (try clear hk); (try clear hi))); go_upto_region 3 with (first | (go_at_call 7; (with_reducible refine (usufructlaw02_awake.calls  true _ ?tab_ A3.out).mono ?_); (case tab_ => first | exact HTAB_.out | exact Tabs_.below HTAB_.out (by repeat (first | (with_reducible first | exact HB.out | apply below_alloc | apply pw_below_drewN | apply below_drew1) | exact HB.out))); rintro e w6 ⟨rfl, hb⟩; have n0_ := Aside0.mk (below_step (by repeat (first | (with_reducible first | exact HB.out | apply below_alloc | apply pw_below_drewN | apply below_drew1) | exact HB.out)) hb); clear HB; have HB := n0_; clear n0_; (try clear hb); (try clear hb2); (try clear hk); (try clear hi))))
    (try simp only [Act.put, List.setIfInBounds_toArray, List.set_cons_zero, List.set_cons_succ])
    go_cut [27] (fun v27 wc => ∃ (kq : Nat) (x27_4 : Bool), v27 = .bool x27_4 ∧ Aside0 (usufructlaw02_LabelKeys.j0 kq l0 a1 x27_4 = some r) ∧ Aside0 (kq ≤ k) ∧ Aside0 (Below w.heap.size w wc))
    case first =>
      have H := HC5.out
      clear HC5
      by_cases c7 : (l0.length : Int) > 12
      · rw [if_pos c7] at H
        have c7b0 : decide (12 < (l0.length : Int)) = true := decide_eq_true c7
        have c7b1 : decide (12 < l0.length) = true := decide_eq_true (by omega)
        clear c7
        (first | rw [c7b0] | (simp only [i64_w, i32_w]; rw [c7b0]) | skip)
        have H' := Aside0.mk H
        clear H
        go_wp2
        repeat (go_quiet (fail); try go_wp2)
        go_meet
        case rel => exact ⟨_, (true), (by first | rfl | (simp; done) | (simp [*]; done)), H', ⟨by first | omega | exact Nat.le_refl _⟩, ⟨by repeat (first | (with_reducible first | exact HB.out | apply below_alloc | apply pw_below_drewN | apply below_drew1) | exact HB.out)⟩⟩
      · rw [if_neg c7] at H
        have c7b0 : decide (12 < (l0.length : Int)) = false := decide_eq_false c7
        have c7b1 : decide (12 < l0.length) = false := decide_eq_false (by omega)
        clear c7
        (first | rw [c7b0] | (simp only [i64_w, i32_w]; rw [c7b0]) | skip)
        have H' := Aside0.mk H
        clear H
        go_wp2
        repeat (go_quiet (fail); try go_wp2)
        go_meet
        case rel => exact ⟨_, (decide ((a1.size : Int) > 300)), (by first | rfl | (simp; done) | (simp [*]; done)), H', ⟨by first | omega | exact Nat.le_refl _⟩, ⟨by repeat (first | (with_reducible first | exact HB.out | apply below_alloc | apply pw_below_drewN | apply below_drew1) | exact HB.out)⟩⟩
    case rest =>
      clear HC5
      try clear p2
      try clear c4
      try clear c7
      try clear c7b0
      try clear c7b1
      obtain ⟨kq, x27_4, rfl, HA, HJ4, HB⟩ := hcut
      cases kq with
      | zero => exact absurd HA.out (by simp [usufructlaw02_LabelKeys.j0])
      | succ kj4 =>
        have H := HA.out
        clear HA
        simp only [usufructlaw02_LabelKeys.j0] at H
        by_cases c8 : x27_4 = true
        · subst c8
          have H1 : (some true) = some r := by rw [if_pos rfl] at H; exact H
          clear H
          have H := H1
          clear H1
          obtain rfl := Option.some.inj H
          go_wp2
          repeat (go_quiet (fail); try go_wp2)
          go_ret
          exact ⟨by first | rfl | (simp [errW_none, errW_some] <;> rfl) | (simp [*, errW_none, errW_some] <;> rfl), by repeat (first | (with_reducible first | exact HB.out | apply below_alloc | apply pw_below_drewN | apply below_drew1) | exact HB.out)⟩
        · replace c8 := Bool.eq_false_iff.mpr c8
          subst c8
          have H1 : (usufructlaw02_LabelKeys.l0 kj4 l0 a1 0) = some r := by rw [if_neg (show ¬ (false = true) by decide)] at H; exact H
          clear H
          have H := H1
          clear H1
          have H' := Aside0.mk H
          clear H
          go_wp2
          repeat (go_quiet (fail); try go_wp2)
          go_loopg [5] kj4 (fun kq v5 w' => ∃ (x5_2 : Int), v5 = .int .i64 x5_2 ∧ Aside0 (usufructlaw02_LabelKeys.l0 kq l0 a1 x5_2 = some r) ∧ Aside0 (kq ≤ kj4) ∧ Aside0 (Below w.heap.size w w'))
          case atStart => exact ⟨(0), (by first | rfl | (simp; done) | (simp [*]; done)), H', ⟨Nat.le_refl _⟩, ⟨by repeat (first | (with_reducible first | exact HB.out | apply below_alloc | apply pw_below_drewN | apply below_drew1) | exact HB.out)⟩⟩
          case round =>
            clear H'
            try clear p2
            try clear c4
            try clear c7
            try clear c7b0
            try clear c7b1
            try clear c8
            try clear p2
            obtain ⟨x5_2, rfl, HA, HK2, HB⟩ := hrel
            cases gk with
            | zero => exact absurd HA.out (by simp [usufructlaw02_LabelKeys.l0])
            | succ k2 =>
              have H := HA.out
              clear HA
              simp only [usufructlaw02_LabelKeys.l0] at H
              by_cases c9 : x5_2 < (l0.length : Int)
              · rw [if_pos c9] at H
                have c9b0 : decide (x5_2 < (l0.length : Int)) = true := decide_eq_true c9
                clear c9
                by_cases c10 : 0 ≤ x5_2
                · rw [if_pos c10] at H
                  have c10b0 : decide (0 ≤ x5_2) = true := decide_eq_true c10
                  clear c10
                  by_cases c11 : ((rdOf ByteArray.empty l0 x5_2).size : Int) > 100
                  · rw [if_pos c11] at H
                    have c11b0 : decide (100 < ((rdOf ByteArray.empty l0 x5_2).size : Int)) = true := decide_eq_true c11
                    have c11b1 : decide (100 < (rdOf ByteArray.empty l0 x5_2).size) = true := decide_eq_true (by omega)
                    clear c11
                    obtain rfl := Option.some.inj H
                    have p187 : 0 ≤ (x5_2 : Int) := of_decide_eq_true (by first | (with_reducible assumption) | assumption)
                    have q187 : x5_2 < (l0.length : Int) := of_decide_eq_true (by first | (with_reducible assumption) | assumption)
                    obtain ⟨ad187, e187, hx187_0⟩ := Kd.at_string HR0.out x5_2 p187 q187
                    cases e187
                    replace hx187_0 := (HB.out.cell (World.block_lt_of_cell? w _ hx187_0)).trans hx187_0
                    replace p187 := eq_true p187
                    replace q187 := eq_true q187
                    go_wp2
                    repeat (go_quiet (fail); try go_wp2)
                    go_ret
                    exact ⟨by first | rfl | (simp [errW_none, errW_some] <;> rfl) | (simp [*, errW_none, errW_some] <;> rfl), by repeat (first | (with_reducible first | exact HB.out | apply below_alloc | apply pw_below_drewN | apply below_drew1) | exact HB.out)⟩
                  · rw [if_neg c11] at H
                    have c11b0 : decide (100 < ((rdOf ByteArray.empty l0 x5_2).size : Int)) = false := decide_eq_false c11
                    have c11b1 : decide (100 < (rdOf ByteArray.empty l0 x5_2).size) = false := decide_eq_false (by omega)
                    clear c11
                    have H' := Aside0.mk H
                    clear H
                    have p187 : 0 ≤ (x5_2 : Int) := of_decide_eq_true (by first | (with_reducible assumption) | assumption)
                    have q187 : x5_2 < (l0.length : Int) := of_decide_eq_true (by first | (with_reducible assumption) | assumption)
                    obtain ⟨ad187, e187, hx187_0⟩ := Kd.at_string HR0.out x5_2 p187 q187
                    cases e187
                    replace hx187_0 := (HB.out.cell (World.block_lt_of_cell? w _ hx187_0)).trans hx187_0
                    replace p187 := eq_true p187
                    replace q187 := eq_true q187
                    go_wp2
                    repeat (go_quiet (fail); try go_wp2)
                    go_roundg k2
                    case measure => have := HJ4.out; have := HK2.out; omega
                    case rel => exact ⟨(wrap64 (x5_2 + 1)), (by first | rfl | (simp; done) | (simp [*]; done)), H', ⟨by have := HJ4.out; have := HK2.out; omega⟩, ⟨by repeat (first | (with_reducible first | exact HB.out | apply below_alloc | apply pw_below_drewN | apply below_drew1) | exact HB.out)⟩⟩
                · rw [if_neg c10] at H
                  exact absurd H (by simp)
              · rw [if_neg c9] at H
                have c9b0 : decide (x5_2 < (l0.length : Int)) = false := decide_eq_false c9
                clear c9
                replace H := Option.bind_eq_some_iff.mp H
                obtain ⟨⟨t188, t189⟩, A120, H⟩ := H
                replace H : ((usufructref02_Key.f k2 l0).bind fun bt190 => (if t188.toList = bt190.1.toList then (usufructlaw02_LabelKeys.j2 k2 l0 a1 t188 t189 (t189 != bt190.2)) else (usufructlaw02_LabelKeys.j2 k2 l0 a1 t188 t189 true))) = some r := H
                have A12 := Aside0.mk A120
                clear A120
                replace H := Option.bind_eq_some_iff.mp H
                obtain ⟨⟨t190, t191⟩, A130, H⟩ := H
                replace H : (if t188.toList = t190.toList then (usufructlaw02_LabelKeys.j2 k2 l0 a1 t188 t189 (t189 != t191)) else (usufructlaw02_LabelKeys.j2 k2 l0 a1 t188 t189 true)) = some r := H
                have A13 := Aside0.mk A130
                clear A130
                have HC14 := Aside0.mk H
                clear H
                go_upto_region 12 with (first | (go_at_call 14; (with_reducible refine (label_Key.calls k2 _ _ l0 t188 t189 _ ?side1 ?side2 ?tab_ A12.out).mono ?_); (case tab_ => first | exact HTAB_.out | exact Tabs_.below HTAB_.out (by repeat (first | (with_reducible first | exact HB.out | apply below_alloc | apply pw_below_drewN | apply below_drew1) | exact HB.out))); (case side1 => repeat (first | exact (Kd.C_below HR0.out HB.out) | (with_reducible refine Kd.C_alloc ?_ _) | (with_reducible refine Kd.C_drewN ?_ _) | (with_reducible refine Kd.C_drew ?_))); (case side2 => exact HC0.out); rintro e w15 ⟨rfl, hb⟩; have n0_ := Aside0.mk (below_step (by repeat (first | (with_reducible first | exact HB.out | apply below_alloc | apply pw_below_drewN | apply below_drew1) | exact HB.out)) hb); clear HB; have HB := n0_; clear n0_; (try clear hb); (try clear hb2); (try clear hk); (try clear hi)) | (go_at_call 15; (with_reducible refine (usufructref02_Key.calls k2 _ _ l0 t190 t191 _ ?side1 ?side2 A13.out).mono ?_); (case side1 => repeat (first | exact (Kd.C_below HR0.out HB.out) | (with_reducible refine Kd.C_alloc ?_ _) | (with_reducible refine Kd.C_drewN ?_ _) | (with_reducible refine Kd.C_drew ?_))); (case side2 => exact HC0.out); rintro e w' ⟨rfl, ⟨nd, rfl⟩⟩; (try first | exact ⟨rfl, _, World.drewN_drewN _ _ _⟩ | exact ⟨rfl, _, Eq.trans (World.drewN_drewN _ _ _) (congrArg (World.drewN _) (Nat.add_assoc _ _ _))⟩)))
                repeat (go_quiet (first | (go_at_call 14; (with_reducible refine (label_Key.calls k2 _ _ l0 t188 t189 _ ?side1 ?side2 ?tab_ A12.out).mono ?_); (case tab_ => first | exact HTAB_.out | exact Tabs_.below HTAB_.out (by repeat (first | (with_reducible first | exact HB.out | apply below_alloc | apply pw_below_drewN | apply below_drew1) | exact HB.out))); (case side1 => repeat (first | exact (Kd.C_below HR0.out HB.out) | (with_reducible refine Kd.C_alloc ?_ _) | (with_reducible refine Kd.C_drewN ?_ _) | (with_reducible refine Kd.C_drew ?_))); (case side2 => exact HC0.out); rintro e w15 ⟨rfl, hb⟩; have n0_ := Aside0.mk (below_step (by repeat (first | (with_reducible first | exact HB.out | apply below_alloc | apply pw_below_drewN | apply below_drew1) | exact HB.out)) hb); clear HB; have HB := n0_; clear n0_; (try clear hb); (try clear hb2); (try clear hk); (try clear hi)) | (go_at_call 15; (with_reducible refine (usufructref02_Key.calls k2 _ _ l0 t190 t191 _ ?side1 ?side2 A13.out).mono ?_); (case side1 => repeat (first | exact (Kd.C_below HR0.out HB.out) | (with_reducible refine Kd.C_alloc ?_ _) | (with_reducible refine Kd.C_drewN ?_ _) | (with_reducible refine Kd.C_drew ?_))); (case side2 => exact HC0.out); rintro e w' ⟨rfl, ⟨nd, rfl⟩⟩; (try first | exact ⟨rfl, _, World.drewN_drewN _ _ _⟩ | exact ⟨rfl, _, Eq.trans (World.drewN_drewN _ _ _) (congrArg (World.drewN _) (Nat.add_assoc _ _ _))⟩))); go_upto_region 12 with (first | (go_at_call 14; (with_reducible refine (label_Key.calls k2 _ _ l0 t188 t189 _ ?side1 ?side2 ?tab_ A12.out).mono ?_); (case tab_ => first | exact HTAB_.out | exact Tabs_.below HTAB_.out (by repeat (first | (with_reducible first | exact HB.out | apply below_alloc | apply pw_below_drewN | apply below_drew1) | exact HB.out))); (case side1 => repeat (first | exact (Kd.C_below HR0.out HB.out) | (with_reducible refine Kd.C_alloc ?_ _) | (with_reducible refine Kd.C_drewN ?_ _) | (with_reducible refine Kd.C_drew ?_))); (case side2 => exact HC0.out); rintro e w15 ⟨rfl, hb⟩; have n0_ := Aside0.mk (below_step (by repeat (first | (with_reducible first | exact HB.out | apply below_alloc | apply pw_below_drewN | apply below_drew1) | exact HB.out)) hb); clear HB; have HB := n0_; clear n0_; (try clear hb); (try clear hb2); (try clear hk); (try clear hi)) | (go_at_call 15; (with_reducible refine (usufructref02_Key.calls k2 _ _ l0 t190 t191 _ ?side1 ?side2 A13.out).mono ?_); (case side1 => repeat (first | exact (Kd.C_below HR0.out HB.out) | (with_reducible refine Kd.C_alloc ?_ _) | (with_reducible refine Kd.C_drewN ?_ _) | (with_reducible refine Kd.C_drew ?_))); (case side2 => exact HC0.out); rintro e w' ⟨rfl, ⟨nd, rfl⟩⟩; (try first | exact ⟨rfl, _, World.drewN_drewN _ _ _⟩ | exact ⟨rfl, _, Eq.trans (World.drewN_drewN _ _ _) (congrArg (World.drewN _) (Nat.add_assoc _ _ _))⟩))))
                (try simp only [Act.put, List.setIfInBounds_toArray, List.set_cons_zero, List.set_cons_succ])
                go_cut [57] (fun v57 wc => ∃ (kq : Nat) (x57_13 : Bool), v57 = .bool x57_13 ∧ Aside0 (usufructlaw02_LabelKeys.j2 kq l0 a1 t188 t189 x57_13 = some r) ∧ Aside0 (kq ≤ k2) ∧ Aside0 (Below w.heap.size w wc))
                case first =>
                  have H := HC14.out
                  clear HC14
                  by_cases c16 : t188.toList = t190.toList
                  · rw [if_pos c16] at H
                    have c16b0 : (t188.toList == t190.toList) = true := beq_iff_eq.mpr c16
                    have c16b1 : (t188.toList != t190.toList) = false := bne_eq_false_iff_eq.mpr c16
                    clear c16
                    (first | rw [c16b0] | (simp only [i64_w, i32_w]; rw [c16b0]) | skip)
                    have H' := Aside0.mk H
                    clear H
                    go_wp2
                    repeat (go_quiet (fail); try go_wp2)
                    go_meet
                    case rel => exact ⟨_, ((t189 != t191)), (by first | rfl | (simp; done) | (simp [*]; done)), H', ⟨by have := HJ4.out; have := HK2.out; first | omega | exact Nat.le_refl _⟩, ⟨by repeat (first | (with_reducible first | exact HB.out | apply below_alloc | apply pw_below_drewN | apply below_drew1) | exact HB.out)⟩⟩
                  · rw [if_neg c16] at H
                    have c16b0 : (t188.toList == t190.toList) = false := beq_eq_false_iff_ne.mpr c16
                    have c16b1 : (t188.toList != t190.toList) = true := bne_iff_ne.mpr c16
                    (first | rw [c16b0] | (simp only [i64_w, i32_w]; rw [c16b0]) | skip)
                    have H' := Aside0.mk H
                    clear H
                    go_wp2
                    repeat (go_quiet (fail); try go_wp2)
                    go_meet
                    case rel => exact ⟨_, (true), (by first | rfl | (simp; done) | (simp [*]; done)), H', ⟨by have := HJ4.out; have := HK2.out; first | omega | exact Nat.le_refl _⟩, ⟨by repeat (first | (with_reducible first | exact HB.out | apply below_alloc | apply pw_below_drewN | apply below_drew1) | exact HB.out)⟩⟩
                case rest =>
                  clear HC14
                  try clear c1
                  try clear p1
                  try clear q1
                  try clear hx1
                  try clear p2
                  try clear c4
                  try clear p6
                  try clear c7
                  try clear c7b0
                  try clear c7b1
                  try clear c8
                  try clear c9
                  try clear c9b0
                  try clear c10
                  try clear c10b0
                  try clear c11
                  try clear c11b0
                  try clear c11b1
                  try clear c16
                  try clear c16b0
                  try clear c16b1
                  try clear hx187_0
                  try clear p187
                  try clear p2
                  try clear q187
                  obtain ⟨kq, x57_13, rfl, HA, HJ13, HB⟩ := hcut
                  cases kq with
                  | zero => exact absurd HA.out (by simp [usufructlaw02_LabelKeys.j2])
                  | succ kj13 =>
                    have H := HA.out
                    clear HA
                    simp only [usufructlaw02_LabelKeys.j2] at H
                    by_cases c17 : x57_13 = true
                    · subst c17
                      have H1 : (some false) = some r := by rw [if_pos rfl] at H; exact H
                      clear H
                      have H := H1
                      clear H1
                      obtain rfl := Option.some.inj H
                      go_wp2
                      repeat (go_quiet (fail); try go_wp2)
                      go_ret
                      exact ⟨by first | rfl | (simp [errW_none, errW_some] <;> rfl) | (simp [*, errW_none, errW_some] <;> rfl), by repeat (first | (with_reducible first | exact HB.out | apply below_alloc | apply pw_below_drewN | apply below_drew1) | exact HB.out)⟩
                    · replace c17 := Bool.eq_false_iff.mpr c17
                      subst c17
                      have H1 : (if t189 = true then ((label_Cut.f kj13 t188).bind fun bt192 => (if bt192.2 = true then (usufructlaw02_LabelKeys.j3 kj13 l0 a1 bt192.1 ((bt192.1.length : Int) != (l0.length : Int))) else (usufructlaw02_LabelKeys.j3 kj13 l0 a1 bt192.1 true))) else (usufructlaw02_LabelKeys.j5 kj13 a1)) = some r := by rw [if_neg (show ¬ (false = true) by decide)] at H; exact H
                      clear H
                      have H := H1
                      clear H1
                      have HC18 := Aside0.mk H
                      clear H
                      go_upto_if 58 with (fail)
                      repeat (go_quiet (fail); go_upto_if 58 with (fail))
                      go_cut [] (fun wc => ∃ (kq : Nat), Aside0 (usufructlaw02_LabelKeys.j5 kq a1 = some r) ∧ Aside0 (kq ≤ kj13) ∧ Aside0 (Below w.heap.size w wc))
                      case first =>
                        have H := HC18.out
                        clear HC18
                        by_cases c19 : t189 = true
                        · subst c19
                          have H1 : ((label_Cut.f kj13 t188).bind fun bt192 => (if bt192.2 = true then (usufructlaw02_LabelKeys.j3 kj13 l0 a1 bt192.1 ((bt192.1.length : Int) != (l0.length : Int))) else (usufructlaw02_LabelKeys.j3 kj13 l0 a1 bt192.1 true))) = some r := by rw [if_pos rfl] at H; exact H
                          clear H
                          have H := H1
                          clear H1
                          replace H := Option.bind_eq_some_iff.mp H
                          obtain ⟨⟨t192, t193⟩, A200, H⟩ := H
                          replace H : (if t193 = true then (usufructlaw02_LabelKeys.j3 kj13 l0 a1 t192 ((t192.length : Int) != (l0.length : Int))) else (usufructlaw02_LabelKeys.j3 kj13 l0 a1 t192 true)) = some r := H
                          have A20 := Aside0.mk A200
                          clear A200
                          have HC21 := Aside0.mk H
                          clear H
                          go_upto_region 16 with (first | (go_at_call 16; (with_reducible refine (label_Cut.calls kj13 t188 t192 t193 _ ?tab_ A20.out).mono ?_); (case tab_ => first | exact HTAB_.out | exact Tabs_.below HTAB_.out (by repeat (first | (with_reducible first | exact HB.out | apply below_alloc | apply pw_below_drewN | apply below_drew1) | exact HB.out))); rintro e w22 ⟨v194, rfl, ho0, hb⟩; have n0_ := Aside0.mk (Kd.R_lower ho0 (below_size (by repeat (first | (with_reducible first | exact HB.out | apply below_alloc | apply pw_below_drewN | apply below_drew1) | exact HB.out)))); have n1_ := Aside0.mk (below_step (by repeat (first | (with_reducible first | exact HB.out | apply below_alloc | apply pw_below_drewN | apply below_drew1) | exact HB.out)) hb); clear HB; have HO195 := n0_; have HB := n1_; clear n0_ n1_; (try clear hb); (try clear hb2); (try clear hk); (try clear hi); (try clear ho0)))
                          repeat (go_quiet (first | (go_at_call 16; (with_reducible refine (label_Cut.calls kj13 t188 t192 t193 _ ?tab_ A20.out).mono ?_); (case tab_ => first | exact HTAB_.out | exact Tabs_.below HTAB_.out (by repeat (first | (with_reducible first | exact HB.out | apply below_alloc | apply pw_below_drewN | apply below_drew1) | exact HB.out))); rintro e w22 ⟨v194, rfl, ho0, hb⟩; have n0_ := Aside0.mk (Kd.R_lower ho0 (below_size (by repeat (first | (with_reducible first | exact HB.out | apply below_alloc | apply pw_below_drewN | apply below_drew1) | exact HB.out)))); have n1_ := Aside0.mk (below_step (by repeat (first | (with_reducible first | exact HB.out | apply below_alloc | apply pw_below_drewN | apply below_drew1) | exact HB.out)) hb); clear HB; have HO195 := n0_; have HB := n1_; clear n0_ n1_; (try clear hb); (try clear hb2); (try clear hk); (try clear hi); (try clear ho0))); go_upto_region 16 with (first | (go_at_call 16; (with_reducible refine (label_Cut.calls kj13 t188 t192 t193 _ ?tab_ A20.out).mono ?_); (case tab_ => first | exact HTAB_.out | exact Tabs_.below HTAB_.out (by repeat (first | (with_reducible first | exact HB.out | apply below_alloc | apply pw_below_drewN | apply below_drew1) | exact HB.out))); rintro e w22 ⟨v194, rfl, ho0, hb⟩; have n0_ := Aside0.mk (Kd.R_lower ho0 (below_size (by repeat (first | (with_reducible first | exact HB.out | apply below_alloc | apply pw_below_drewN | apply below_drew1) | exact HB.out)))); have n1_ := Aside0.mk (below_step (by repeat (first | (with_reducible first | exact HB.out | apply below_alloc | apply pw_below_drewN | apply below_drew1) | exact HB.out)) hb); clear HB; have HO195 := n0_; have HB := n1_; clear n0_ n1_; (try clear hb); (try clear hb2); (try clear hk); (try clear hi); (try clear ho0))))
                          (try simp only [Act.put, List.setIfInBounds_toArray, List.set_cons_zero, List.set_cons_succ])
                          go_cut [72] (fun v72 wc => ∃ (kq : Nat) (x72_20 : Bool), v72 = .bool x72_20 ∧ Aside0 (usufructlaw02_LabelKeys.j3 kq l0 a1 t192 x72_20 = some r) ∧ Aside0 (kq ≤ kj13) ∧ Aside0 (Kd.R Kd.string 9 wc w.heap.size (fun _ => True) v194 t192) ∧ Aside0 (Below w.heap.size w wc))
                          case first =>
                            have H := HC21.out
                            clear HC21
                            by_cases c23 : t193 = true
                            · subst c23
                              have H1 : (usufructlaw02_LabelKeys.j3 kj13 l0 a1 t192 ((t192.length : Int) != (l0.length : Int))) = some r := by rw [if_pos rfl] at H; exact H
                              clear H
                              have H := H1
                              clear H1
                              have H' := Aside0.mk H
                              clear H
                              obtain ⟨Ao24, co24, eo24⟩ := Kd.R_slice HO195.out
                              subst eo24
                              go_wp2
                              repeat (go_quiet (fail); try go_wp2)
                              go_meet
                              case rel => exact ⟨_, (((t192.length : Int) != (l0.length : Int))), (by first | rfl | (simp; done) | (simp [*]; done)), H', ⟨by have := HJ4.out; have := HK2.out; have := HJ13.out; first | omega | exact Nat.le_refl _⟩, ⟨by (with_reducible repeat (first | apply Kd.R_alloc | apply Kd.R_drewN | apply Kd.R_drew)); exact HO195.out⟩, ⟨by repeat (first | (with_reducible first | exact HB.out | apply below_alloc | apply pw_below_drewN | apply below_drew1) | exact HB.out)⟩⟩
                            · replace c23 := Bool.eq_false_iff.mpr c23
                              subst c23
                              have H1 : (usufructlaw02_LabelKeys.j3 kj13 l0 a1 t192 true) = some r := by rw [if_neg (show ¬ (false = true) by decide)] at H; exact H
                              clear H
                              have H := H1
                              clear H1
                              have H' := Aside0.mk H
                              clear H
                              go_wp2
                              repeat (go_quiet (fail); try go_wp2)
                              go_meet
                              case rel => exact ⟨_, (true), (by first | rfl | (simp; done) | (simp [*]; done)), H', ⟨by have := HJ4.out; have := HK2.out; have := HJ13.out; first | omega | exact Nat.le_refl _⟩, ⟨by (with_reducible repeat (first | apply Kd.R_alloc | apply Kd.R_drewN | apply Kd.R_drew)); exact HO195.out⟩, ⟨by repeat (first | (with_reducible first | exact HB.out | apply below_alloc | apply pw_below_drewN | apply below_drew1) | exact HB.out)⟩⟩
                          case rest =>
                            clear HC21
                            try clear c1
                            try clear p1
                            try clear q1
                            try clear hx1
                            try clear c2
                            try clear p2
                            try clear c4
                            try clear p6
                            try clear c7
                            try clear c7b0
                            try clear c7b1
                            try clear c8
                            try clear c9
                            try clear c9b0
                            try clear c10
                            try clear c10b0
                            try clear c11
                            try clear c11b0
                            try clear c11b1
                            try clear c16
                            try clear c16b0
                            try clear c16b1
                            try clear c17
                            try clear p18
                            try clear q18
                            try clear hx18
                            try clear c19
                            try clear c23
                            try clear hx187_0
                            try clear p1
                            try clear p187
                            try clear p2
                            try clear p6
                            try clear q1
                            try clear q187
                            obtain ⟨kq, x72_20, rfl, HA, HJ20, HO_10, HB⟩ := hcut
                            cases kq with
                            | zero => exact absurd HA.out (by simp [usufructlaw02_LabelKeys.j3])
                            | succ kj20 =>
                              have H := HA.out
                              clear HA
                              simp only [usufructlaw02_LabelKeys.j3] at H
                              by_cases c25 : x72_20 = true
                              · subst c25
                                have H1 : (some false) = some r := by rw [if_pos rfl] at H; exact H
                                clear H
                                have H := H1
                                clear H1
                                obtain rfl := Option.some.inj H
                                go_wp2
                                repeat (go_quiet (fail); try go_wp2)
                                go_ret
                                exact ⟨by first | rfl | (simp [errW_none, errW_some] <;> rfl) | (simp [*, errW_none, errW_some] <;> rfl), by repeat (first | (with_reducible first | exact HB.out | apply below_alloc | apply pw_below_drewN | apply below_drew1) | exact HB.out)⟩
                              · replace c25 := Bool.eq_false_iff.mpr c25
                                subst c25
                                have H1 : (usufructlaw02_LabelKeys.l1 kj20 l0 a1 t192 0) = some r := by rw [if_neg (show ¬ (false = true) by decide)] at H; exact H
                                clear H
                                have H := H1
                                clear H1
                                have H' := Aside0.mk H
                                clear H
                                go_wp2
                                repeat (go_quiet (fail); try go_wp2)
                                go_loopg [12] kj20 (fun kq v12 w' => ∃ (x12_5 : Int), v12 = .int .i64 x12_5 ∧ Aside0 (usufructlaw02_LabelKeys.l1 kq l0 a1 t192 x12_5 = some r) ∧ Aside0 (kq ≤ kj20) ∧ Aside0 (Kd.R Kd.string 9 w' w.heap.size (fun _ => True) v194 t192) ∧ Aside0 (Below w.heap.size w w'))
                                case atStart => exact ⟨(0), (by first | rfl | (simp; done) | (simp [*]; done)), H', ⟨Nat.le_refl _⟩, ⟨by (with_reducible repeat (first | apply Kd.R_alloc | apply Kd.R_drewN | apply Kd.R_drew)); exact HO_10.out⟩, ⟨by repeat (first | (with_reducible first | exact HB.out | apply below_alloc | apply pw_below_drewN | apply below_drew1) | exact HB.out)⟩⟩
                                case round =>
                                  clear H'
                                  try clear c1
                                  try clear p1
                                  try clear q1
                                  try clear hx1
                                  try clear c2
                                  try clear p2
                                  try clear c4
                                  try clear p6
                                  try clear c7
                                  try clear c7b0
                                  try clear c7b1
                                  try clear c8
                                  try clear c9
                                  try clear c9b0
                                  try clear c10
                                  try clear c10b0
                                  try clear c11
                                  try clear c11b0
                                  try clear c11b1
                                  try clear c16
                                  try clear c16b0
                                  try clear c16b1
                                  try clear c17
                                  try clear p18
                                  try clear q18
                                  try clear hx18
                                  try clear c19
                                  try clear c23
                                  try clear c25
                                  try clear hx187_0
                                  try clear p1
                                  try clear p18
                                  try clear p187
                                  try clear p2
                                  try clear p6
                                  try clear q1
                                  try clear q18
                                  try clear q187
                                  obtain ⟨x12_5, rfl, HA, HK5, HO_10, HB⟩ := hrel
                                  cases gk with
                                  | zero => exact absurd HA.out (by simp [usufructlaw02_LabelKeys.l1])
                                  | succ k5 =>
                                    have H := HA.out
                                    clear HA
                                    simp only [usufructlaw02_LabelKeys.l1] at H
                                    by_cases c26 : x12_5 < (l0.length : Int)
                                    · rw [if_pos c26] at H
                                      have c26b0 : decide (x12_5 < (l0.length : Int)) = true := decide_eq_true c26
                                      clear c26
                                      by_cases c27 : 0 ≤ x12_5
                                      · rw [if_pos c27] at H
                                        have c27b0 : decide (0 ≤ x12_5) = true := decide_eq_true c27
                                        clear c27
                                        by_cases c28 : x12_5 < (t192.length : Int)
                                        · rw [if_pos c28] at H
                                          have c28b0 : decide (x12_5 < (t192.length : Int)) = true := decide_eq_true c28
                                          clear c28
                                          by_cases c29 : (rdOf ByteArray.empty t192 x12_5).toList = (rdOf ByteArray.empty l0 x12_5).toList
                                          · rw [if_pos c29] at H
                                            have c29b0 : ((rdOf ByteArray.empty t192 x12_5).toList == (rdOf ByteArray.empty l0 x12_5).toList) = true := beq_iff_eq.mpr c29
                                            have c29b1 : ((rdOf ByteArray.empty t192 x12_5).toList != (rdOf ByteArray.empty l0 x12_5).toList) = false := bne_eq_false_iff_eq.mpr c29
                                            clear c29
                                            have H' := Aside0.mk H
                                            clear H
                                            obtain ⟨Ao30, co30, eo30⟩ := Kd.R_slice HO_10.out
                                            subst eo30
                                            have p196 : 0 ≤ (x12_5 : Int) := of_decide_eq_true (by first | (with_reducible assumption) | assumption)
                                            have q196 : x12_5 < (t192.length : Int) := of_decide_eq_true (by first | (with_reducible assumption) | assumption)
                                            obtain ⟨ad196, e196, hx196_0⟩ := Kd.at_string (Kd.R_reads' HO_10.out).2.2 x12_5 p196 q196
                                            cases e196
                                            replace p196 := eq_true p196
                                            replace q196 := eq_true q196
                                            have p197 : 0 ≤ (x12_5 : Int) := of_decide_eq_true (by first | (with_reducible assumption) | assumption)
                                            have q197 : x12_5 < (l0.length : Int) := of_decide_eq_true (by first | (with_reducible assumption) | assumption)
                                            obtain ⟨ad197, e197, hx197_0⟩ := Kd.at_string HR0.out x12_5 p197 q197
                                            cases e197
                                            replace hx197_0 := (HB.out.cell (World.block_lt_of_cell? w _ hx197_0)).trans hx197_0
                                            replace p197 := eq_true p197
                                            replace q197 := eq_true q197
                                            go_wp2
                                            repeat (go_quiet (fail); try go_wp2)
                                            go_roundg k5
                                            case measure => have := HJ4.out; have := HK2.out; have := HJ13.out; have := HJ20.out; have := HK5.out; omega
                                            case rel => exact ⟨(wrap64 (x12_5 + 1)), (by first | rfl | (simp; done) | (simp [*]; done)), H', ⟨by have := HJ4.out; have := HK2.out; have := HJ13.out; have := HJ20.out; have := HK5.out; omega⟩, ⟨by (with_reducible repeat (first | apply Kd.R_alloc | apply Kd.R_drewN | apply Kd.R_drew)); exact HO_10.out⟩, ⟨by repeat (first | (with_reducible first | exact HB.out | apply below_alloc | apply pw_below_drewN | apply below_drew1) | exact HB.out)⟩⟩
                                          · rw [if_neg c29] at H
                                            have c29b0 : ((rdOf ByteArray.empty t192 x12_5).toList == (rdOf ByteArray.empty l0 x12_5).toList) = false := beq_eq_false_iff_ne.mpr c29
                                            have c29b1 : ((rdOf ByteArray.empty t192 x12_5).toList != (rdOf ByteArray.empty l0 x12_5).toList) = true := bne_iff_ne.mpr c29
                                            obtain rfl := Option.some.inj H
                                            obtain ⟨Ao31, co31, eo31⟩ := Kd.R_slice HO_10.out
                                            subst eo31
                                            have p196 : 0 ≤ (x12_5 : Int) := of_decide_eq_true (by first | (with_reducible assumption) | assumption)
                                            have q196 : x12_5 < (t192.length : Int) := of_decide_eq_true (by first | (with_reducible assumption) | assumption)
                                            obtain ⟨ad196, e196, hx196_0⟩ := Kd.at_string (Kd.R_reads' HO_10.out).2.2 x12_5 p196 q196
                                            cases e196
                                            replace p196 := eq_true p196
                                            replace q196 := eq_true q196
                                            have p197 : 0 ≤ (x12_5 : Int) := of_decide_eq_true (by first | (with_reducible assumption) | assumption)
                                            have q197 : x12_5 < (l0.length : Int) := of_decide_eq_true (by first | (with_reducible assumption) | assumption)
                                            obtain ⟨ad197, e197, hx197_0⟩ := Kd.at_string HR0.out x12_5 p197 q197
                                            cases e197
                                            replace hx197_0 := (HB.out.cell (World.block_lt_of_cell? w _ hx197_0)).trans hx197_0
                                            replace p197 := eq_true p197
                                            replace q197 := eq_true q197
                                            go_wp2
                                            repeat (go_quiet (fail); try go_wp2)
                                            go_ret
                                            exact ⟨by first | rfl | (simp [errW_none, errW_some] <;> rfl) | (simp [*, errW_none, errW_some] <;> rfl), by repeat (first | (with_reducible first | exact HB.out | apply below_alloc | apply pw_below_drewN | apply below_drew1) | exact HB.out)⟩
                                        · rw [if_neg c28] at H
                                          exact absurd H (by simp)
                                      · rw [if_neg c27] at H
                                        exact absurd H (by simp)
                                    · rw [if_neg c26] at H
                                      have c26b0 : decide (x12_5 < (l0.length : Int)) = false := decide_eq_false c26
                                      clear c26
                                      have H' := Aside0.mk H
                                      clear H
                                      go_wp2
                                      repeat (go_quiet (fail); try go_wp2)
                                      go_meet
                                      case rel => exact ⟨_, H', ⟨by have := HJ4.out; have := HK2.out; have := HJ13.out; have := HJ20.out; have := HK5.out; first | omega | exact Nat.le_refl _⟩, ⟨by repeat (first | (with_reducible first | exact HB.out | apply below_alloc | apply pw_below_drewN | apply below_drew1) | exact HB.out)⟩⟩
                        · replace c19 := Bool.eq_false_iff.mpr c19
                          subst c19
                          have H1 : (usufructlaw02_LabelKeys.j5 kj13 a1) = some r := by rw [if_neg (show ¬ (false = true) by decide)] at H; exact H
                          clear H
                          have H := H1
                          clear H1
                          have H' := Aside0.mk H
                          clear H
                          go_wp2
                          repeat (go_quiet (fail); try go_wp2)
                          go_meet
                          case rel => exact ⟨_, H', ⟨by have := HJ4.out; have := HK2.out; have := HJ13.out; first | omega | exact Nat.le_refl _⟩, ⟨by repeat (first | (with_reducible first | exact HB.out | apply below_alloc | apply pw_below_drewN | apply below_drew1) | exact HB.out)⟩⟩
                      case rest =>
                        clear HC18
                        try clear c1
                        try clear p1
                        try clear q1
                        try clear hx1
                        try clear c2
                        try clear p2
                        try clear c4
                        try clear p6
                        try clear c7
                        try clear c7b0
                        try clear c7b1
                        try clear c8
                        try clear c9
                        try clear c9b0
                        try clear c10
                        try clear c10b0
                        try clear c11
                        try clear c11b0
                        try clear c11b1
                        try clear c16
                        try clear c16b0
                        try clear c16b1
                        try clear c17
                        try clear p18
                        try clear q18
                        try clear hx18
                        try clear c19
                        try clear p19
                        try clear q19
                        try clear hx19
                        try clear c23
                        try clear c25
                        try clear c26
                        try clear c26b0
                        try clear c27
                        try clear c27b0
                        try clear c28
                        try clear c28b0
                        try clear c29
                        try clear c29b0
                        try clear c29b1
                        try clear hx187_0
                        try clear hx196_0
                        try clear hx197_0
                        try clear p1
                        try clear p18
                        try clear p187
                        try clear p196
                        try clear p197
                        try clear p2
                        try clear p6
                        try clear q1
                        try clear q18
                        try clear q187
                        try clear q196
                        try clear q197
                        obtain ⟨kq, HA, HJ17, HB⟩ := hcut
                        cases kq with
                        | zero => exact absurd HA.out (by simp [usufructlaw02_LabelKeys.j5])
                        | succ kj17 =>
                          have H := HA.out
                          clear HA
                          simp only [usufructlaw02_LabelKeys.j5] at H
                          replace H := Option.bind_eq_some_iff.mp H
                          obtain ⟨⟨t198, t199⟩, A320, H⟩ := H
                          replace H : ((usufructref02_Cut.f kj17 a1).bind fun bt202 => (if (t199 != bt202.2) = true then (usufructlaw02_LabelKeys.j6 kj17 t198 bt202.1 true) else (usufructlaw02_LabelKeys.j6 kj17 t198 bt202.1 ((t198.length : Int) != (bt202.1.length : Int))))) = some r := H
                          have A32 := Aside0.mk A320
                          clear A320
                          replace H := Option.bind_eq_some_iff.mp H
                          obtain ⟨⟨t202, t203⟩, A330, H⟩ := H
                          replace H : (if (t199 != t203) = true then (usufructlaw02_LabelKeys.j6 kj17 t198 t202 true) else (usufructlaw02_LabelKeys.j6 kj17 t198 t202 ((t198.length : Int) != (t202.length : Int)))) = some r := H
                          have A33 := Aside0.mk A330
                          clear A330
                          have HC34 := Aside0.mk H
                          clear H
                          go_upto_region 25 with (first | (go_at_call 16; (with_reducible refine (label_Cut.calls kj17 a1 t198 t199 _ ?tab_ A32.out).mono ?_); (case tab_ => first | exact HTAB_.out | exact Tabs_.below HTAB_.out (by repeat (first | (with_reducible first | exact HB.out | apply below_alloc | apply pw_below_drewN | apply below_drew1) | exact HB.out))); rintro e w35 ⟨v200, rfl, ho0, hb⟩; have n0_ := Aside0.mk (Kd.R_lower ho0 (below_size (by repeat (first | (with_reducible first | exact HB.out | apply below_alloc | apply pw_below_drewN | apply below_drew1) | exact HB.out)))); have n1_ := Aside0.mk (below_step (by repeat (first | (with_reducible first | exact HB.out | apply below_alloc | apply pw_below_drewN | apply below_drew1) | exact HB.out)) hb); clear HB; have HO201 := n0_; have HB := n1_; clear n0_ n1_; (try clear hb); (try clear hb2); (try clear hk); (try clear hi); (try clear ho0)) | (go_at_call 17; (with_reducible refine (usufructref02_Cut.calls kj17 a1 t202 t203 _ A33.out).mono ?_); rintro e w36 ⟨v204, rfl, ho0, hb⟩; have n0_ := Aside0.mk (Kd.R_elder' (by (with_reducible repeat (first | apply Kd.R_alloc | apply Kd.R_drewN | apply Kd.R_drew)); exact HO201.out) (Kd.R_base ho0) hb); have n1_ := Aside0.mk (Kd.R_lower (Kd.R_new' ho0 (Kd.R_lt (by (with_reducible repeat (first | apply Kd.R_alloc | apply Kd.R_drewN | apply Kd.R_drew)); exact HO201.out))) (below_size (by repeat (first | (with_reducible first | exact HB.out | apply below_alloc | apply pw_below_drewN | apply below_drew1) | exact HB.out)))); have n2_ := Aside0.mk (below_step (by repeat (first | (with_reducible first | exact HB.out | apply below_alloc | apply pw_below_drewN | apply below_drew1) | exact HB.out)) hb); clear HO201; clear HB; have HO201 := n0_; have HO205 := n1_; have HB := n2_; clear n0_ n1_ n2_; (try clear hb); (try clear hb2); (try clear hk); (try clear hi); (try clear ho0)))
                          repeat (go_quiet (first | (go_at_call 16; (with_reducible refine (label_Cut.calls kj17 a1 t198 t199 _ ?tab_ A32.out).mono ?_); (case tab_ => first | exact HTAB_.out | exact Tabs_.below HTAB_.out (by repeat (first | (with_reducible first | exact HB.out | apply below_alloc | apply pw_below_drewN | apply below_drew1) | exact HB.out))); rintro e w35 ⟨v200, rfl, ho0, hb⟩; have n0_ := Aside0.mk (Kd.R_lower ho0 (below_size (by repeat (first | (with_reducible first | exact HB.out | apply below_alloc | apply pw_below_drewN | apply below_drew1) | exact HB.out)))); have n1_ := Aside0.mk (below_step (by repeat (first | (with_reducible first | exact HB.out | apply below_alloc | apply pw_below_drewN | apply below_drew1) | exact HB.out)) hb); clear HB; have HO201 := n0_; have HB := n1_; clear n0_ n1_; (try clear hb); (try clear hb2); (try clear hk); (try clear hi); (try clear ho0)) | (go_at_call 17; (with_reducible refine (usufructref02_Cut.calls kj17 a1 t202 t203 _ A33.out).mono ?_); rintro e w36 ⟨v204, rfl, ho0, hb⟩; have n0_ := Aside0.mk (Kd.R_elder' (by (with_reducible repeat (first | apply Kd.R_alloc | apply Kd.R_drewN | apply Kd.R_drew)); exact HO201.out) (Kd.R_base ho0) hb); have n1_ := Aside0.mk (Kd.R_lower (Kd.R_new' ho0 (Kd.R_lt (by (with_reducible repeat (first | apply Kd.R_alloc | apply Kd.R_drewN | apply Kd.R_drew)); exact HO201.out))) (below_size (by repeat (first | (with_reducible first | exact HB.out | apply below_alloc | apply pw_below_drewN | apply below_drew1) | exact HB.out)))); have n2_ := Aside0.mk (below_step (by repeat (first | (with_reducible first | exact HB.out | apply below_alloc | apply pw_below_drewN | apply below_drew1) | exact HB.out)) hb); clear HO201; clear HB; have HO201 := n0_; have HO205 := n1_; have HB := n2_; clear n0_ n1_ n2_; (try clear hb); (try clear hb2); (try clear hk); (try clear hi); (try clear ho0))); go_upto_region 25 with (first | (go_at_call 16; (with_reducible refine (label_Cut.calls kj17 a1 t198 t199 _ ?tab_ A32.out).mono ?_); (case tab_ => first | exact HTAB_.out | exact Tabs_.below HTAB_.out (by repeat (first | (with_reducible first | exact HB.out | apply below_alloc | apply pw_below_drewN | apply below_drew1) | exact HB.out))); rintro e w35 ⟨v200, rfl, ho0, hb⟩; have n0_ := Aside0.mk (Kd.R_lower ho0 (below_size (by repeat (first | (with_reducible first | exact HB.out | apply below_alloc | apply pw_below_drewN | apply below_drew1) | exact HB.out)))); have n1_ := Aside0.mk (below_step (by repeat (first | (with_reducible first | exact HB.out | apply below_alloc | apply pw_below_drewN | apply below_drew1) | exact HB.out)) hb); clear HB; have HO201 := n0_; have HB := n1_; clear n0_ n1_; (try clear hb); (try clear hb2); (try clear hk); (try clear hi); (try clear ho0)) | (go_at_call 17; (with_reducible refine (usufructref02_Cut.calls kj17 a1 t202 t203 _ A33.out).mono ?_); rintro e w36 ⟨v204, rfl, ho0, hb⟩; have n0_ := Aside0.mk (Kd.R_elder' (by (with_reducible repeat (first | apply Kd.R_alloc | apply Kd.R_drewN | apply Kd.R_drew)); exact HO201.out) (Kd.R_base ho0) hb); have n1_ := Aside0.mk (Kd.R_lower (Kd.R_new' ho0 (Kd.R_lt (by (with_reducible repeat (first | apply Kd.R_alloc | apply Kd.R_drewN | apply Kd.R_drew)); exact HO201.out))) (below_size (by repeat (first | (with_reducible first | exact HB.out | apply below_alloc | apply pw_below_drewN | apply below_drew1) | exact HB.out)))); have n2_ := Aside0.mk (below_step (by repeat (first | (with_reducible first | exact HB.out | apply below_alloc | apply pw_below_drewN | apply below_drew1) | exact HB.out)) hb); clear HO201; clear HB; have HO201 := n0_; have HO205 := n1_; have HB := n2_; clear n0_ n1_ n2_; (try clear hb); (try clear hb2); (try clear hk); (try clear hi); (try clear ho0))))
                          (try simp only [Act.put, List.setIfInBounds_toArray, List.set_cons_zero, List.set_cons_succ])
                          go_cut [107] (fun v107 wc => ∃ (kq : Nat) (x107_33 : Bool), v107 = .bool x107_33 ∧ Aside0 (usufructlaw02_LabelKeys.j6 kq t198 t202 x107_33 = some r) ∧ Aside0 (kq ≤ kj17) ∧ Aside0 (Kd.R Kd.string 9 wc w.heap.size (fun k_ => some k_ ≠ (v204 : Value).ownBlock) v200 t198) ∧ Aside0 (Kd.R Kd.string 9 wc w.heap.size (fun k_ => some k_ ≠ (v200 : Value).ownBlock) v204 t202) ∧ Aside0 (Below w.heap.size w wc))
                          case first =>
                            have H := HC34.out
                            clear HC34
                            by_cases c37 : (t199 != t203) = true
                            · rw [if_pos c37] at H
                              have c37b0 : (t199 != t203) = true := c37
                              (try (have c37b1 : decide (t199 = t203) = false := by simpa using c37))
                              (try (have c37b2 : (t199 == t203) = false := by simpa using c37))
                              (try (have c37b3 : ¬ (t199 = t203) := by simpa using c37))
                              clear c37
                              (first | rw [c37b0] | (simp only [i64_w, i32_w]; rw [c37b0]) | skip)
                              have H' := Aside0.mk H
                              clear H
                              go_wp2
                              repeat (go_quiet (fail); try go_wp2)
                              go_meet
                              case rel => exact ⟨_, (true), (by first | rfl | (simp; done) | (simp [*]; done)), H', ⟨by have := HJ4.out; have := HK2.out; have := HJ13.out; have := HJ17.out; first | omega | exact Nat.le_refl _⟩, ⟨by (with_reducible repeat (first | apply Kd.R_alloc | apply Kd.R_drewN | apply Kd.R_drew)); exact Kd.R_mono HO201.out (fun _ hk => hk.2)⟩, ⟨by (with_reducible repeat (first | apply Kd.R_alloc | apply Kd.R_drewN | apply Kd.R_drew)); exact Kd.R_mono HO205.out (fun _ hk => hk.2)⟩, ⟨by repeat (first | (with_reducible first | exact HB.out | apply below_alloc | apply pw_below_drewN | apply below_drew1) | exact HB.out)⟩⟩
                            · rw [if_neg c37] at H
                              have c37b0 : (t199 != t203) = false := by simpa using c37
                              (try (have c37b1 : decide (t199 = t203) = true := by simpa using c37))
                              (try (have c37b2 : (t199 == t203) = true := by simpa using c37))
                              clear c37
                              (first | rw [c37b0] | (simp only [i64_w, i32_w]; rw [c37b0]) | skip)
                              have H' := Aside0.mk H
                              clear H
                              obtain ⟨Ao38, co38, eo38⟩ := Kd.R_slice HO201.out
                              subst eo38
                              obtain ⟨Ao39, co39, eo39⟩ := Kd.R_slice HO205.out
                              subst eo39
                              go_wp2
                              repeat (go_quiet (fail); try go_wp2)
                              go_meet
                              case rel => exact ⟨_, (((t198.length : Int) != (t202.length : Int))), (by first | rfl | (simp; done) | (simp [*]; done)), H', ⟨by have := HJ4.out; have := HK2.out; have := HJ13.out; have := HJ17.out; first | omega | exact Nat.le_refl _⟩, ⟨by (with_reducible repeat (first | apply Kd.R_alloc | apply Kd.R_drewN | apply Kd.R_drew)); exact Kd.R_mono HO201.out (fun _ hk => hk.2)⟩, ⟨by (with_reducible repeat (first | apply Kd.R_alloc | apply Kd.R_drewN | apply Kd.R_drew)); exact Kd.R_mono HO205.out (fun _ hk => hk.2)⟩, ⟨by repeat (first | (with_reducible first | exact HB.out | apply below_alloc | apply pw_below_drewN | apply below_drew1) | exact HB.out)⟩⟩
                          case rest =>
                            clear HC34
                            try clear c1
                            try clear p1
                            try clear q1
                            try clear hx1
                            try clear c2
                            try clear p2
                            try clear c3
                            try clear c4
                            try clear p6
                            try clear c7
                            try clear c7b0
                            try clear c7b1
                            try clear c8
                            try clear c9
                            try clear c9b0
                            try clear c10
                            try clear c10b0
                            try clear c11
                            try clear c11b0
                            try clear c11b1
                            try clear c16
                            try clear c16b0
                            try clear c16b1
                            try clear c17
                            try clear p18
                            try clear q18
                            try clear hx18
                            try clear c19
                            try clear p19
                            try clear q19
                            try clear hx19
                            try clear c23
                            try clear c25
                            try clear c26
                            try clear c26b0
                            try clear c27
                            try clear c27b0
                            try clear c28
                            try clear c28b0
                            try clear c29
                            try clear c29b0
                            try clear c29b1
                            try clear c37
                            try clear c37b0
                            try clear c37b1
                            try clear c37b2
                            try clear hx187_0
                            try clear hx196_0
                            try clear hx197_0
                            try clear p1
                            try clear p18
                            try clear p187
                            try clear p19
                            try clear p196
                            try clear p197
                            try clear p2
                            try clear p6
                            try clear q1
                            try clear q18
                            try clear q187
                            try clear q19
                            try clear q196
                            try clear q197
                            obtain ⟨kq, x107_33, rfl, HA, HJ33, HO_13, HO_15, HB⟩ := hcut
                            cases kq with
                            | zero => exact absurd HA.out (by simp [usufructlaw02_LabelKeys.j6])
                            | succ kj33 =>
                              have H := HA.out
                              clear HA
                              simp only [usufructlaw02_LabelKeys.j6] at H
                              by_cases c40 : x107_33 = true
                              · subst c40
                                have H1 : (some false) = some r := by rw [if_pos rfl] at H; exact H
                                clear H
                                have H := H1
                                clear H1
                                obtain rfl := Option.some.inj H
                                go_wp2
                                repeat (go_quiet (fail); try go_wp2)
                                go_ret
                                exact ⟨by first | rfl | (simp [errW_none, errW_some] <;> rfl) | (simp [*, errW_none, errW_some] <;> rfl), by repeat (first | (with_reducible first | exact HB.out | apply below_alloc | apply pw_below_drewN | apply below_drew1) | exact HB.out)⟩
                              · replace c40 := Bool.eq_false_iff.mpr c40
                                subst c40
                                have H1 : (usufructlaw02_LabelKeys.l2 kj33 t198 t202 0) = some r := by rw [if_neg (show ¬ (false = true) by decide)] at H; exact H
                                clear H
                                have H := H1
                                clear H1
                                have H' := Aside0.mk H
                                clear H
                                go_wp2
                                repeat (go_quiet (fail); try go_wp2)
                                go_loopg [17] kj33 (fun kq v17 w' => ∃ (x17_6 : Int), v17 = .int .i64 x17_6 ∧ Aside0 (usufructlaw02_LabelKeys.l2 kq t198 t202 x17_6 = some r) ∧ Aside0 (kq ≤ kj33) ∧ Aside0 (Kd.R Kd.string 9 w' w.heap.size (fun k_ => some k_ ≠ (v204 : Value).ownBlock) v200 t198) ∧ Aside0 (Kd.R Kd.string 9 w' w.heap.size (fun k_ => some k_ ≠ (v200 : Value).ownBlock) v204 t202) ∧ Aside0 (Below w.heap.size w w'))
                                case atStart => exact ⟨(0), (by first | rfl | (simp; done) | (simp [*]; done)), H', ⟨Nat.le_refl _⟩, ⟨by (with_reducible repeat (first | apply Kd.R_alloc | apply Kd.R_drewN | apply Kd.R_drew)); exact HO_13.out⟩, ⟨by (with_reducible repeat (first | apply Kd.R_alloc | apply Kd.R_drewN | apply Kd.R_drew)); exact HO_15.out⟩, ⟨by repeat (first | (with_reducible first | exact HB.out | apply below_alloc | apply pw_below_drewN | apply below_drew1) | exact HB.out)⟩⟩
                                case round =>
                                  clear H'
                                  try clear c1
                                  try clear p1
                                  try clear q1
                                  try clear hx1
                                  try clear c2
                                  try clear p2
                                  try clear c3
                                  try clear c4
                                  try clear p6
                                  try clear c7
                                  try clear c7b0
                                  try clear c7b1
                                  try clear c8
                                  try clear c9
                                  try clear c9b0
                                  try clear c10
                                  try clear c10b0
                                  try clear c11
                                  try clear c11b0
                                  try clear c11b1
                                  try clear c16
                                  try clear c16b0
                                  try clear c16b1
                                  try clear c17
                                  try clear p18
                                  try clear q18
                                  try clear hx18
                                  try clear c19
                                  try clear p19
                                  try clear q19
                                  try clear hx19
                                  try clear c23
                                  try clear c25
                                  try clear c26
                                  try clear c26b0
                                  try clear c27
                                  try clear c27b0
                                  try clear c28
                                  try clear c28b0
                                  try clear c29
                                  try clear c29b0
                                  try clear c29b1
                                  try clear c37
                                  try clear c37b0
                                  try clear c37b1
                                  try clear c37b2
                                  try clear c40
                                  try clear hx187_0
                                  try clear hx196_0
                                  try clear hx197_0
                                  try clear p1
                                  try clear p18
                                  try clear p187
                                  try clear p19
                                  try clear p196
                                  try clear p197
                                  try clear p2
                                  try clear p6
                                  try clear q1
                                  try clear q18
                                  try clear q187
                                  try clear q19
                                  try clear q196
                                  try clear q197
                                  obtain ⟨x17_6, rfl, HA, HK6, HO_13, HO_15, HB⟩ := hrel
                                  cases gk with
                                  | zero => exact absurd HA.out (by simp [usufructlaw02_LabelKeys.l2])
                                  | succ k6 =>
                                    have H := HA.out
                                    clear HA
                                    simp only [usufructlaw02_LabelKeys.l2] at H
                                    by_cases c41 : x17_6 < (t198.length : Int)
                                    · rw [if_pos c41] at H
                                      have c41b0 : decide (x17_6 < (t198.length : Int)) = true := decide_eq_true c41
                                      clear c41
                                      by_cases c42 : 0 ≤ x17_6
                                      · rw [if_pos c42] at H
                                        have c42b0 : decide (0 ≤ x17_6) = true := decide_eq_true c42
                                        clear c42
                                        by_cases c43 : x17_6 < (t202.length : Int)
                                        · rw [if_pos c43] at H
                                          have c43b0 : decide (x17_6 < (t202.length : Int)) = true := decide_eq_true c43
                                          clear c43
                                          by_cases c44 : (rdOf ByteArray.empty t198 x17_6).toList = (rdOf ByteArray.empty t202 x17_6).toList
                                          · rw [if_pos c44] at H
                                            have c44b0 : ((rdOf ByteArray.empty t198 x17_6).toList == (rdOf ByteArray.empty t202 x17_6).toList) = true := beq_iff_eq.mpr c44
                                            have c44b1 : ((rdOf ByteArray.empty t198 x17_6).toList != (rdOf ByteArray.empty t202 x17_6).toList) = false := bne_eq_false_iff_eq.mpr c44
                                            clear c44
                                            have H' := Aside0.mk H
                                            clear H
                                            obtain ⟨Ao45, co45, eo45⟩ := Kd.R_slice HO_13.out
                                            subst eo45
                                            have p206 : 0 ≤ (x17_6 : Int) := of_decide_eq_true (by first | (with_reducible assumption) | assumption)
                                            have q206 : x17_6 < (t198.length : Int) := of_decide_eq_true (by first | (with_reducible assumption) | assumption)
                                            obtain ⟨ad206, e206, hx206_0⟩ := Kd.at_string (Kd.R_reads' HO_13.out).2.2 x17_6 p206 q206
                                            cases e206
                                            replace p206 := eq_true p206
                                            replace q206 := eq_true q206
                                            obtain ⟨Ao46, co46, eo46⟩ := Kd.R_slice HO_15.out
                                            subst eo46
                                            have p207 : 0 ≤ (x17_6 : Int) := of_decide_eq_true (by first | (with_reducible assumption) | assumption)
                                            have q207 : x17_6 < (t202.length : Int) := of_decide_eq_true (by first | (with_reducible assumption) | assumption)
                                            obtain ⟨ad207, e207, hx207_0⟩ := Kd.at_string (Kd.R_reads' HO_15.out).2.2 x17_6 p207 q207
                                            cases e207
                                            replace p207 := eq_true p207
                                            replace q207 := eq_true q207
                                            go_wp2
                                            repeat (go_quiet (fail); try go_wp2)
                                            go_roundg k6
                                            case measure => have := HJ4.out; have := HK2.out; have := HJ13.out; have := HJ17.out; have := HJ33.out; have := HK6.out; omega
                                            case rel => exact ⟨(wrap64 (x17_6 + 1)), (by first | rfl | (simp; done) | (simp [*]; done)), H', ⟨by have := HJ4.out; have := HK2.out; have := HJ13.out; have := HJ17.out; have := HJ33.out; have := HK6.out; omega⟩, ⟨by (with_reducible repeat (first | apply Kd.R_alloc | apply Kd.R_drewN | apply Kd.R_drew)); exact HO_13.out⟩, ⟨by (with_reducible repeat (first | apply Kd.R_alloc | apply Kd.R_drewN | apply Kd.R_drew)); exact HO_15.out⟩, ⟨by repeat (first | (with_reducible first | exact HB.out | apply below_alloc | apply pw_below_drewN | apply below_drew1) | exact HB.out)⟩⟩
                                          · rw [if_neg c44] at H
                                            have c44b0 : ((rdOf ByteArray.empty t198 x17_6).toList == (rdOf ByteArray.empty t202 x17_6).toList) = false := beq_eq_false_iff_ne.mpr c44
                                            have c44b1 : ((rdOf ByteArray.empty t198 x17_6).toList != (rdOf ByteArray.empty t202 x17_6).toList) = true := bne_iff_ne.mpr c44
                                            obtain rfl := Option.some.inj H
                                            obtain ⟨Ao47, co47, eo47⟩ := Kd.R_slice HO_13.out
                                            subst eo47
                                            have p206 : 0 ≤ (x17_6 : Int) := of_decide_eq_true (by first | (with_reducible assumption) | assumption)
                                            have q206 : x17_6 < (t198.length : Int) := of_decide_eq_true (by first | (with_reducible assumption) | assumption)
                                            obtain ⟨ad206, e206, hx206_0⟩ := Kd.at_string (Kd.R_reads' HO_13.out).2.2 x17_6 p206 q206
                                            cases e206
                                            replace p206 := eq_true p206
                                            replace q206 := eq_true q206
                                            obtain ⟨Ao48, co48, eo48⟩ := Kd.R_slice HO_15.out
                                            subst eo48
                                            have p207 : 0 ≤ (x17_6 : Int) := of_decide_eq_true (by first | (with_reducible assumption) | assumption)
                                            have q207 : x17_6 < (t202.length : Int) := of_decide_eq_true (by first | (with_reducible assumption) | assumption)
                                            obtain ⟨ad207, e207, hx207_0⟩ := Kd.at_string (Kd.R_reads' HO_15.out).2.2 x17_6 p207 q207
                                            cases e207
                                            replace p207 := eq_true p207
                                            replace q207 := eq_true q207
                                            go_wp2
                                            repeat (go_quiet (fail); try go_wp2)
                                            go_ret
                                            exact ⟨by first | rfl | (simp [errW_none, errW_some] <;> rfl) | (simp [*, errW_none, errW_some] <;> rfl), by repeat (first | (with_reducible first | exact HB.out | apply below_alloc | apply pw_below_drewN | apply below_drew1) | exact HB.out)⟩
                                        · rw [if_neg c43] at H
                                          exact absurd H (by simp)
                                      · rw [if_neg c42] at H
                                        exact absurd H (by simp)
                                    · rw [if_neg c41] at H
                                      have c41b0 : decide (x17_6 < (t198.length : Int)) = false := decide_eq_false c41
                                      clear c41
                                      obtain rfl := Option.some.inj H
                                      obtain ⟨Ao49, co49, eo49⟩ := Kd.R_slice HO_13.out
                                      subst eo49
                                      go_wp2
                                      repeat (go_quiet (fail); try go_wp2)
                                      go_ret
                                      exact ⟨by first | rfl | (simp [errW_none, errW_some] <;> rfl) | (simp [*, errW_none, errW_some] <;> rfl), by repeat (first | (with_reducible first | exact HB.out | apply below_alloc | apply pw_below_drewN | apply below_drew1) | exact HB.out)⟩
  · replace c4 := Bool.eq_false_iff.mpr c4
    subst c4
    have H1 : (some false) = some r := by rw [if_neg (show ¬ (false = true) by decide)] at H; exact H
    clear H
    have H := H1
    clear H1
    obtain rfl := Option.some.inj H
    go_enter Tryd.func4, Tryd.ntmps4
    go_wp2_with (first | (go_at_call 7; (with_reducible refine (usufructlaw02_awake.calls  false _ ?tab_ A3.out).mono ?_); (case tab_ => first | exact HTAB_.out | exact Tabs_.below HTAB_.out (by repeat (first | (with_reducible first | exact HB.out | apply below_alloc | apply pw_below_drewN | apply below_drew1) | exact HB.out))); rintro e w50 ⟨rfl, hb⟩; have n0_ := Aside0.mk (below_step (by repeat (first | (with_reducible first | exact HB.out | apply below_alloc | apply pw_below_drewN | apply below_drew1) | exact HB.out)) hb); clear HB; have HB := n0_; clear n0_; (try clear hb); (try clear hb2); (try clear hk); (try clear hi)))
    repeat (go_quiet (first | (go_at_call 7; (with_reducible refine (usufructlaw02_awake.calls  false _ ?tab_ A3.out).mono ?_); (case tab_ => first | exact HTAB_.out | exact Tabs_.below HTAB_.out (by repeat (first | (with_reducible first | exact HB.out | apply below_alloc | apply pw_below_drewN | apply below_drew1) | exact HB.out))); rintro e w50 ⟨rfl, hb⟩; have n0_ := Aside0.mk (below_step (by repeat (first | (with_reducible first | exact HB.out | apply below_alloc | apply pw_below_drewN | apply below_drew1) | exact HB.out)) hb); clear HB; have HB := n0_; clear n0_; (try clear hb); (try clear hb2); (try clear hk); (try clear hi))); try go_wp2_with (first | (go_at_call 7; (with_reducible refine (usufructlaw02_awake.calls  false _ ?tab_ A3.out).mono ?_); (case tab_ => first | exact HTAB_.out | exact Tabs_.below HTAB_.out (by repeat (first | (with_reducible first | exact HB.out | apply below_alloc | apply pw_below_drewN | apply below_drew1) | exact HB.out))); rintro e w50 ⟨rfl, hb⟩; have n0_ := Aside0.mk (below_step (by repeat (first | (with_reducible first | exact HB.out | apply below_alloc | apply pw_below_drewN | apply below_drew1) | exact HB.out)) hb); clear HB; have HB := n0_; clear n0_; (try clear hb); (try clear hb2); (try clear hk); (try clear hi))))
    go_ret
    exact ⟨by first | rfl | (simp [errW_none, errW_some] <;> rfl) | (simp [*, errW_none, errW_some] <;> rfl), by repeat (first | (with_reducible first | exact HB.out | apply below_alloc | apply pw_below_drewN | apply below_drew1) | exact HB.out)⟩

end Go.Proofs.YtkpmmikpdjhliaaDoor.Q
