-- written for this claim by a program of the session
import Derived.Test.YtdamiipeijnpnaaQx0
import Derived.Test.YtdamiipeijnpnaaQx2
import Derived.Test.YtdamiipeijnpnaaQx4
import Derived.Test.YtdamiipeijnpnaaQx5
import Derived.Test.YtdamiipeijnpnaaQx8
import Derived.Test.YtdamiipeijnpnaaQx10
import Derived.Test.YtdamiipeijnpnaaQx11
import Derived.Test.YtdamiipeijnpnaaQx12
import Derived.Test.YtdamiipeijnpnaaQx13
import Derived.Test.YtdamiipeijnpnaaQx14
import Derived.Test.YtdamiipeijnpnaaQx15
import Derived.Test.YtdamiipeijnpnaaGAwakeField
import Derived.Test.YtdamiipeijnpnaaGNewReader
import Derived.Test.YtdamiipeijnpnaaGReaderNum
import Derived.Test.YtdamiipeijnpnaaGReaderText
namespace Go.Proofs.Ytdamiipeijnpnaa.Q
open Go.RowKit Go.Proofs.YtdamiipeijnpnaaW.PrintWords Go.Proofs.YtdamiipeijnpnaaW.PrintLast Go.Proofs.YtdamiipeijnpnaaW.PrintMore
attribute [local go_sem] max2_int min2_int max_two min_two max_three min_three max_four min_four   -- for this text's walks alone
set_option linter.unusedVariables false
set_option linter.unusedSimpArgs false

/-! ### usufructlaw04_FieldTakes: function 4 -/
mutual
def usufructlaw04_FieldTakes.j0 : Nat → List Int → List (S29) → Bool → Option (Bool)
  | 0, _, _, _ => none
  | k + 1, x0, x1, x28 => if x28 = true then (some true) else ((field_NewReader.f x0).bind fun bt258 => (usufructlaw04_FieldTakes.l0 k x1 0 bt258.1 bt258.2.1 bt258.2.2.1 bt258.2.2.2 (strOfNums x0) 0 0 0 0 (⟨#[]⟩ : ByteArray) false))
def usufructlaw04_FieldTakes.l0 : Nat → List (S29) → Int → List Int → Int → Int → Int → ByteArray → Int → Int → Int → Int → ByteArray → Bool → Option (Bool)
  | 0, _, _, _, _, _, _, _, _, _, _, _, _, _ => none
  | k + 1, x1, x7, x263000, x263001, x263002, x263003, x264000, x264001, x264002, x264003, x264004, x264005, x264006 => if x7 < (x1.length : Int) then (if 0 ≤ x7 then (if ((rd_T29 x1 x7).f0) = 0 then ((usufructref04_Take.f k x264000 x264001 x264002 x264003 x264004 x264005 x264006).bind fun bt266 => ((field_Reader_Num.f x263000 x263001 x263002 x263003).bind fun bt275 => (if bt275.1 = bt266.2.2.2.2.2.2.2 then (usufructlaw04_FieldTakes.j2 k x1 x7 x263000 bt275.2.1 bt275.2.2.1 bt275.2.2.2 bt266.1 bt266.2.1 bt266.2.2.1 bt266.2.2.2.1 bt266.2.2.2.2.1 bt266.2.2.2.2.2.1 bt266.2.2.2.2.2.2.1) else (some false)))) else (if ((rd_T29 x1 x7).f0) = 1 then ((usufructref04_Text.f k x264000 x264001 x264002 x264003 x264004 x264005 x264006 ((rd_T29 x1 x7).f1)).bind fun bt279 => ((field_Reader_Text.f x263000 x263001 x263002 x263003 ((rd_T29 x1 x7).f1)).bind fun bt288 => (if bt288.1.toList = bt279.2.2.2.2.2.2.2.toList then (usufructlaw04_FieldTakes.j2 k x1 x7 x263000 bt288.2.1 bt288.2.2.1 bt288.2.2.2 bt279.1 bt279.2.1 bt279.2.2.1 bt279.2.2.2.1 bt279.2.2.2.2.1 bt279.2.2.2.2.2.1 bt279.2.2.2.2.2.2.1) else (some false)))) else (if ((rd_T29 x1 x7).f0) = 2 then ((usufructref04_Flag.f x264000 x264001 x264002 x264003 x264004 x264005 x264006).bind fun bt292 => ((field_Reader_Flag.f x263000 x263001 x263002 x263003).bind fun bt301 => (if (bt301.1 != bt292.2.2.2.2.2.2.2) = true then (some false) else (usufructlaw04_FieldTakes.j2 k x1 x7 x263000 bt301.2.1 bt301.2.2.1 bt301.2.2.2 bt292.1 bt292.2.1 bt292.2.2.1 bt292.2.2.2.1 bt292.2.2.2.2.1 bt292.2.2.2.2.2.1 bt292.2.2.2.2.2.2.1)))) else (if ((rd_T29 x1 x7).f0) = 3 then ((usufructref04_Count.f k x264000 x264001 x264002 x264003 x264004 x264005 x264006 ((rd_T29 x1 x7).f1) ((rd_T29 x1 x7).f2)).bind fun bt305 => ((field_Reader_Count.f x263000 x263001 x263002 x263003 ((rd_T29 x1 x7).f1) ((rd_T29 x1 x7).f2)).bind fun bt314 => (if bt314.1 = bt305.2.2.2.2.2.2.2 then (usufructlaw04_FieldTakes.j2 k x1 x7 x263000 bt314.2.1 bt314.2.2.1 bt314.2.2.2 bt305.1 bt305.2.1 bt305.2.2.1 bt305.2.2.2.1 bt305.2.2.2.2.1 bt305.2.2.2.2.2.1 bt305.2.2.2.2.2.2.1) else (some false)))) else (if ((rd_T29 x1 x7).f0) = 4 then ((usufructref04_End.f x264000 x264001 x264002 x264003 x264004 x264005 x264006).bind fun bt318 => ((field_Reader_End.f k x263000 x263001 x263002 x263003).bind fun bt325 => (if (bt325.1 != (bt318.2.2.1 == 0)) = true then (some false) else (usufructlaw04_FieldTakes.j2 k x1 x7 x263000 bt325.2.1 bt325.2.2.1 bt325.2.2.2 bt318.1 bt318.2.1 bt318.2.2.1 bt318.2.2.2.1 bt318.2.2.2.2.1 bt318.2.2.2.2.2.1 bt318.2.2.2.2.2.2)))) else (usufructlaw04_FieldTakes.j2 k x1 x7 x263000 x263001 x263002 x263003 x264000 x264001 x264002 x264003 x264004 x264005 x264006)))))) else (none)) else (some true)
def usufructlaw04_FieldTakes.j2 : Nat → List (S29) → Int → List Int → Int → Int → Int → ByteArray → Int → Int → Int → Int → ByteArray → Bool → Option (Bool)
  | 0, _, _, _, _, _, _, _, _, _, _, _, _, _ => none
  | k + 1, x1, x7, x263000, x263001, x263002, x263003, x264000, x264001, x264002, x264003, x264004, x264005, x264006 => (field_Reader_Err.f x263000 x263001 x263002 x263003).bind fun bt329 => (if bt329.1 = x264003 then (if bt329.2.1 = x264002 then (usufructlaw04_FieldTakes.l0 k x1 (wrap64 (x7 + 1)) x263000 bt329.2.2.1 bt329.2.2.2.1 bt329.2.2.2.2 x264000 x264001 x264002 x264003 x264004 x264005 x264006) else (some false)) else (some false))
end
def usufructlaw04_FieldTakes.f (k : Nat) (l0 : List Int) (l1 : List (S29)) : Option (Bool) := (usufructlaw04_awake.f).bind fun t257 => (if t257 = true then (if (l0.length : Int) > 200 then (usufructlaw04_FieldTakes.j0 k l0 l1 true) else (usufructlaw04_FieldTakes.j0 k l0 l1 (decide ((l1.length : Int) > 30)))) else (some false))
theorem usufructlaw04_FieldTakes.mono_l : ∀ k, (∀ y0 y1 y2, LeO (usufructlaw04_FieldTakes.j0 k y0 y1 y2) (usufructlaw04_FieldTakes.j0 (k + 1) y0 y1 y2)) ∧ (∀ y0 y1 y2 y3 y4 y5 y6 y7 y8 y9 y10 y11 y12, LeO (usufructlaw04_FieldTakes.l0 k y0 y1 y2 y3 y4 y5 y6 y7 y8 y9 y10 y11 y12) (usufructlaw04_FieldTakes.l0 (k + 1) y0 y1 y2 y3 y4 y5 y6 y7 y8 y9 y10 y11 y12)) ∧ (∀ y0 y1 y2 y3 y4 y5 y6 y7 y8 y9 y10 y11 y12, LeO (usufructlaw04_FieldTakes.j2 k y0 y1 y2 y3 y4 y5 y6 y7 y8 y9 y10 y11 y12) (usufructlaw04_FieldTakes.j2 (k + 1) y0 y1 y2 y3 y4 y5 y6 y7 y8 y9 y10 y11 y12))
  | 0 => ⟨fun _ _ _ r h => by simp [usufructlaw04_FieldTakes.j0] at h, fun _ _ _ _ _ _ _ _ _ _ _ _ _ r h => by simp [usufructlaw04_FieldTakes.l0] at h, fun _ _ _ _ _ _ _ _ _ _ _ _ _ r h => by simp [usufructlaw04_FieldTakes.j2] at h⟩
  | k + 1 => by
    obtain ⟨ih0, ih1, ih2⟩ := usufructlaw04_FieldTakes.mono_l k
    refine ⟨?_, ?_, ?_⟩
    · intro y0 y1 y2
      unfold usufructlaw04_FieldTakes.j0
      repeat' first
      | (with_reducible exact ih0 _ _ _)
      | (with_reducible exact ih1 _ _ _ _ _ _ _ _ _ _ _ _ _)
      | (with_reducible exact ih2 _ _ _ _ _ _ _ _ _ _ _ _ _)
      | (with_reducible exact field_Reader_End.mono _ _ _ _ _)
      | (with_reducible exact usufructref04_Count.mono _ _ _ _ _ _ _ _ _ _)
      | (with_reducible exact usufructref04_Take.mono _ _ _ _ _ _ _ _)
      | (with_reducible exact usufructref04_Text.mono _ _ _ _ _ _ _ _ _)
      | (with_reducible exact LeO.refl _)
      | (with_reducible exact LeO.none _)
      | (with_reducible refine LeO.ite ?_ ?_)
      | (with_reducible refine LeO.bind ?_ (fun _ => ?_))
      | exact ih0 _ _ _
      | exact ih1 _ _ _ _ _ _ _ _ _ _ _ _ _
      | exact ih2 _ _ _ _ _ _ _ _ _ _ _ _ _
      | exact field_Reader_End.mono _ _ _ _ _
      | exact usufructref04_Count.mono _ _ _ _ _ _ _ _ _ _
      | exact usufructref04_Take.mono _ _ _ _ _ _ _ _
      | exact usufructref04_Text.mono _ _ _ _ _ _ _ _ _
      | exact LeO.none _
      | refine LeO.ite ?_ ?_
      | refine LeO.bind ?_ (fun _ => ?_)
    · intro y0 y1 y2 y3 y4 y5 y6 y7 y8 y9 y10 y11 y12
      unfold usufructlaw04_FieldTakes.l0
      repeat' first
      | (with_reducible exact ih0 _ _ _)
      | (with_reducible exact ih1 _ _ _ _ _ _ _ _ _ _ _ _ _)
      | (with_reducible exact ih2 _ _ _ _ _ _ _ _ _ _ _ _ _)
      | (with_reducible exact field_Reader_End.mono _ _ _ _ _)
      | (with_reducible exact usufructref04_Count.mono _ _ _ _ _ _ _ _ _ _)
      | (with_reducible exact usufructref04_Take.mono _ _ _ _ _ _ _ _)
      | (with_reducible exact usufructref04_Text.mono _ _ _ _ _ _ _ _ _)
      | (with_reducible exact LeO.refl _)
      | (with_reducible exact LeO.none _)
      | (with_reducible refine LeO.ite ?_ ?_)
      | (with_reducible refine LeO.bind ?_ (fun _ => ?_))
      | exact ih0 _ _ _
      | exact ih1 _ _ _ _ _ _ _ _ _ _ _ _ _
      | exact ih2 _ _ _ _ _ _ _ _ _ _ _ _ _
      | exact field_Reader_End.mono _ _ _ _ _
      | exact usufructref04_Count.mono _ _ _ _ _ _ _ _ _ _
      | exact usufructref04_Take.mono _ _ _ _ _ _ _ _
      | exact usufructref04_Text.mono _ _ _ _ _ _ _ _ _
      | exact LeO.none _
      | refine LeO.ite ?_ ?_
      | refine LeO.bind ?_ (fun _ => ?_)
    · intro y0 y1 y2 y3 y4 y5 y6 y7 y8 y9 y10 y11 y12
      unfold usufructlaw04_FieldTakes.j2
      repeat' first
      | (with_reducible exact ih0 _ _ _)
      | (with_reducible exact ih1 _ _ _ _ _ _ _ _ _ _ _ _ _)
      | (with_reducible exact ih2 _ _ _ _ _ _ _ _ _ _ _ _ _)
      | (with_reducible exact field_Reader_End.mono _ _ _ _ _)
      | (with_reducible exact usufructref04_Count.mono _ _ _ _ _ _ _ _ _ _)
      | (with_reducible exact usufructref04_Take.mono _ _ _ _ _ _ _ _)
      | (with_reducible exact usufructref04_Text.mono _ _ _ _ _ _ _ _ _)
      | (with_reducible exact LeO.refl _)
      | (with_reducible exact LeO.none _)
      | (with_reducible refine LeO.ite ?_ ?_)
      | (with_reducible refine LeO.bind ?_ (fun _ => ?_))
      | exact ih0 _ _ _
      | exact ih1 _ _ _ _ _ _ _ _ _ _ _ _ _
      | exact ih2 _ _ _ _ _ _ _ _ _ _ _ _ _
      | exact field_Reader_End.mono _ _ _ _ _
      | exact usufructref04_Count.mono _ _ _ _ _ _ _ _ _ _
      | exact usufructref04_Take.mono _ _ _ _ _ _ _ _
      | exact usufructref04_Text.mono _ _ _ _ _ _ _ _ _
      | exact LeO.none _
      | refine LeO.ite ?_ ?_
      | refine LeO.bind ?_ (fun _ => ?_)
theorem usufructlaw04_FieldTakes.mono : ∀ a0 a1 k, LeO (usufructlaw04_FieldTakes.f k a0 a1) (usufructlaw04_FieldTakes.f (k + 1) a0 a1) := by
  intro a0 a1 k
  obtain ⟨ih0, ih1, ih2⟩ := usufructlaw04_FieldTakes.mono_l k
  unfold usufructlaw04_FieldTakes.f
  repeat' first
      | (with_reducible exact ih0 _ _ _)
      | (with_reducible exact ih1 _ _ _ _ _ _ _ _ _ _ _ _ _)
      | (with_reducible exact ih2 _ _ _ _ _ _ _ _ _ _ _ _ _)
      | (with_reducible exact field_Reader_End.mono _ _ _ _ _)
      | (with_reducible exact usufructref04_Count.mono _ _ _ _ _ _ _ _ _ _)
      | (with_reducible exact usufructref04_Take.mono _ _ _ _ _ _ _ _)
      | (with_reducible exact usufructref04_Text.mono _ _ _ _ _ _ _ _ _)
      | (with_reducible exact LeO.refl _)
      | (with_reducible exact LeO.none _)
      | (with_reducible refine LeO.ite ?_ ?_)
      | (with_reducible refine LeO.bind ?_ (fun _ => ?_))
      | exact ih0 _ _ _
      | exact ih1 _ _ _ _ _ _ _ _ _ _ _ _ _
      | exact ih2 _ _ _ _ _ _ _ _ _ _ _ _ _
      | exact field_Reader_End.mono _ _ _ _ _
      | exact usufructref04_Count.mono _ _ _ _ _ _ _ _ _ _
      | exact usufructref04_Take.mono _ _ _ _ _ _ _ _
      | exact usufructref04_Text.mono _ _ _ _ _ _ _ _ _
      | exact LeO.none _
      | refine LeO.ite ?_ ?_
      | refine LeO.bind ?_ (fun _ => ?_)
namespace usufructlaw04_FieldTakes
theorem mt_ {α β : Type} {f : α → β} {l : List α} : l.toArray.map f = (l.map f).toArray := List.map_toArray
theorem mc_ {α β : Type} {f : α → β} {a : α} {l : List α} : (a :: l).map f = f a :: l.map f := rfl
theorem mn_ {α β : Type} {f : α → β} : ([] : List α).map f = [] := rfl
abbrev zn_ := @blk_drewN
abbrev zd_ := @blk_drew
abbrev za_ := @blk_alloc
abbrev zf_ := @blk_frozen
abbrev zc_ := @blk_cell
abbrev zs_ := @below_set
abbrev zr_ := @blk_far
abbrev zp_ := @blk_put
abbrev pd_ := @pw_below_drewN
abbrev p1_ := @below_drew1
abbrev pa_ := @below_alloc
abbrev ak_ := @Aside0.mk
abbrev bl_ := @World.block_lt_of_cell?
abbrev ps_ := @below_step
abbrev i81a_ := @IsS81.alloc
abbrev i81n_ := @IsS81.drewN
abbrev i81d_ := @IsS81.drew
def b_ (n k : Nat) : Array Bool := ((List.range n).map fun i => k.testBit i).toArray
theorem sa_ {α : Type} {l : List α} {i : Nat} {a : α} : l.toArray.setIfInBounds i a = (l.set i a).toArray := List.setIfInBounds_toArray l i a
theorem sz_ {α : Type} {a b : α} {l : List α} : (a :: l).set 0 b = b :: l := rfl
theorem ss_ {α : Type} {a b : α} {l : List α} {n : Nat} : (a :: l).set (n + 1) b = a :: l.set n b := rfl
end usufructlaw04_FieldTakes
open usufructlaw04_FieldTakes in
set_option maxHeartbeats 8000000 in
set_option maxRecDepth 100000 in
theorem usufructlaw04_FieldTakes.calls (k : Nat) (A0 : Option Addr) (c0 : Nat) (l0 : List Int) (A1 : Option Addr) (c1 : Nat) (l1 : List (S29)) (r : Bool) (w : World) (hr0 : Kd.C (Kd.int .u8) w A0 l0.length l0) (hc0 : l0.length ≤ c0) (hr1 : Kd.C k29 w A1 l1.length l1) (hc1 : l1.length ≤ c1) (h : usufructlaw04_FieldTakes.f k l0 l1 = some r) :
    Calls Try.prog 4 #[.slice A0 l0.length c0, .slice A1 l1.length c1] w fun e w' => e = .returned (.bool r) ∧ Below w.heap.size w w' := by
  have hu40 := Try.underlying40
  have hu29 := Try.underlying29
  have HR0 := ak_ hr0
  have HC0 := ak_ hc0
  clear hr0 hc0
  have HR1 := ak_ hr1
  have HC1 := ak_ hc1
  clear hr1 hc1
  have HB := ak_ (Below.refl w.heap.size w)
  have H : ((usufructlaw04_awake.f).bind fun t257 => (if t257 = true then (if (l0.length : Int) > 200 then (usufructlaw04_FieldTakes.j0 k l0 l1 true) else (usufructlaw04_FieldTakes.j0 k l0 l1 (decide ((l1.length : Int) > 30)))) else (some false))) = some r := h
  clear h
  replace H := Option.bind_eq_some_iff.mp H
  obtain ⟨t257, A30, H⟩ := H
  replace H : (if t257 = true then (if (l0.length : Int) > 200 then (usufructlaw04_FieldTakes.j0 k l0 l1 true) else (usufructlaw04_FieldTakes.j0 k l0 l1 (decide ((l1.length : Int) > 30)))) else (some false)) = some r := H
  have A3 := ak_ A30
  clear A30
  by_cases c4 : t257 = true
  · subst c4
    have H1 : (if (l0.length : Int) > 200 then (usufructlaw04_FieldTakes.j0 k l0 l1 true) else (usufructlaw04_FieldTakes.j0 k l0 l1 (decide ((l1.length : Int) > 30)))) = some r := by rw [if_pos rfl] at H; exact H
    clear H
    have H := H1
    clear H1
    have HC5 := ak_ H
    clear H
    go_enter Try.func4, Try.ntmps4
    go_upto_region 3 with (first | ((with_reducible refine gate_callee (f := 10) rfl ?_); refine goesL_ (some 19) rfl rfl Try.func10 (by kernel_rfl) rfl #[] rfl (by simp only [mt_, mc_, mn_] <;> rfl) ?_; (with_reducible refine (usufructlaw04_awake.calls  true _ A3.out).mono ?_); rintro e w6 ⟨rfl, hb⟩; refine ⟨_, rfl, ?_⟩; have n0_ := ak_ (ps_ (by repeat (first | (with_reducible first | exact HB.out | apply pa_ | apply pd_ | apply p1_) | exact HB.out)) hb); clear HB; have HB := n0_; clear n0_; (try clear hb hk hi)))
    (try simp only [Act.put, sa_, sz_, ss_])
    go_cut [28] (fun v28 wc => ∃ (kq : Nat) (x28_4 : Bool), v28 = .bool x28_4 ∧ Aside0 (usufructlaw04_FieldTakes.j0 kq l0 l1 x28_4 = some r) ∧ Aside0 (kq ≤ k) ∧ Aside0 (Below w.heap.size w wc))
    case first =>
      have H := HC5.out
      clear HC5
      by_cases c7 : (l0.length : Int) > 200
      · rw [if_pos c7] at H
        have c7b0 : decide (200 < (l0.length : Int)) = true := decide_eq_true c7
        have c7b1 : decide (200 < l0.length) = true := decide_eq_true (by omega)
        clear c7
        (first | rw [c7b0] | (simp only [i64_w, i32_w]; rw [c7b0]) | skip)
        have H' := ak_ H
        clear H
        go_wp2
        go_meet
        case rel => exact ⟨_, (true), (by first | rfl | (simp; done) | (simp [*]; done)), H', ⟨by first | omega | exact Nat.le_refl _⟩, ⟨by repeat (first | (with_reducible first | exact HB.out | apply pa_ | apply pd_ | apply p1_) | exact HB.out)⟩⟩
      · rw [if_neg c7] at H
        have c7b0 : decide (200 < (l0.length : Int)) = false := decide_eq_false c7
        have c7b1 : decide (200 < l0.length) = false := decide_eq_false (by omega)
        clear c7
        (first | rw [c7b0] | (simp only [i64_w, i32_w]; rw [c7b0]) | skip)
        have H' := ak_ H
        clear H
        go_wp2
        go_meet
        case rel => exact ⟨_, (decide ((l1.length : Int) > 30)), (by first | rfl | (simp; done) | (simp [*]; done)), H', ⟨by first | omega | exact Nat.le_refl _⟩, ⟨by repeat (first | (with_reducible first | exact HB.out | apply pa_ | apply pd_ | apply p1_) | exact HB.out)⟩⟩
    case rest =>
      clear HC5
      try clear c1
      try clear p2
      try clear c4
      try clear c7
      try clear c7b0
      try clear c7b1
      obtain ⟨kq, x28_4, rfl, HA, HJ4, HB⟩ := hcut
      cases kq with
      | zero => exact absurd HA.out (by simp [usufructlaw04_FieldTakes.j0])
      | succ kj4 =>
        have H := HA.out
        clear HA
        simp only [usufructlaw04_FieldTakes.j0] at H
        by_cases c8 : x28_4 = true
        · subst c8
          have H1 : (some true) = some r := by rw [if_pos rfl] at H; exact H
          clear H
          have H := H1
          clear H1
          obtain rfl := Option.some.inj H
          go_wp2
          go_ret
          exact ⟨by first | rfl | (simp [errW_none, errW_some] <;> rfl) | (simp [*, errW_none, errW_some] <;> rfl), by first | (refine ps_ HBW0.out ?_; (repeat (first | (with_reducible first | exact HB.out | apply pa_ | apply pd_ | apply p1_) | exact HB.out)); done) | (repeat (first | (with_reducible first | exact HB.out | apply pa_ | apply pd_ | apply p1_) | exact HB.out))⟩
        · replace c8 := Bool.eq_false_iff.mpr c8
          subst c8
          have H1 : ((field_NewReader.f l0).bind fun bt258 => (usufructlaw04_FieldTakes.l0 kj4 l1 0 bt258.1 bt258.2.1 bt258.2.2.1 bt258.2.2.2 (strOfNums l0) 0 0 0 0 (⟨#[]⟩ : ByteArray) false)) = some r := by rw [if_neg (show ¬ (false = true) by decide)] at H; exact H
          clear H
          have H := H1
          clear H1
          replace H := Option.bind_eq_some_iff.mp H
          obtain ⟨⟨t258, t259, t260, t261⟩, A90, H⟩ := H
          replace H : (usufructlaw04_FieldTakes.l0 kj4 l1 0 t258 t259 t260 t261 (strOfNums l0) 0 0 0 0 (⟨#[]⟩ : ByteArray) false) = some r := H
          have A9 := ak_ A90
          clear A90
          have H' := ak_ H
          clear H
          go_wp2_with (first | ((with_reducible refine gate_callee (f := 16) rfl ?_); refine goesL_ (some 30) rfl rfl Try.func16 (by kernel_rfl) rfl #[.slice A0 l0.length c0] rfl (by (try simp only [List.map_toArray, List.map_cons, List.map_nil]); first | done | rfl | (simp only [List.length_drop, List.length_take]; rfl)) ?_; (with_reducible refine (field_NewReader.calls _ _ l0 t258 t259 t260 t261 w _ ?side1 ?side2 ?side3 A9.out).mono ?_); (case side1 => repeat (first | (with_reducible first | exact HB.out | apply pa_ | apply pd_ | apply p1_) | exact HB.out)); (case side2 => exact HR0.out); (case side3 => exact HC0.out); rintro e w10 ⟨g262, w, rfl, hi, hb, hb2, hbw⟩; refine ⟨_, rfl, ?_⟩; have HBW0 := ak_ hbw; clear hbw; (try (have nr_ := ak_ (Kd.C_below HR0.out HBW0.out); clear HR0; have HR0 := nr_; clear nr_)); (try (have nr_ := ak_ (Kd.C_below HR1.out HBW0.out); clear HR1; have HR1 := nr_; clear nr_)); have n0_ := ak_ (hb); have n1_ := ak_ (hi); clear HB; have HB := n0_; have HI262 := n1_; clear n0_ n1_; (try clear hb hk hi); have hcv11 := Kd.C_string (P := Try.prog) (A := A0) (c := c0) Try.underlying25 Try.underlying5 Try.underlying9 (Kd.C_below HR0.out HB.out)) | ((with_reducible refine gate_dst (N := 6) rfl ?_); (try (refine gate_guard (by rfl) ?_; dsimp only)); refine box_event ?hg (N := 6) ?hd (cs := #[.string ⟨#[]⟩, .int .i64 0, .int .i64 0, .int .i64 0, .int .i64 0, .string ⟨#[]⟩, .bool false]) (t := 40) ?hr ?_; (case hd => rfl); (case hg => rfl); (case hr => first | (go_simp; done) | (go_simp; rfl)); intro gb263 hg w12 hbox hb; have n0_ := ak_ (IsS81.below (by repeat (first | (with_reducible first | exact HI262.out | apply i81a_ | apply i81n_ | apply i81d_) | exact HI262.out)) hb); have n1_ := ak_ (ps_ (by repeat (first | (with_reducible first | exact HB.out | apply pa_ | apply pd_ | apply p1_ | refine zs_ ?_ (IsS81.ge HI262.out)) | exact HB.out)) hb); have n2_ := ak_ (hbox); have n3_ := ak_ ((by rw [hg]; exact (below_size (by repeat (first | (with_reducible first | exact HB.out | apply pa_ | apply pd_ | apply p1_ | refine zs_ ?_ (IsS81.ge HI262.out)) | exact HB.out))) : w.heap.size ≤ gb263)); have n4_ := ak_ ((by rw [hg]; exact (below_size (by repeat (first | (with_reducible first | exact HB.out | apply pa_ | apply pd_ | apply p1_ | refine zs_ ?_ (IsS81.ge HI262.out)) | exact HB.out))) : w.heap.size ≤ gb263)); have n5_ := ak_ ((by rw [hg]; exact Nat.ne_of_lt (IsS81.lt (show IsS81 w _ g262 t258 t259 t260 t261 from by repeat (first | (with_reducible first | exact HI262.out | apply i81a_ | apply i81n_ | apply i81d_) | exact HI262.out))) : g262 ≠ gb263)); have n6_ := ak_ ((by rw [hg]; exact Nat.ne_of_gt (IsS81.lt (show IsS81 w _ g262 t258 t259 t260 t261 from by repeat (first | (with_reducible first | exact HI262.out | apply i81a_ | apply i81n_ | apply i81d_) | exact HI262.out))) : gb263 ≠ g262)); clear HI262; clear HB; have HI262 := n0_; have HB := n1_; have BK263 := n2_; have GW263 := n3_; have GE263 := n4_; have NB262_263 := n5_; have NB263_262 := n6_; clear n0_ n1_ n2_ n3_ n4_ n5_ n6_; clear hb hbox hg; have hnb13 := NB263_262.out; have hnc13 := NB262_263.out; have hcz14_0 : w12.cell? ⟨gb263, 0, none⟩ = some (.string ⟨#[]⟩) := (zc_ BK263.out 0).trans rfl; have hcz14_1 : w12.cell? ⟨gb263, 1, none⟩ = some (.int .i64 0) := (zc_ BK263.out 1).trans rfl; have hcz14_2 : w12.cell? ⟨gb263, 2, none⟩ = some (.int .i64 0) := (zc_ BK263.out 2).trans rfl; have hcz14_3 : w12.cell? ⟨gb263, 3, none⟩ = some (.int .i64 0) := (zc_ BK263.out 3).trans rfl; have hcz14_4 : w12.cell? ⟨gb263, 4, none⟩ = some (.int .i64 0) := (zc_ BK263.out 4).trans rfl; have hcz14_5 : w12.cell? ⟨gb263, 5, none⟩ = some (.string ⟨#[]⟩) := (zc_ BK263.out 5).trans rfl; have hcz14_6 : w12.cell? ⟨gb263, 6, none⟩ = some (.bool false) := (zc_ BK263.out 6).trans rfl; have hfz14_0 := zf_ BK263.out 0; have hfz14_1 := zf_ BK263.out 1; have hfz14_2 := zf_ BK263.out 2; have hfz14_3 := zf_ BK263.out 3; have hfz14_4 := zf_ BK263.out 4; have hfz14_5 := zf_ BK263.out 5; have hfz14_6 := zf_ BK263.out 6))
          go_loopg [7] kj4 (fun kq v7 w' => ∃ (x7_2 : Int) (x263001_2 : Int) (x263002_2 : Int) (x263003_2 : Int) (x264000_2 : ByteArray) (x264001_2 : Int) (x264002_2 : Int) (x264003_2 : Int) (x264004_2 : Int) (x264005_2 : ByteArray) (x264006_2 : Bool), v7 = .int .i64 x7_2 ∧ Aside0 (usufructlaw04_FieldTakes.l0 kq l1 x7_2 t258 x263001_2 x263002_2 x263003_2 x264000_2 x264001_2 x264002_2 x264003_2 x264004_2 x264005_2 x264006_2 = some r) ∧ Aside0 (kq ≤ kj4) ∧ Aside0 (w'.heap[gb263]? = some (.cells #[.string x264000_2, .int .i64 x264001_2, .int .i64 x264002_2, .int .i64 x264003_2, .int .i64 x264004_2, .string x264005_2, .bool x264006_2] 40 (0, 0))) ∧ Aside0 (IsS81 w w' g262 t258 x263001_2 x263002_2 x263003_2) ∧ Aside0 (Below w.heap.size w w'))
          case atStart => exact ⟨(0), (t259), (t260), (t261), (strOfNums l0), (0), (0), (0), (0), ((⟨#[]⟩ : ByteArray)), (false), (by first | rfl | (simp; done) | (simp [*]; done)), H', ⟨Nat.le_refl _⟩, ⟨by (with_reducible repeat (first | apply zn_ | apply zd_ | apply za_)); refine zp_ (cs := #[.string (strOfNums l0), .int .i64 0, .int .i64 0, .int .i64 0, .int .i64 0, .string ⟨#[]⟩, .bool false]) ?_ 6 _ rfl; (with_reducible repeat (first | apply zn_ | apply zd_ | apply za_)); refine zp_ (cs := #[.string (strOfNums l0), .int .i64 0, .int .i64 0, .int .i64 0, .int .i64 0, .string ⟨#[]⟩, .bool false]) ?_ 5 _ rfl; (with_reducible repeat (first | apply zn_ | apply zd_ | apply za_)); refine zp_ (cs := #[.string (strOfNums l0), .int .i64 0, .int .i64 0, .int .i64 0, .int .i64 0, .string ⟨#[]⟩, .bool false]) ?_ 4 _ rfl; (with_reducible repeat (first | apply zn_ | apply zd_ | apply za_)); refine zp_ (cs := #[.string (strOfNums l0), .int .i64 0, .int .i64 0, .int .i64 0, .int .i64 0, .string ⟨#[]⟩, .bool false]) ?_ 3 _ rfl; (with_reducible repeat (first | apply zn_ | apply zd_ | apply za_)); refine zp_ (cs := #[.string (strOfNums l0), .int .i64 0, .int .i64 0, .int .i64 0, .int .i64 0, .string ⟨#[]⟩, .bool false]) ?_ 2 _ rfl; (with_reducible repeat (first | apply zn_ | apply zd_ | apply za_)); refine zp_ (cs := #[.string (strOfNums l0), .int .i64 0, .int .i64 0, .int .i64 0, .int .i64 0, .string ⟨#[]⟩, .bool false]) ?_ 1 _ rfl; (with_reducible repeat (first | apply zn_ | apply zd_ | apply za_)); refine zp_ (cs := #[.string ⟨#[]⟩, .int .i64 0, .int .i64 0, .int .i64 0, .int .i64 0, .string ⟨#[]⟩, .bool false]) ?_ 0 _ rfl; (with_reducible repeat (first | apply zn_ | apply zd_ | apply za_)); exact BK263.out⟩, ⟨by repeat (first | (with_reducible first | exact HI262.out | apply i81a_ | apply i81n_ | apply i81d_ | refine IsS81.far ?_ NB262_263.out _) | exact HI262.out)⟩, ⟨by repeat (first | (with_reducible first | exact HB.out | apply pa_ | apply pd_ | apply p1_ | refine zs_ ?_ (IsS81.ge HI262.out) | refine zs_ ?_ GE263.out) | exact HB.out)⟩⟩
          case round =>
            clear H'
            try clear c1
            try clear hcv1
            try clear p2
            try clear c4
            try clear c7
            try clear c7b0
            try clear c7b1
            try clear c8
            try clear c10
            try clear hcv11
            try clear c13
            try clear hcz14_0
            try clear hcz14_1
            try clear hcz14_2
            try clear hcz14_3
            try clear hcz14_4
            try clear hcz14_5
            try clear hcz14_6
            try clear hfz14_0
            try clear hfz14_1
            try clear hfz14_2
            try clear hfz14_3
            try clear hfz14_4
            try clear hfz14_5
            try clear hfz14_6
            try clear p2
            obtain ⟨x7_2, x263001_2, x263002_2, x263003_2, x264000_2, x264001_2, x264002_2, x264003_2, x264004_2, x264005_2, x264006_2, rfl, HA, HK2, BK263, HI262, HB⟩ := hrel
            cases gk with
            | zero => exact absurd HA.out (by simp [usufructlaw04_FieldTakes.l0])
            | succ k2 =>
              have H := HA.out
              clear HA
              simp only [usufructlaw04_FieldTakes.l0] at H
              by_cases c15 : x7_2 < (l1.length : Int)
              · rw [if_pos c15] at H
                have c15b0 : decide (x7_2 < (l1.length : Int)) = true := decide_eq_true c15
                clear c15
                by_cases c16 : 0 ≤ x7_2
                · rw [if_pos c16] at H
                  have c16b0 : decide (0 ≤ x7_2) = true := decide_eq_true c16
                  clear c16
                  have HC17 := ak_ H
                  clear H
                  have p264 : 0 ≤ (x7_2 : Int) := of_decide_eq_true (by assumption)
                  have q264 : x7_2 < (l1.length : Int) := of_decide_eq_true (by assumption)
                  obtain ⟨ad264, e264, hx264_0, hx264_1, hx264_2, hx264_3, hx264_4⟩ := at_T29 HR1.out x7_2 p264 q264
                  cases e264
                  replace hx264_0 := (HB.out.cell (bl_ w _ hx264_0)).trans hx264_0
                  replace hx264_1 := (HB.out.cell (bl_ w _ hx264_1)).trans hx264_1
                  replace hx264_2 := (HB.out.cell (bl_ w _ hx264_2)).trans hx264_2
                  replace hx264_3 := (HB.out.cell (bl_ w _ hx264_3)).trans hx264_3
                  replace hx264_4 := (HB.out.cell (bl_ w _ hx264_4)).trans hx264_4
                  replace p264 := eq_true p264
                  replace q264 := eq_true q264
                  go_upto_block 2 with (first | ((with_reducible refine gate_dst (N := 8) rfl ?_); (try (refine gate_guard (by rfl) ?_; dsimp only)); refine box_event ?hg (N := 8) ?hd (cs := #[.int .i64 0, .int .i64 0, .int .i64 0, .string ⟨#[]⟩, .bool false]) (t := 29) ?hr ?_; (case hd => rfl); (case hg => rfl); (case hr => first | (go_simp; done) | (go_simp; rfl)); intro gb265 hg w18 hbox hb; have n0_ := ak_ (blk_below (g := gb263) (o := .cells #[.string x264000_2, .int .i64 x264001_2, .int .i64 x264002_2, .int .i64 x264003_2, .int .i64 x264004_2, .string x264005_2, .bool x264006_2] 40 (0, 0)) (by (with_reducible repeat (first | apply zn_ | apply zd_ | apply za_)); exact BK263.out) hb); have n1_ := ak_ (IsS81.below (by repeat (first | (with_reducible first | exact HI262.out | apply i81a_ | apply i81n_ | apply i81d_ | refine IsS81.far ?_ NB262_263.out _) | exact HI262.out)) hb); have n2_ := ak_ (ps_ (by repeat (first | (with_reducible first | exact HB.out | apply pa_ | apply pd_ | apply p1_ | refine zs_ ?_ (IsS81.ge HI262.out) | refine zs_ ?_ GE263.out) | exact HB.out)) hb); have n3_ := ak_ (hbox); have n4_ := ak_ ((by rw [hg]; exact (below_size (by repeat (first | (with_reducible first | exact HB.out | apply pa_ | apply pd_ | apply p1_ | refine zs_ ?_ (IsS81.ge HI262.out) | refine zs_ ?_ GE263.out) | exact HB.out))) : w.heap.size ≤ gb265)); have n5_ := ak_ ((by rw [hg]; exact (below_size (by repeat (first | (with_reducible first | exact HB.out | apply pa_ | apply pd_ | apply p1_ | refine zs_ ?_ (IsS81.ge HI262.out) | refine zs_ ?_ GE263.out) | exact HB.out))) : w.heap.size ≤ gb265)); have n6_ := ak_ ((by rw [hg]; exact Nat.ne_of_lt (blk_lt (g := gb263) (o := .cells #[.string x264000_2, .int .i64 x264001_2, .int .i64 x264002_2, .int .i64 x264003_2, .int .i64 x264004_2, .string x264005_2, .bool x264006_2] 40 (0, 0)) (by (with_reducible repeat (first | apply zn_ | apply zd_ | apply za_)); exact BK263.out)) : gb263 ≠ gb265)); have n7_ := ak_ ((by rw [hg]; exact Nat.ne_of_gt (blk_lt (g := gb263) (o := .cells #[.string x264000_2, .int .i64 x264001_2, .int .i64 x264002_2, .int .i64 x264003_2, .int .i64 x264004_2, .string x264005_2, .bool x264006_2] 40 (0, 0)) (by (with_reducible repeat (first | apply zn_ | apply zd_ | apply za_)); exact BK263.out)) : gb265 ≠ gb263)); have n8_ := ak_ ((by rw [hg]; exact Nat.ne_of_lt (IsS81.lt (show IsS81 w _ g262 t258 x263001_2 x263002_2 x263003_2 from by repeat (first | (with_reducible first | exact HI262.out | apply i81a_ | apply i81n_ | apply i81d_ | refine IsS81.far ?_ NB262_263.out _) | exact HI262.out))) : g262 ≠ gb265)); have n9_ := ak_ ((by rw [hg]; exact Nat.ne_of_gt (IsS81.lt (show IsS81 w _ g262 t258 x263001_2 x263002_2 x263003_2 from by repeat (first | (with_reducible first | exact HI262.out | apply i81a_ | apply i81n_ | apply i81d_ | refine IsS81.far ?_ NB262_263.out _) | exact HI262.out))) : gb265 ≠ g262)); clear BK263; clear HI262; clear HB; have BK263 := n0_; have HI262 := n1_; have HB := n2_; have BK265 := n3_; have GW265 := n4_; have GE265 := n5_; have NB263_265 := n6_; have NB265_263 := n7_; have NB262_265 := n8_; have NB265_262 := n9_; clear n0_ n1_ n2_ n3_ n4_ n5_ n6_ n7_ n8_ n9_; clear hb hbox hg; have hnb19 := NB265_263.out; have hnc19 := NB263_265.out; have hnb20 := NB265_262.out; have hnc20 := NB262_265.out; have hcz21_0 : w18.cell? ⟨gb265, 0, none⟩ = some (.int .i64 0) := (zc_ BK265.out 0).trans rfl; have hcz21_1 : w18.cell? ⟨gb265, 1, none⟩ = some (.int .i64 0) := (zc_ BK265.out 1).trans rfl; have hcz21_2 : w18.cell? ⟨gb265, 2, none⟩ = some (.int .i64 0) := (zc_ BK265.out 2).trans rfl; have hcz21_3 : w18.cell? ⟨gb265, 3, none⟩ = some (.string ⟨#[]⟩) := (zc_ BK265.out 3).trans rfl; have hcz21_4 : w18.cell? ⟨gb265, 4, none⟩ = some (.bool false) := (zc_ BK265.out 4).trans rfl; have hfz21_0 := zf_ BK265.out 0; have hfz21_1 := zf_ BK265.out 1; have hfz21_2 := zf_ BK265.out 2; have hfz21_3 := zf_ BK265.out 3; have hfz21_4 := zf_ BK265.out 4))
                  (try simp only [Act.put, sa_, sz_, ss_])
                  go_cut [] (fun wc => ∃ (kq : Nat) (x263001_16 : Int) (x263002_16 : Int) (x263003_16 : Int) (x264000_16 : ByteArray) (x264001_16 : Int) (x264002_16 : Int) (x264003_16 : Int) (x264004_16 : Int) (x264005_16 : ByteArray) (x264006_16 : Bool), Aside0 (usufructlaw04_FieldTakes.j2 kq l1 x7_2 t258 x263001_16 x263002_16 x263003_16 x264000_16 x264001_16 x264002_16 x264003_16 x264004_16 x264005_16 x264006_16 = some r) ∧ Aside0 (kq ≤ k2) ∧ Aside0 (wc.heap[gb263]? = some (.cells #[.string x264000_16, .int .i64 x264001_16, .int .i64 x264002_16, .int .i64 x264003_16, .int .i64 x264004_16, .string x264005_16, .bool x264006_16] 40 (0, 0))) ∧ Aside0 (wc.heap[gb265]? = some (.cells #[.int .i64 ((rd_T29 l1 x7_2).f0), .int .i64 ((rd_T29 l1 x7_2).f1), .int .i64 ((rd_T29 l1 x7_2).f2), .string ((rd_T29 l1 x7_2).f3), .bool ((rd_T29 l1 x7_2).f4)] 29 (0, 0))) ∧ Aside0 (IsS81 w wc g262 t258 x263001_16 x263002_16 x263003_16) ∧ Aside0 (Below w.heap.size w wc))
                  case first =>
                    have H := HC17.out
                    clear HC17
                    by_cases c22 : ((rd_T29 l1 x7_2).f0) = 0
                    · rw [if_pos c22] at H
                      have c22b0 : (((rd_T29 l1 x7_2).f0) == 0) = true := beq_iff_eq.mpr c22
                      have c22b1 : (((rd_T29 l1 x7_2).f0) != 0) = false := bne_eq_false_iff_eq.mpr c22
                      clear c22
                      (first | rw [c22b0] | (simp only [i64_w, i32_w]; rw [c22b0]) | skip)
                      replace H := Option.bind_eq_some_iff.mp H
                      obtain ⟨⟨t266, t267, t268, t269, t270, t271, t272, t273⟩, A230, H⟩ := H
                      replace H : ((field_Reader_Num.f t258 x263001_2 x263002_2 x263003_2).bind fun bt275 => (if bt275.1 = t273 then (usufructlaw04_FieldTakes.j2 k2 l1 x7_2 t258 bt275.2.1 bt275.2.2.1 bt275.2.2.2 t266 t267 t268 t269 t270 t271 t272) else (some false))) = some r := H
                      have A23 := ak_ A230
                      clear A230
                      replace H := Option.bind_eq_some_iff.mp H
                      obtain ⟨⟨t275, t276, t277, t278⟩, A240, H⟩ := H
                      replace H : (if t275 = t273 then (usufructlaw04_FieldTakes.j2 k2 l1 x7_2 t258 t276 t277 t278 t266 t267 t268 t269 t270 t271 t272) else (some false)) = some r := H
                      have A24 := ak_ A240
                      clear A240
                      by_cases c25 : t275 = t273
                      · rw [if_pos c25] at H
                        have c25b0 : (t275 == t273) = true := beq_iff_eq.mpr c25
                        have c25b1 : (t275 != t273) = false := bne_eq_false_iff_eq.mpr c25
                        clear c25
                        have H' := ak_ H
                        clear H
                        have hnb26 := NB263_265.out
                        have hnc26 := NB265_263.out
                        have hnb27 := NB263_262.out
                        have hnc27 := NB262_263.out
                        have hcz28_0 : w18.cell? ⟨gb263, 0, none⟩ = some (.string x264000_2) := (zc_ BK263.out 0).trans rfl
                        have hcz28_1 : w18.cell? ⟨gb263, 1, none⟩ = some (.int .i64 x264001_2) := (zc_ BK263.out 1).trans rfl
                        have hcz28_2 : w18.cell? ⟨gb263, 2, none⟩ = some (.int .i64 x264002_2) := (zc_ BK263.out 2).trans rfl
                        have hcz28_3 : w18.cell? ⟨gb263, 3, none⟩ = some (.int .i64 x264003_2) := (zc_ BK263.out 3).trans rfl
                        have hcz28_4 : w18.cell? ⟨gb263, 4, none⟩ = some (.int .i64 x264004_2) := (zc_ BK263.out 4).trans rfl
                        have hcz28_5 : w18.cell? ⟨gb263, 5, none⟩ = some (.string x264005_2) := (zc_ BK263.out 5).trans rfl
                        have hcz28_6 : w18.cell? ⟨gb263, 6, none⟩ = some (.bool x264006_2) := (zc_ BK263.out 6).trans rfl
                        have hfz28_0 := zf_ BK263.out 0
                        have hfz28_1 := zf_ BK263.out 1
                        have hfz28_2 := zf_ BK263.out 2
                        have hfz28_3 := zf_ BK263.out 3
                        have hfz28_4 := zf_ BK263.out 4
                        have hfz28_5 := zf_ BK263.out 5
                        have hfz28_6 := zf_ BK263.out 6
                        go_wp2_with (first | ((with_reducible refine gate_callee (f := 21) rfl ?_); refine goesL_ (some 50) rfl rfl Try.func21 (by kernel_rfl) rfl #[.agg #[.string x264000_2, .int .i64 x264001_2, .int .i64 x264002_2, .int .i64 x264003_2, .int .i64 x264004_2, .string x264005_2, .bool x264006_2]] rfl (by (try simp only [List.map_toArray, List.map_cons, List.map_nil]); first | done | rfl | (simp only [List.length_drop, List.length_take]; rfl)) ?_; (with_reducible refine (usufructref04_Take.calls k2 x264000_2 x264001_2 x264002_2 x264003_2 x264004_2 x264005_2 x264006_2 t266 t267 t268 t269 t270 t271 t272 t273 _ A23.out).mono ?_); rintro e w29 ⟨rfl, hb⟩; refine ⟨_, rfl, ?_⟩; have n0_ := ak_ (blk_below (g := gb263) (o := .cells #[.string x264000_2, .int .i64 x264001_2, .int .i64 x264002_2, .int .i64 x264003_2, .int .i64 x264004_2, .string x264005_2, .bool x264006_2] 40 (0, 0)) (by (with_reducible repeat (first | apply zn_ | apply zd_ | apply za_)); refine zr_ ?_ NB263_265.out _; (with_reducible repeat (first | apply zn_ | apply zd_ | apply za_)); refine zr_ ?_ NB263_265.out _; (with_reducible repeat (first | apply zn_ | apply zd_ | apply za_)); refine zr_ ?_ NB263_265.out _; (with_reducible repeat (first | apply zn_ | apply zd_ | apply za_)); refine zr_ ?_ NB263_265.out _; (with_reducible repeat (first | apply zn_ | apply zd_ | apply za_)); refine zr_ ?_ NB263_265.out _; (with_reducible repeat (first | apply zn_ | apply zd_ | apply za_)); exact BK263.out) hb); have n1_ := ak_ (IsS81.below (show IsS81 w (((((w18.setCell ⟨gb265, 0, none⟩ (.int .i64 ((rd_T29 l1 x7_2).f0))).setCell ⟨gb265, 1, none⟩ (.int .i64 ((rd_T29 l1 x7_2).f1))).setCell ⟨gb265, 2, none⟩ (.int .i64 ((rd_T29 l1 x7_2).f2))).setCell ⟨gb265, 3, none⟩ (.string ((rd_T29 l1 x7_2).f3))).setCell ⟨gb265, 4, none⟩ (.bool ((rd_T29 l1 x7_2).f4))) g262 t258 x263001_2 x263002_2 x263003_2 from by repeat (first | (with_reducible first | exact HI262.out | apply i81a_ | apply i81n_ | apply i81d_ | refine IsS81.far ?_ NB262_263.out _ | refine IsS81.far ?_ NB262_265.out _) | exact HI262.out)) hb); have n2_ := ak_ (blk_below (g := gb265) (o := .cells #[.int .i64 ((rd_T29 l1 x7_2).f0), .int .i64 ((rd_T29 l1 x7_2).f1), .int .i64 ((rd_T29 l1 x7_2).f2), .string ((rd_T29 l1 x7_2).f3), .bool ((rd_T29 l1 x7_2).f4)] 29 (0, 0)) (by (with_reducible repeat (first | apply zn_ | apply zd_ | apply za_)); refine zp_ (cs := #[.int .i64 ((rd_T29 l1 x7_2).f0), .int .i64 ((rd_T29 l1 x7_2).f1), .int .i64 ((rd_T29 l1 x7_2).f2), .string ((rd_T29 l1 x7_2).f3), .bool false]) ?_ 4 _ rfl; (with_reducible repeat (first | apply zn_ | apply zd_ | apply za_)); refine zp_ (cs := #[.int .i64 ((rd_T29 l1 x7_2).f0), .int .i64 ((rd_T29 l1 x7_2).f1), .int .i64 ((rd_T29 l1 x7_2).f2), .string ⟨#[]⟩, .bool false]) ?_ 3 _ rfl; (with_reducible repeat (first | apply zn_ | apply zd_ | apply za_)); refine zp_ (cs := #[.int .i64 ((rd_T29 l1 x7_2).f0), .int .i64 ((rd_T29 l1 x7_2).f1), .int .i64 0, .string ⟨#[]⟩, .bool false]) ?_ 2 _ rfl; (with_reducible repeat (first | apply zn_ | apply zd_ | apply za_)); refine zp_ (cs := #[.int .i64 ((rd_T29 l1 x7_2).f0), .int .i64 0, .int .i64 0, .string ⟨#[]⟩, .bool false]) ?_ 1 _ rfl; (with_reducible repeat (first | apply zn_ | apply zd_ | apply za_)); refine zp_ (cs := #[.int .i64 0, .int .i64 0, .int .i64 0, .string ⟨#[]⟩, .bool false]) ?_ 0 _ rfl; (with_reducible repeat (first | apply zn_ | apply zd_ | apply za_)); exact BK265.out) hb); have n3_ := ak_ (ps_ (by repeat (first | (with_reducible first | exact HB.out | apply pa_ | apply pd_ | apply p1_ | refine zs_ ?_ (IsS81.ge HI262.out) | refine zs_ ?_ GE263.out | refine zs_ ?_ GE265.out) | exact HB.out)) hb); clear BK263; clear HI262; clear BK265; clear HB; have BK263 := n0_; have HI262 := n1_; have BK265 := n2_; have HB := n3_; clear n0_ n1_ n2_ n3_; (try clear hb hk hi)) | ((with_reducible refine gate_dst (N := 9) rfl ?_); (try (refine gate_guard (by rfl) ?_; dsimp only)); refine box_event ?hg (N := 9) ?hd (cs := #[.string ⟨#[]⟩, .int .i64 0, .int .i64 0, .int .i64 0, .int .i64 0, .string ⟨#[]⟩, .bool false]) (t := 40) ?hr ?_; (case hd => rfl); (case hg => rfl); (case hr => first | (go_simp; done) | (go_simp; rfl)); intro gb274 hg w30 hbox hb; have n0_ := ak_ (blk_below (g := gb263) (o := .cells #[.string x264000_2, .int .i64 x264001_2, .int .i64 x264002_2, .int .i64 x264003_2, .int .i64 x264004_2, .string x264005_2, .bool x264006_2] 40 (0, 0)) (by (with_reducible repeat (first | apply zn_ | apply zd_ | apply za_)); exact BK263.out) hb); have n1_ := ak_ (IsS81.below (by repeat (first | (with_reducible first | exact HI262.out | apply i81a_ | apply i81n_ | apply i81d_ | refine IsS81.far ?_ NB262_263.out _ | refine IsS81.far ?_ NB262_265.out _) | exact HI262.out)) hb); have n2_ := ak_ (blk_below (g := gb265) (o := .cells #[.int .i64 ((rd_T29 l1 x7_2).f0), .int .i64 ((rd_T29 l1 x7_2).f1), .int .i64 ((rd_T29 l1 x7_2).f2), .string ((rd_T29 l1 x7_2).f3), .bool ((rd_T29 l1 x7_2).f4)] 29 (0, 0)) (by (with_reducible repeat (first | apply zn_ | apply zd_ | apply za_)); exact BK265.out) hb); have n3_ := ak_ (ps_ (by repeat (first | (with_reducible first | exact HB.out | apply pa_ | apply pd_ | apply p1_ | refine zs_ ?_ (IsS81.ge HI262.out) | refine zs_ ?_ GE263.out | refine zs_ ?_ GE265.out) | exact HB.out)) hb); have n4_ := ak_ (hbox); have n5_ := ak_ ((by rw [hg]; exact (below_size (by repeat (first | (with_reducible first | exact HB.out | apply pa_ | apply pd_ | apply p1_ | refine zs_ ?_ (IsS81.ge HI262.out) | refine zs_ ?_ GE263.out | refine zs_ ?_ GE265.out) | exact HB.out))) : w.heap.size ≤ gb274)); have n6_ := ak_ ((by rw [hg]; exact (below_size (by repeat (first | (with_reducible first | exact HB.out | apply pa_ | apply pd_ | apply p1_ | refine zs_ ?_ (IsS81.ge HI262.out) | refine zs_ ?_ GE263.out | refine zs_ ?_ GE265.out) | exact HB.out))) : w.heap.size ≤ gb274)); have n7_ := ak_ ((by rw [hg]; exact Nat.ne_of_lt (blk_lt (g := gb263) (o := .cells #[.string x264000_2, .int .i64 x264001_2, .int .i64 x264002_2, .int .i64 x264003_2, .int .i64 x264004_2, .string x264005_2, .bool x264006_2] 40 (0, 0)) (by (with_reducible repeat (first | apply zn_ | apply zd_ | apply za_)); exact BK263.out)) : gb263 ≠ gb274)); have n8_ := ak_ ((by rw [hg]; exact Nat.ne_of_gt (blk_lt (g := gb263) (o := .cells #[.string x264000_2, .int .i64 x264001_2, .int .i64 x264002_2, .int .i64 x264003_2, .int .i64 x264004_2, .string x264005_2, .bool x264006_2] 40 (0, 0)) (by (with_reducible repeat (first | apply zn_ | apply zd_ | apply za_)); exact BK263.out)) : gb274 ≠ gb263)); have n9_ := ak_ ((by rw [hg]; exact Nat.ne_of_lt (blk_lt (g := gb265) (o := .cells #[.int .i64 ((rd_T29 l1 x7_2).f0), .int .i64 ((rd_T29 l1 x7_2).f1), .int .i64 ((rd_T29 l1 x7_2).f2), .string ((rd_T29 l1 x7_2).f3), .bool ((rd_T29 l1 x7_2).f4)] 29 (0, 0)) (by (with_reducible repeat (first | apply zn_ | apply zd_ | apply za_)); exact BK265.out)) : gb265 ≠ gb274)); have n10_ := ak_ ((by rw [hg]; exact Nat.ne_of_gt (blk_lt (g := gb265) (o := .cells #[.int .i64 ((rd_T29 l1 x7_2).f0), .int .i64 ((rd_T29 l1 x7_2).f1), .int .i64 ((rd_T29 l1 x7_2).f2), .string ((rd_T29 l1 x7_2).f3), .bool ((rd_T29 l1 x7_2).f4)] 29 (0, 0)) (by (with_reducible repeat (first | apply zn_ | apply zd_ | apply za_)); exact BK265.out)) : gb274 ≠ gb265)); have n11_ := ak_ ((by rw [hg]; exact Nat.ne_of_lt (IsS81.lt (show IsS81 w _ g262 t258 x263001_2 x263002_2 x263003_2 from by repeat (first | (with_reducible first | exact HI262.out | apply i81a_ | apply i81n_ | apply i81d_ | refine IsS81.far ?_ NB262_263.out _ | refine IsS81.far ?_ NB262_265.out _) | exact HI262.out))) : g262 ≠ gb274)); have n12_ := ak_ ((by rw [hg]; exact Nat.ne_of_gt (IsS81.lt (show IsS81 w _ g262 t258 x263001_2 x263002_2 x263003_2 from by repeat (first | (with_reducible first | exact HI262.out | apply i81a_ | apply i81n_ | apply i81d_ | refine IsS81.far ?_ NB262_263.out _ | refine IsS81.far ?_ NB262_265.out _) | exact HI262.out))) : gb274 ≠ g262)); clear BK263; clear HI262; clear BK265; clear HB; have BK263 := n0_; have HI262 := n1_; have BK265 := n2_; have HB := n3_; have BK274 := n4_; have GW274 := n5_; have GE274 := n6_; have NB263_274 := n7_; have NB274_263 := n8_; have NB265_274 := n9_; have NB274_265 := n10_; have NB262_274 := n11_; have NB274_262 := n12_; clear n0_ n1_ n2_ n3_ n4_ n5_ n6_ n7_ n8_ n9_ n10_ n11_ n12_; clear hb hbox hg; have hnb31 := NB274_263.out; have hnc31 := NB263_274.out; have hnb32 := NB274_265.out; have hnc32 := NB265_274.out; have hnb33 := NB274_262.out; have hnc33 := NB262_274.out; have hcz34_0 : w30.cell? ⟨gb274, 0, none⟩ = some (.string ⟨#[]⟩) := (zc_ BK274.out 0).trans rfl; have hcz34_1 : w30.cell? ⟨gb274, 1, none⟩ = some (.int .i64 0) := (zc_ BK274.out 1).trans rfl; have hcz34_2 : w30.cell? ⟨gb274, 2, none⟩ = some (.int .i64 0) := (zc_ BK274.out 2).trans rfl; have hcz34_3 : w30.cell? ⟨gb274, 3, none⟩ = some (.int .i64 0) := (zc_ BK274.out 3).trans rfl; have hcz34_4 : w30.cell? ⟨gb274, 4, none⟩ = some (.int .i64 0) := (zc_ BK274.out 4).trans rfl; have hcz34_5 : w30.cell? ⟨gb274, 5, none⟩ = some (.string ⟨#[]⟩) := (zc_ BK274.out 5).trans rfl; have hcz34_6 : w30.cell? ⟨gb274, 6, none⟩ = some (.bool false) := (zc_ BK274.out 6).trans rfl; have hfz34_0 := zf_ BK274.out 0; have hfz34_1 := zf_ BK274.out 1; have hfz34_2 := zf_ BK274.out 2; have hfz34_3 := zf_ BK274.out 3; have hfz34_4 := zf_ BK274.out 4; have hfz34_5 := zf_ BK274.out 5; have hfz34_6 := zf_ BK274.out 6; have hcz35_0 : w30.cell? ⟨gb263, 0, none⟩ = some (.string x264000_2) := (zc_ BK263.out 0).trans rfl; have hcz35_1 : w30.cell? ⟨gb263, 1, none⟩ = some (.int .i64 x264001_2) := (zc_ BK263.out 1).trans rfl; have hcz35_2 : w30.cell? ⟨gb263, 2, none⟩ = some (.int .i64 x264002_2) := (zc_ BK263.out 2).trans rfl; have hcz35_3 : w30.cell? ⟨gb263, 3, none⟩ = some (.int .i64 x264003_2) := (zc_ BK263.out 3).trans rfl; have hcz35_4 : w30.cell? ⟨gb263, 4, none⟩ = some (.int .i64 x264004_2) := (zc_ BK263.out 4).trans rfl; have hcz35_5 : w30.cell? ⟨gb263, 5, none⟩ = some (.string x264005_2) := (zc_ BK263.out 5).trans rfl; have hcz35_6 : w30.cell? ⟨gb263, 6, none⟩ = some (.bool x264006_2) := (zc_ BK263.out 6).trans rfl; have hfz35_0 := zf_ BK263.out 0; have hfz35_1 := zf_ BK263.out 1; have hfz35_2 := zf_ BK263.out 2; have hfz35_3 := zf_ BK263.out 3; have hfz35_4 := zf_ BK263.out 4; have hfz35_5 := zf_ BK263.out 5; have hfz35_6 := zf_ BK263.out 6) | ((with_reducible refine gate_callee (f := 17) rfl ?_); refine goesL_ (some 55) rfl rfl Try.func17 (by kernel_rfl) rfl #[.pointer (some ⟨g262, 0, none⟩)] rfl (by simp only [mt_, mc_, mn_] <;> rfl) ?_; (with_reducible refine (field_Reader_Num.calls g262 t258 x263001_2 x263002_2 x263003_2 t275 t276 t277 t278 w _ ?side1 ?side2 A24.out).mono ?_); (case side1 => repeat (first | (with_reducible first | exact HI262.out | apply i81a_ | apply i81n_ | apply i81d_ | refine IsS81.far ?_ NB262_263.out _ | refine IsS81.far ?_ NB262_265.out _ | refine IsS81.far ?_ NB262_274.out _) | exact HI262.out)); (case side2 => repeat (first | (with_reducible first | exact HB.out | apply pa_ | apply pd_ | apply p1_ | refine zs_ ?_ (IsS81.ge HI262.out) | refine zs_ ?_ GE263.out | refine zs_ ?_ GE265.out | refine zs_ ?_ GE274.out) | exact HB.out)); rintro e w36 ⟨rfl, hi, hb, hk⟩; refine ⟨_, rfl, ?_⟩; have n0_ := ak_ (KeepBut.blk hk (g' := gb263) (o := .cells #[.string t266, .int .i64 t267, .int .i64 t268, .int .i64 t269, .int .i64 t270, .string t271, .bool t272] 40 (0, 0)) (by (with_reducible repeat (first | apply zn_ | apply zd_ | apply za_)); refine zp_ (cs := #[.string t266, .int .i64 t267, .int .i64 t268, .int .i64 t269, .int .i64 t270, .string t271, .bool x264006_2]) ?_ 6 _ rfl; (with_reducible repeat (first | apply zn_ | apply zd_ | apply za_)); refine zp_ (cs := #[.string t266, .int .i64 t267, .int .i64 t268, .int .i64 t269, .int .i64 t270, .string x264005_2, .bool x264006_2]) ?_ 5 _ rfl; (with_reducible repeat (first | apply zn_ | apply zd_ | apply za_)); refine zp_ (cs := #[.string t266, .int .i64 t267, .int .i64 t268, .int .i64 t269, .int .i64 x264004_2, .string x264005_2, .bool x264006_2]) ?_ 4 _ rfl; (with_reducible repeat (first | apply zn_ | apply zd_ | apply za_)); refine zp_ (cs := #[.string t266, .int .i64 t267, .int .i64 t268, .int .i64 x264003_2, .int .i64 x264004_2, .string x264005_2, .bool x264006_2]) ?_ 3 _ rfl; (with_reducible repeat (first | apply zn_ | apply zd_ | apply za_)); refine zp_ (cs := #[.string t266, .int .i64 t267, .int .i64 x264002_2, .int .i64 x264003_2, .int .i64 x264004_2, .string x264005_2, .bool x264006_2]) ?_ 2 _ rfl; (with_reducible repeat (first | apply zn_ | apply zd_ | apply za_)); refine zp_ (cs := #[.string t266, .int .i64 x264001_2, .int .i64 x264002_2, .int .i64 x264003_2, .int .i64 x264004_2, .string x264005_2, .bool x264006_2]) ?_ 1 _ rfl; (with_reducible repeat (first | apply zn_ | apply zd_ | apply za_)); refine zp_ (cs := #[.string x264000_2, .int .i64 x264001_2, .int .i64 x264002_2, .int .i64 x264003_2, .int .i64 x264004_2, .string x264005_2, .bool x264006_2]) ?_ 0 _ rfl; (with_reducible repeat (first | apply zn_ | apply zd_ | apply za_)); refine zr_ ?_ NB263_274.out _; (with_reducible repeat (first | apply zn_ | apply zd_ | apply za_)); refine zr_ ?_ NB263_274.out _; (with_reducible repeat (first | apply zn_ | apply zd_ | apply za_)); refine zr_ ?_ NB263_274.out _; (with_reducible repeat (first | apply zn_ | apply zd_ | apply za_)); refine zr_ ?_ NB263_274.out _; (with_reducible repeat (first | apply zn_ | apply zd_ | apply za_)); refine zr_ ?_ NB263_274.out _; (with_reducible repeat (first | apply zn_ | apply zd_ | apply za_)); refine zr_ ?_ NB263_274.out _; (with_reducible repeat (first | apply zn_ | apply zd_ | apply za_)); refine zr_ ?_ NB263_274.out _; (with_reducible repeat (first | apply zn_ | apply zd_ | apply za_)); exact BK263.out) NB263_262.out (by simp)); have n1_ := ak_ (KeepBut.blk hk (g' := gb265) (o := .cells #[.int .i64 ((rd_T29 l1 x7_2).f0), .int .i64 ((rd_T29 l1 x7_2).f1), .int .i64 ((rd_T29 l1 x7_2).f2), .string ((rd_T29 l1 x7_2).f3), .bool ((rd_T29 l1 x7_2).f4)] 29 (0, 0)) (by (with_reducible repeat (first | apply zn_ | apply zd_ | apply za_)); refine zr_ ?_ NB265_263.out _; (with_reducible repeat (first | apply zn_ | apply zd_ | apply za_)); refine zr_ ?_ NB265_263.out _; (with_reducible repeat (first | apply zn_ | apply zd_ | apply za_)); refine zr_ ?_ NB265_263.out _; (with_reducible repeat (first | apply zn_ | apply zd_ | apply za_)); refine zr_ ?_ NB265_263.out _; (with_reducible repeat (first | apply zn_ | apply zd_ | apply za_)); refine zr_ ?_ NB265_263.out _; (with_reducible repeat (first | apply zn_ | apply zd_ | apply za_)); refine zr_ ?_ NB265_263.out _; (with_reducible repeat (first | apply zn_ | apply zd_ | apply za_)); refine zr_ ?_ NB265_263.out _; (with_reducible repeat (first | apply zn_ | apply zd_ | apply za_)); refine zr_ ?_ NB265_274.out _; (with_reducible repeat (first | apply zn_ | apply zd_ | apply za_)); refine zr_ ?_ NB265_274.out _; (with_reducible repeat (first | apply zn_ | apply zd_ | apply za_)); refine zr_ ?_ NB265_274.out _; (with_reducible repeat (first | apply zn_ | apply zd_ | apply za_)); refine zr_ ?_ NB265_274.out _; (with_reducible repeat (first | apply zn_ | apply zd_ | apply za_)); refine zr_ ?_ NB265_274.out _; (with_reducible repeat (first | apply zn_ | apply zd_ | apply za_)); refine zr_ ?_ NB265_274.out _; (with_reducible repeat (first | apply zn_ | apply zd_ | apply za_)); refine zr_ ?_ NB265_274.out _; (with_reducible repeat (first | apply zn_ | apply zd_ | apply za_)); exact BK265.out) NB265_262.out (by simp)); have n2_ := ak_ (KeepBut.blk hk (g' := gb274) (o := .cells #[.string t266, .int .i64 t267, .int .i64 t268, .int .i64 t269, .int .i64 t270, .string t271, .bool t272] 40 (0, 0)) (by (with_reducible repeat (first | apply zn_ | apply zd_ | apply za_)); refine zr_ ?_ NB274_263.out _; (with_reducible repeat (first | apply zn_ | apply zd_ | apply za_)); refine zr_ ?_ NB274_263.out _; (with_reducible repeat (first | apply zn_ | apply zd_ | apply za_)); refine zr_ ?_ NB274_263.out _; (with_reducible repeat (first | apply zn_ | apply zd_ | apply za_)); refine zr_ ?_ NB274_263.out _; (with_reducible repeat (first | apply zn_ | apply zd_ | apply za_)); refine zr_ ?_ NB274_263.out _; (with_reducible repeat (first | apply zn_ | apply zd_ | apply za_)); refine zr_ ?_ NB274_263.out _; (with_reducible repeat (first | apply zn_ | apply zd_ | apply za_)); refine zr_ ?_ NB274_263.out _; (with_reducible repeat (first | apply zn_ | apply zd_ | apply za_)); refine zp_ (cs := #[.string t266, .int .i64 t267, .int .i64 t268, .int .i64 t269, .int .i64 t270, .string t271, .bool false]) ?_ 6 _ rfl; (with_reducible repeat (first | apply zn_ | apply zd_ | apply za_)); refine zp_ (cs := #[.string t266, .int .i64 t267, .int .i64 t268, .int .i64 t269, .int .i64 t270, .string ⟨#[]⟩, .bool false]) ?_ 5 _ rfl; (with_reducible repeat (first | apply zn_ | apply zd_ | apply za_)); refine zp_ (cs := #[.string t266, .int .i64 t267, .int .i64 t268, .int .i64 t269, .int .i64 0, .string ⟨#[]⟩, .bool false]) ?_ 4 _ rfl; (with_reducible repeat (first | apply zn_ | apply zd_ | apply za_)); refine zp_ (cs := #[.string t266, .int .i64 t267, .int .i64 t268, .int .i64 0, .int .i64 0, .string ⟨#[]⟩, .bool false]) ?_ 3 _ rfl; (with_reducible repeat (first | apply zn_ | apply zd_ | apply za_)); refine zp_ (cs := #[.string t266, .int .i64 t267, .int .i64 0, .int .i64 0, .int .i64 0, .string ⟨#[]⟩, .bool false]) ?_ 2 _ rfl; (with_reducible repeat (first | apply zn_ | apply zd_ | apply za_)); refine zp_ (cs := #[.string t266, .int .i64 0, .int .i64 0, .int .i64 0, .int .i64 0, .string ⟨#[]⟩, .bool false]) ?_ 1 _ rfl; (with_reducible repeat (first | apply zn_ | apply zd_ | apply za_)); refine zp_ (cs := #[.string ⟨#[]⟩, .int .i64 0, .int .i64 0, .int .i64 0, .int .i64 0, .string ⟨#[]⟩, .bool false]) ?_ 0 _ rfl; (with_reducible repeat (first | apply zn_ | apply zd_ | apply za_)); exact BK274.out) NB274_262.out (by simp)); have n3_ := ak_ (hb); have n4_ := ak_ (hi); clear BK263; clear BK265; clear BK274; clear HB; clear HI262; have BK263 := n0_; have BK265 := n1_; have BK274 := n2_; have HB := n3_; have HI262 := n4_; clear n0_ n1_ n2_ n3_ n4_; (try clear hb hk hi)))
                        go_meet
                        case rel => exact ⟨_, (t276), (t277), (t278), (t266), (t267), (t268), (t269), (t270), (t271), (t272), H', ⟨by have := HJ4.out; have := HK2.out; first | omega | exact Nat.le_refl _⟩, ⟨by (with_reducible repeat (first | apply zn_ | apply zd_ | apply za_)); exact BK263.out⟩, ⟨by (with_reducible repeat (first | apply zn_ | apply zd_ | apply za_)); exact BK265.out⟩, ⟨by repeat (first | (with_reducible first | exact HI262.out | apply i81a_ | apply i81n_ | apply i81d_ | refine IsS81.far ?_ NB262_263.out _ | refine IsS81.far ?_ NB262_265.out _ | refine IsS81.far ?_ NB262_274.out _) | exact HI262.out)⟩, ⟨by repeat (first | (with_reducible first | exact HB.out | apply pa_ | apply pd_ | apply p1_ | refine zs_ ?_ (IsS81.ge HI262.out) | refine zs_ ?_ GE263.out | refine zs_ ?_ GE265.out | refine zs_ ?_ GE274.out) | exact HB.out)⟩⟩
                      · rw [if_neg c25] at H
                        have c25b0 : (t275 == t273) = false := beq_eq_false_iff_ne.mpr c25
                        have c25b1 : (t275 != t273) = true := bne_iff_ne.mpr c25
                        obtain rfl := Option.some.inj H
                        have hnb37 := NB263_265.out
                        have hnc37 := NB265_263.out
                        have hnb38 := NB263_262.out
                        have hnc38 := NB262_263.out
                        have hcz39_0 : w18.cell? ⟨gb263, 0, none⟩ = some (.string x264000_2) := (zc_ BK263.out 0).trans rfl
                        have hcz39_1 : w18.cell? ⟨gb263, 1, none⟩ = some (.int .i64 x264001_2) := (zc_ BK263.out 1).trans rfl
                        have hcz39_2 : w18.cell? ⟨gb263, 2, none⟩ = some (.int .i64 x264002_2) := (zc_ BK263.out 2).trans rfl
                        have hcz39_3 : w18.cell? ⟨gb263, 3, none⟩ = some (.int .i64 x264003_2) := (zc_ BK263.out 3).trans rfl
                        have hcz39_4 : w18.cell? ⟨gb263, 4, none⟩ = some (.int .i64 x264004_2) := (zc_ BK263.out 4).trans rfl
                        have hcz39_5 : w18.cell? ⟨gb263, 5, none⟩ = some (.string x264005_2) := (zc_ BK263.out 5).trans rfl
                        have hcz39_6 : w18.cell? ⟨gb263, 6, none⟩ = some (.bool x264006_2) := (zc_ BK263.out 6).trans rfl
                        have hfz39_0 := zf_ BK263.out 0
                        have hfz39_1 := zf_ BK263.out 1
                        have hfz39_2 := zf_ BK263.out 2
                        have hfz39_3 := zf_ BK263.out 3
                        have hfz39_4 := zf_ BK263.out 4
                        have hfz39_5 := zf_ BK263.out 5
                        have hfz39_6 := zf_ BK263.out 6
                        go_wp2_with (first | ((with_reducible refine gate_callee (f := 21) rfl ?_); refine goesL_ (some 50) rfl rfl Try.func21 (by kernel_rfl) rfl #[.agg #[.string x264000_2, .int .i64 x264001_2, .int .i64 x264002_2, .int .i64 x264003_2, .int .i64 x264004_2, .string x264005_2, .bool x264006_2]] rfl (by (try simp only [List.map_toArray, List.map_cons, List.map_nil]); first | done | rfl | (simp only [List.length_drop, List.length_take]; rfl)) ?_; (with_reducible refine (usufructref04_Take.calls k2 x264000_2 x264001_2 x264002_2 x264003_2 x264004_2 x264005_2 x264006_2 t266 t267 t268 t269 t270 t271 t272 t273 _ A23.out).mono ?_); rintro e w40 ⟨rfl, hb⟩; refine ⟨_, rfl, ?_⟩; have n0_ := ak_ (blk_below (g := gb263) (o := .cells #[.string x264000_2, .int .i64 x264001_2, .int .i64 x264002_2, .int .i64 x264003_2, .int .i64 x264004_2, .string x264005_2, .bool x264006_2] 40 (0, 0)) (by (with_reducible repeat (first | apply zn_ | apply zd_ | apply za_)); refine zr_ ?_ NB263_265.out _; (with_reducible repeat (first | apply zn_ | apply zd_ | apply za_)); refine zr_ ?_ NB263_265.out _; (with_reducible repeat (first | apply zn_ | apply zd_ | apply za_)); refine zr_ ?_ NB263_265.out _; (with_reducible repeat (first | apply zn_ | apply zd_ | apply za_)); refine zr_ ?_ NB263_265.out _; (with_reducible repeat (first | apply zn_ | apply zd_ | apply za_)); refine zr_ ?_ NB263_265.out _; (with_reducible repeat (first | apply zn_ | apply zd_ | apply za_)); exact BK263.out) hb); have n1_ := ak_ (IsS81.below (show IsS81 w (((((w18.setCell ⟨gb265, 0, none⟩ (.int .i64 ((rd_T29 l1 x7_2).f0))).setCell ⟨gb265, 1, none⟩ (.int .i64 ((rd_T29 l1 x7_2).f1))).setCell ⟨gb265, 2, none⟩ (.int .i64 ((rd_T29 l1 x7_2).f2))).setCell ⟨gb265, 3, none⟩ (.string ((rd_T29 l1 x7_2).f3))).setCell ⟨gb265, 4, none⟩ (.bool ((rd_T29 l1 x7_2).f4))) g262 t258 x263001_2 x263002_2 x263003_2 from by repeat (first | (with_reducible first | exact HI262.out | apply i81a_ | apply i81n_ | apply i81d_ | refine IsS81.far ?_ NB262_263.out _ | refine IsS81.far ?_ NB262_265.out _) | exact HI262.out)) hb); have n2_ := ak_ (blk_below (g := gb265) (o := .cells #[.int .i64 ((rd_T29 l1 x7_2).f0), .int .i64 ((rd_T29 l1 x7_2).f1), .int .i64 ((rd_T29 l1 x7_2).f2), .string ((rd_T29 l1 x7_2).f3), .bool ((rd_T29 l1 x7_2).f4)] 29 (0, 0)) (by (with_reducible repeat (first | apply zn_ | apply zd_ | apply za_)); refine zp_ (cs := #[.int .i64 ((rd_T29 l1 x7_2).f0), .int .i64 ((rd_T29 l1 x7_2).f1), .int .i64 ((rd_T29 l1 x7_2).f2), .string ((rd_T29 l1 x7_2).f3), .bool false]) ?_ 4 _ rfl; (with_reducible repeat (first | apply zn_ | apply zd_ | apply za_)); refine zp_ (cs := #[.int .i64 ((rd_T29 l1 x7_2).f0), .int .i64 ((rd_T29 l1 x7_2).f1), .int .i64 ((rd_T29 l1 x7_2).f2), .string ⟨#[]⟩, .bool false]) ?_ 3 _ rfl; (with_reducible repeat (first | apply zn_ | apply zd_ | apply za_)); refine zp_ (cs := #[.int .i64 ((rd_T29 l1 x7_2).f0), .int .i64 ((rd_T29 l1 x7_2).f1), .int .i64 0, .string ⟨#[]⟩, .bool false]) ?_ 2 _ rfl; (with_reducible repeat (first | apply zn_ | apply zd_ | apply za_)); refine zp_ (cs := #[.int .i64 ((rd_T29 l1 x7_2).f0), .int .i64 0, .int .i64 0, .string ⟨#[]⟩, .bool false]) ?_ 1 _ rfl; (with_reducible repeat (first | apply zn_ | apply zd_ | apply za_)); refine zp_ (cs := #[.int .i64 0, .int .i64 0, .int .i64 0, .string ⟨#[]⟩, .bool false]) ?_ 0 _ rfl; (with_reducible repeat (first | apply zn_ | apply zd_ | apply za_)); exact BK265.out) hb); have n3_ := ak_ (ps_ (by repeat (first | (with_reducible first | exact HB.out | apply pa_ | apply pd_ | apply p1_ | refine zs_ ?_ (IsS81.ge HI262.out) | refine zs_ ?_ GE263.out | refine zs_ ?_ GE265.out) | exact HB.out)) hb); clear BK263; clear HI262; clear BK265; clear HB; have BK263 := n0_; have HI262 := n1_; have BK265 := n2_; have HB := n3_; clear n0_ n1_ n2_ n3_; (try clear hb hk hi)) | ((with_reducible refine gate_dst (N := 9) rfl ?_); (try (refine gate_guard (by rfl) ?_; dsimp only)); refine box_event ?hg (N := 9) ?hd (cs := #[.string ⟨#[]⟩, .int .i64 0, .int .i64 0, .int .i64 0, .int .i64 0, .string ⟨#[]⟩, .bool false]) (t := 40) ?hr ?_; (case hd => rfl); (case hg => rfl); (case hr => first | (go_simp; done) | (go_simp; rfl)); intro gb274 hg w41 hbox hb; have n0_ := ak_ (blk_below (g := gb263) (o := .cells #[.string x264000_2, .int .i64 x264001_2, .int .i64 x264002_2, .int .i64 x264003_2, .int .i64 x264004_2, .string x264005_2, .bool x264006_2] 40 (0, 0)) (by (with_reducible repeat (first | apply zn_ | apply zd_ | apply za_)); exact BK263.out) hb); have n1_ := ak_ (IsS81.below (by repeat (first | (with_reducible first | exact HI262.out | apply i81a_ | apply i81n_ | apply i81d_ | refine IsS81.far ?_ NB262_263.out _ | refine IsS81.far ?_ NB262_265.out _) | exact HI262.out)) hb); have n2_ := ak_ (blk_below (g := gb265) (o := .cells #[.int .i64 ((rd_T29 l1 x7_2).f0), .int .i64 ((rd_T29 l1 x7_2).f1), .int .i64 ((rd_T29 l1 x7_2).f2), .string ((rd_T29 l1 x7_2).f3), .bool ((rd_T29 l1 x7_2).f4)] 29 (0, 0)) (by (with_reducible repeat (first | apply zn_ | apply zd_ | apply za_)); exact BK265.out) hb); have n3_ := ak_ (ps_ (by repeat (first | (with_reducible first | exact HB.out | apply pa_ | apply pd_ | apply p1_ | refine zs_ ?_ (IsS81.ge HI262.out) | refine zs_ ?_ GE263.out | refine zs_ ?_ GE265.out) | exact HB.out)) hb); have n4_ := ak_ (hbox); have n5_ := ak_ ((by rw [hg]; exact (below_size (by repeat (first | (with_reducible first | exact HB.out | apply pa_ | apply pd_ | apply p1_ | refine zs_ ?_ (IsS81.ge HI262.out) | refine zs_ ?_ GE263.out | refine zs_ ?_ GE265.out) | exact HB.out))) : w.heap.size ≤ gb274)); have n6_ := ak_ ((by rw [hg]; exact (below_size (by repeat (first | (with_reducible first | exact HB.out | apply pa_ | apply pd_ | apply p1_ | refine zs_ ?_ (IsS81.ge HI262.out) | refine zs_ ?_ GE263.out | refine zs_ ?_ GE265.out) | exact HB.out))) : w.heap.size ≤ gb274)); have n7_ := ak_ ((by rw [hg]; exact Nat.ne_of_lt (blk_lt (g := gb263) (o := .cells #[.string x264000_2, .int .i64 x264001_2, .int .i64 x264002_2, .int .i64 x264003_2, .int .i64 x264004_2, .string x264005_2, .bool x264006_2] 40 (0, 0)) (by (with_reducible repeat (first | apply zn_ | apply zd_ | apply za_)); exact BK263.out)) : gb263 ≠ gb274)); have n8_ := ak_ ((by rw [hg]; exact Nat.ne_of_gt (blk_lt (g := gb263) (o := .cells #[.string x264000_2, .int .i64 x264001_2, .int .i64 x264002_2, .int .i64 x264003_2, .int .i64 x264004_2, .string x264005_2, .bool x264006_2] 40 (0, 0)) (by (with_reducible repeat (first | apply zn_ | apply zd_ | apply za_)); exact BK263.out)) : gb274 ≠ gb263)); have n9_ := ak_ ((by rw [hg]; exact Nat.ne_of_lt (blk_lt (g := gb265) (o := .cells #[.int .i64 ((rd_T29 l1 x7_2).f0), .int .i64 ((rd_T29 l1 x7_2).f1), .int .i64 ((rd_T29 l1 x7_2).f2), .string ((rd_T29 l1 x7_2).f3), .bool ((rd_T29 l1 x7_2).f4)] 29 (0, 0)) (by (with_reducible repeat (first | apply zn_ | apply zd_ | apply za_)); exact BK265.out)) : gb265 ≠ gb274)); have n10_ := ak_ ((by rw [hg]; exact Nat.ne_of_gt (blk_lt (g := gb265) (o := .cells #[.int .i64 ((rd_T29 l1 x7_2).f0), .int .i64 ((rd_T29 l1 x7_2).f1), .int .i64 ((rd_T29 l1 x7_2).f2), .string ((rd_T29 l1 x7_2).f3), .bool ((rd_T29 l1 x7_2).f4)] 29 (0, 0)) (by (with_reducible repeat (first | apply zn_ | apply zd_ | apply za_)); exact BK265.out)) : gb274 ≠ gb265)); have n11_ := ak_ ((by rw [hg]; exact Nat.ne_of_lt (IsS81.lt (show IsS81 w _ g262 t258 x263001_2 x263002_2 x263003_2 from by repeat (first | (with_reducible first | exact HI262.out | apply i81a_ | apply i81n_ | apply i81d_ | refine IsS81.far ?_ NB262_263.out _ | refine IsS81.far ?_ NB262_265.out _) | exact HI262.out))) : g262 ≠ gb274)); have n12_ := ak_ ((by rw [hg]; exact Nat.ne_of_gt (IsS81.lt (show IsS81 w _ g262 t258 x263001_2 x263002_2 x263003_2 from by repeat (first | (with_reducible first | exact HI262.out | apply i81a_ | apply i81n_ | apply i81d_ | refine IsS81.far ?_ NB262_263.out _ | refine IsS81.far ?_ NB262_265.out _) | exact HI262.out))) : gb274 ≠ g262)); clear BK263; clear HI262; clear BK265; clear HB; have BK263 := n0_; have HI262 := n1_; have BK265 := n2_; have HB := n3_; have BK274 := n4_; have GW274 := n5_; have GE274 := n6_; have NB263_274 := n7_; have NB274_263 := n8_; have NB265_274 := n9_; have NB274_265 := n10_; have NB262_274 := n11_; have NB274_262 := n12_; clear n0_ n1_ n2_ n3_ n4_ n5_ n6_ n7_ n8_ n9_ n10_ n11_ n12_; clear hb hbox hg; have hnb42 := NB274_263.out; have hnc42 := NB263_274.out; have hnb43 := NB274_265.out; have hnc43 := NB265_274.out; have hnb44 := NB274_262.out; have hnc44 := NB262_274.out; have hcz45_0 : w41.cell? ⟨gb274, 0, none⟩ = some (.string ⟨#[]⟩) := (zc_ BK274.out 0).trans rfl; have hcz45_1 : w41.cell? ⟨gb274, 1, none⟩ = some (.int .i64 0) := (zc_ BK274.out 1).trans rfl; have hcz45_2 : w41.cell? ⟨gb274, 2, none⟩ = some (.int .i64 0) := (zc_ BK274.out 2).trans rfl; have hcz45_3 : w41.cell? ⟨gb274, 3, none⟩ = some (.int .i64 0) := (zc_ BK274.out 3).trans rfl; have hcz45_4 : w41.cell? ⟨gb274, 4, none⟩ = some (.int .i64 0) := (zc_ BK274.out 4).trans rfl; have hcz45_5 : w41.cell? ⟨gb274, 5, none⟩ = some (.string ⟨#[]⟩) := (zc_ BK274.out 5).trans rfl; have hcz45_6 : w41.cell? ⟨gb274, 6, none⟩ = some (.bool false) := (zc_ BK274.out 6).trans rfl; have hfz45_0 := zf_ BK274.out 0; have hfz45_1 := zf_ BK274.out 1; have hfz45_2 := zf_ BK274.out 2; have hfz45_3 := zf_ BK274.out 3; have hfz45_4 := zf_ BK274.out 4; have hfz45_5 := zf_ BK274.out 5; have hfz45_6 := zf_ BK274.out 6; have hcz46_0 : w41.cell? ⟨gb263, 0, none⟩ = some (.string x264000_2) := (zc_ BK263.out 0).trans rfl; have hcz46_1 : w41.cell? ⟨gb263, 1, none⟩ = some (.int .i64 x264001_2) := (zc_ BK263.out 1).trans rfl; have hcz46_2 : w41.cell? ⟨gb263, 2, none⟩ = some (.int .i64 x264002_2) := (zc_ BK263.out 2).trans rfl; have hcz46_3 : w41.cell? ⟨gb263, 3, none⟩ = some (.int .i64 x264003_2) := (zc_ BK263.out 3).trans rfl; have hcz46_4 : w41.cell? ⟨gb263, 4, none⟩ = some (.int .i64 x264004_2) := (zc_ BK263.out 4).trans rfl; have hcz46_5 : w41.cell? ⟨gb263, 5, none⟩ = some (.string x264005_2) := (zc_ BK263.out 5).trans rfl; have hcz46_6 : w41.cell? ⟨gb263, 6, none⟩ = some (.bool x264006_2) := (zc_ BK263.out 6).trans rfl; have hfz46_0 := zf_ BK263.out 0; have hfz46_1 := zf_ BK263.out 1; have hfz46_2 := zf_ BK263.out 2; have hfz46_3 := zf_ BK263.out 3; have hfz46_4 := zf_ BK263.out 4; have hfz46_5 := zf_ BK263.out 5; have hfz46_6 := zf_ BK263.out 6) | ((with_reducible refine gate_callee (f := 17) rfl ?_); refine goesL_ (some 55) rfl rfl Try.func17 (by kernel_rfl) rfl #[.pointer (some ⟨g262, 0, none⟩)] rfl (by simp only [mt_, mc_, mn_] <;> rfl) ?_; (with_reducible refine (field_Reader_Num.calls g262 t258 x263001_2 x263002_2 x263003_2 t275 t276 t277 t278 w _ ?side1 ?side2 A24.out).mono ?_); (case side1 => repeat (first | (with_reducible first | exact HI262.out | apply i81a_ | apply i81n_ | apply i81d_ | refine IsS81.far ?_ NB262_263.out _ | refine IsS81.far ?_ NB262_265.out _ | refine IsS81.far ?_ NB262_274.out _) | exact HI262.out)); (case side2 => repeat (first | (with_reducible first | exact HB.out | apply pa_ | apply pd_ | apply p1_ | refine zs_ ?_ (IsS81.ge HI262.out) | refine zs_ ?_ GE263.out | refine zs_ ?_ GE265.out | refine zs_ ?_ GE274.out) | exact HB.out)); rintro e w47 ⟨rfl, hi, hb, hk⟩; refine ⟨_, rfl, ?_⟩; have n0_ := ak_ (KeepBut.blk hk (g' := gb263) (o := .cells #[.string t266, .int .i64 t267, .int .i64 t268, .int .i64 t269, .int .i64 t270, .string t271, .bool t272] 40 (0, 0)) (by (with_reducible repeat (first | apply zn_ | apply zd_ | apply za_)); refine zp_ (cs := #[.string t266, .int .i64 t267, .int .i64 t268, .int .i64 t269, .int .i64 t270, .string t271, .bool x264006_2]) ?_ 6 _ rfl; (with_reducible repeat (first | apply zn_ | apply zd_ | apply za_)); refine zp_ (cs := #[.string t266, .int .i64 t267, .int .i64 t268, .int .i64 t269, .int .i64 t270, .string x264005_2, .bool x264006_2]) ?_ 5 _ rfl; (with_reducible repeat (first | apply zn_ | apply zd_ | apply za_)); refine zp_ (cs := #[.string t266, .int .i64 t267, .int .i64 t268, .int .i64 t269, .int .i64 x264004_2, .string x264005_2, .bool x264006_2]) ?_ 4 _ rfl; (with_reducible repeat (first | apply zn_ | apply zd_ | apply za_)); refine zp_ (cs := #[.string t266, .int .i64 t267, .int .i64 t268, .int .i64 x264003_2, .int .i64 x264004_2, .string x264005_2, .bool x264006_2]) ?_ 3 _ rfl; (with_reducible repeat (first | apply zn_ | apply zd_ | apply za_)); refine zp_ (cs := #[.string t266, .int .i64 t267, .int .i64 x264002_2, .int .i64 x264003_2, .int .i64 x264004_2, .string x264005_2, .bool x264006_2]) ?_ 2 _ rfl; (with_reducible repeat (first | apply zn_ | apply zd_ | apply za_)); refine zp_ (cs := #[.string t266, .int .i64 x264001_2, .int .i64 x264002_2, .int .i64 x264003_2, .int .i64 x264004_2, .string x264005_2, .bool x264006_2]) ?_ 1 _ rfl; (with_reducible repeat (first | apply zn_ | apply zd_ | apply za_)); refine zp_ (cs := #[.string x264000_2, .int .i64 x264001_2, .int .i64 x264002_2, .int .i64 x264003_2, .int .i64 x264004_2, .string x264005_2, .bool x264006_2]) ?_ 0 _ rfl; (with_reducible repeat (first | apply zn_ | apply zd_ | apply za_)); refine zr_ ?_ NB263_274.out _; (with_reducible repeat (first | apply zn_ | apply zd_ | apply za_)); refine zr_ ?_ NB263_274.out _; (with_reducible repeat (first | apply zn_ | apply zd_ | apply za_)); refine zr_ ?_ NB263_274.out _; (with_reducible repeat (first | apply zn_ | apply zd_ | apply za_)); refine zr_ ?_ NB263_274.out _; (with_reducible repeat (first | apply zn_ | apply zd_ | apply za_)); refine zr_ ?_ NB263_274.out _; (with_reducible repeat (first | apply zn_ | apply zd_ | apply za_)); refine zr_ ?_ NB263_274.out _; (with_reducible repeat (first | apply zn_ | apply zd_ | apply za_)); refine zr_ ?_ NB263_274.out _; (with_reducible repeat (first | apply zn_ | apply zd_ | apply za_)); exact BK263.out) NB263_262.out (by simp)); have n1_ := ak_ (KeepBut.blk hk (g' := gb265) (o := .cells #[.int .i64 ((rd_T29 l1 x7_2).f0), .int .i64 ((rd_T29 l1 x7_2).f1), .int .i64 ((rd_T29 l1 x7_2).f2), .string ((rd_T29 l1 x7_2).f3), .bool ((rd_T29 l1 x7_2).f4)] 29 (0, 0)) (by (with_reducible repeat (first | apply zn_ | apply zd_ | apply za_)); refine zr_ ?_ NB265_263.out _; (with_reducible repeat (first | apply zn_ | apply zd_ | apply za_)); refine zr_ ?_ NB265_263.out _; (with_reducible repeat (first | apply zn_ | apply zd_ | apply za_)); refine zr_ ?_ NB265_263.out _; (with_reducible repeat (first | apply zn_ | apply zd_ | apply za_)); refine zr_ ?_ NB265_263.out _; (with_reducible repeat (first | apply zn_ | apply zd_ | apply za_)); refine zr_ ?_ NB265_263.out _; (with_reducible repeat (first | apply zn_ | apply zd_ | apply za_)); refine zr_ ?_ NB265_263.out _; (with_reducible repeat (first | apply zn_ | apply zd_ | apply za_)); refine zr_ ?_ NB265_263.out _; (with_reducible repeat (first | apply zn_ | apply zd_ | apply za_)); refine zr_ ?_ NB265_274.out _; (with_reducible repeat (first | apply zn_ | apply zd_ | apply za_)); refine zr_ ?_ NB265_274.out _; (with_reducible repeat (first | apply zn_ | apply zd_ | apply za_)); refine zr_ ?_ NB265_274.out _; (with_reducible repeat (first | apply zn_ | apply zd_ | apply za_)); refine zr_ ?_ NB265_274.out _; (with_reducible repeat (first | apply zn_ | apply zd_ | apply za_)); refine zr_ ?_ NB265_274.out _; (with_reducible repeat (first | apply zn_ | apply zd_ | apply za_)); refine zr_ ?_ NB265_274.out _; (with_reducible repeat (first | apply zn_ | apply zd_ | apply za_)); refine zr_ ?_ NB265_274.out _; (with_reducible repeat (first | apply zn_ | apply zd_ | apply za_)); exact BK265.out) NB265_262.out (by simp)); have n2_ := ak_ (KeepBut.blk hk (g' := gb274) (o := .cells #[.string t266, .int .i64 t267, .int .i64 t268, .int .i64 t269, .int .i64 t270, .string t271, .bool t272] 40 (0, 0)) (by (with_reducible repeat (first | apply zn_ | apply zd_ | apply za_)); refine zr_ ?_ NB274_263.out _; (with_reducible repeat (first | apply zn_ | apply zd_ | apply za_)); refine zr_ ?_ NB274_263.out _; (with_reducible repeat (first | apply zn_ | apply zd_ | apply za_)); refine zr_ ?_ NB274_263.out _; (with_reducible repeat (first | apply zn_ | apply zd_ | apply za_)); refine zr_ ?_ NB274_263.out _; (with_reducible repeat (first | apply zn_ | apply zd_ | apply za_)); refine zr_ ?_ NB274_263.out _; (with_reducible repeat (first | apply zn_ | apply zd_ | apply za_)); refine zr_ ?_ NB274_263.out _; (with_reducible repeat (first | apply zn_ | apply zd_ | apply za_)); refine zr_ ?_ NB274_263.out _; (with_reducible repeat (first | apply zn_ | apply zd_ | apply za_)); refine zp_ (cs := #[.string t266, .int .i64 t267, .int .i64 t268, .int .i64 t269, .int .i64 t270, .string t271, .bool false]) ?_ 6 _ rfl; (with_reducible repeat (first | apply zn_ | apply zd_ | apply za_)); refine zp_ (cs := #[.string t266, .int .i64 t267, .int .i64 t268, .int .i64 t269, .int .i64 t270, .string ⟨#[]⟩, .bool false]) ?_ 5 _ rfl; (with_reducible repeat (first | apply zn_ | apply zd_ | apply za_)); refine zp_ (cs := #[.string t266, .int .i64 t267, .int .i64 t268, .int .i64 t269, .int .i64 0, .string ⟨#[]⟩, .bool false]) ?_ 4 _ rfl; (with_reducible repeat (first | apply zn_ | apply zd_ | apply za_)); refine zp_ (cs := #[.string t266, .int .i64 t267, .int .i64 t268, .int .i64 0, .int .i64 0, .string ⟨#[]⟩, .bool false]) ?_ 3 _ rfl; (with_reducible repeat (first | apply zn_ | apply zd_ | apply za_)); refine zp_ (cs := #[.string t266, .int .i64 t267, .int .i64 0, .int .i64 0, .int .i64 0, .string ⟨#[]⟩, .bool false]) ?_ 2 _ rfl; (with_reducible repeat (first | apply zn_ | apply zd_ | apply za_)); refine zp_ (cs := #[.string t266, .int .i64 0, .int .i64 0, .int .i64 0, .int .i64 0, .string ⟨#[]⟩, .bool false]) ?_ 1 _ rfl; (with_reducible repeat (first | apply zn_ | apply zd_ | apply za_)); refine zp_ (cs := #[.string ⟨#[]⟩, .int .i64 0, .int .i64 0, .int .i64 0, .int .i64 0, .string ⟨#[]⟩, .bool false]) ?_ 0 _ rfl; (with_reducible repeat (first | apply zn_ | apply zd_ | apply za_)); exact BK274.out) NB274_262.out (by simp)); have n3_ := ak_ (hb); have n4_ := ak_ (hi); clear BK263; clear BK265; clear BK274; clear HB; clear HI262; have BK263 := n0_; have BK265 := n1_; have BK274 := n2_; have HB := n3_; have HI262 := n4_; clear n0_ n1_ n2_ n3_ n4_; (try clear hb hk hi)))
                        go_ret
                        exact ⟨by first | rfl | (simp [errW_none, errW_some] <;> rfl) | (simp [*, errW_none, errW_some] <;> rfl), by first | (refine ps_ HBW0.out ?_; (repeat (first | (with_reducible first | exact HB.out | apply pa_ | apply pd_ | apply p1_ | refine zs_ ?_ (IsS81.ge HI262.out) | refine zs_ ?_ GE263.out | refine zs_ ?_ GE265.out | refine zs_ ?_ GE274.out) | exact HB.out)); done) | (repeat (first | (with_reducible first | exact HB.out | apply pa_ | apply pd_ | apply p1_ | refine zs_ ?_ (IsS81.ge HI262.out) | refine zs_ ?_ GE263.out | refine zs_ ?_ GE265.out | refine zs_ ?_ GE274.out) | exact HB.out))⟩
                    · rw [if_neg c22] at H
                      have c22b0 : (((rd_T29 l1 x7_2).f0) == 0) = false := beq_eq_false_iff_ne.mpr c22
                      have c22b1 : (((rd_T29 l1 x7_2).f0) != 0) = true := bne_iff_ne.mpr c22
                      (first | rw [c22b0] | (simp only [i64_w, i32_w]; rw [c22b0]) | skip)
                      by_cases c48 : ((rd_T29 l1 x7_2).f0) = 1
                      · rw [if_pos c48] at H
                        have c48b0 : (((rd_T29 l1 x7_2).f0) == 1) = true := beq_iff_eq.mpr c48
                        have c48b1 : (((rd_T29 l1 x7_2).f0) != 1) = false := bne_eq_false_iff_eq.mpr c48
                        clear c48
                        replace H := Option.bind_eq_some_iff.mp H
                        obtain ⟨⟨t279, t280, t281, t282, t283, t284, t285, t286⟩, A490, H⟩ := H
                        replace H : ((field_Reader_Text.f t258 x263001_2 x263002_2 x263003_2 ((rd_T29 l1 x7_2).f1)).bind fun bt288 => (if bt288.1.toList = t286.toList then (usufructlaw04_FieldTakes.j2 k2 l1 x7_2 t258 bt288.2.1 bt288.2.2.1 bt288.2.2.2 t279 t280 t281 t282 t283 t284 t285) else (some false))) = some r := H
                        have A49 := ak_ A490
                        clear A490
                        replace H := Option.bind_eq_some_iff.mp H
                        obtain ⟨⟨t288, t289, t290, t291⟩, A500, H⟩ := H
                        replace H : (if t288.toList = t286.toList then (usufructlaw04_FieldTakes.j2 k2 l1 x7_2 t258 t289 t290 t291 t279 t280 t281 t282 t283 t284 t285) else (some false)) = some r := H
                        have A50 := ak_ A500
                        clear A500
                        by_cases c51 : t288.toList = t286.toList
                        · rw [if_pos c51] at H
                          have c51b0 : (t288.toList == t286.toList) = true := beq_iff_eq.mpr c51
                          have c51b1 : (t288.toList != t286.toList) = false := bne_eq_false_iff_eq.mpr c51
                          clear c51
                          have H' := ak_ H
                          clear H
                          have hnb52 := NB263_265.out
                          have hnc52 := NB265_263.out
                          have hnb53 := NB263_262.out
                          have hnc53 := NB262_263.out
                          have hcz54_0 : w18.cell? ⟨gb263, 0, none⟩ = some (.string x264000_2) := (zc_ BK263.out 0).trans rfl
                          have hcz54_1 : w18.cell? ⟨gb263, 1, none⟩ = some (.int .i64 x264001_2) := (zc_ BK263.out 1).trans rfl
                          have hcz54_2 : w18.cell? ⟨gb263, 2, none⟩ = some (.int .i64 x264002_2) := (zc_ BK263.out 2).trans rfl
                          have hcz54_3 : w18.cell? ⟨gb263, 3, none⟩ = some (.int .i64 x264003_2) := (zc_ BK263.out 3).trans rfl
                          have hcz54_4 : w18.cell? ⟨gb263, 4, none⟩ = some (.int .i64 x264004_2) := (zc_ BK263.out 4).trans rfl
                          have hcz54_5 : w18.cell? ⟨gb263, 5, none⟩ = some (.string x264005_2) := (zc_ BK263.out 5).trans rfl
                          have hcz54_6 : w18.cell? ⟨gb263, 6, none⟩ = some (.bool x264006_2) := (zc_ BK263.out 6).trans rfl
                          have hfz54_0 := zf_ BK263.out 0
                          have hfz54_1 := zf_ BK263.out 1
                          have hfz54_2 := zf_ BK263.out 2
                          have hfz54_3 := zf_ BK263.out 3
                          have hfz54_4 := zf_ BK263.out 4
                          have hfz54_5 := zf_ BK263.out 5
                          have hfz54_6 := zf_ BK263.out 6
                          have hnb55 := NB265_262.out
                          have hnc55 := NB262_265.out
                          have hcz56_0 : w18.cell? ⟨gb265, 0, none⟩ = some (.int .i64 0) := (zc_ BK265.out 0).trans rfl
                          have hcz56_1 : w18.cell? ⟨gb265, 1, none⟩ = some (.int .i64 0) := (zc_ BK265.out 1).trans rfl
                          have hcz56_2 : w18.cell? ⟨gb265, 2, none⟩ = some (.int .i64 0) := (zc_ BK265.out 2).trans rfl
                          have hcz56_3 : w18.cell? ⟨gb265, 3, none⟩ = some (.string ⟨#[]⟩) := (zc_ BK265.out 3).trans rfl
                          have hcz56_4 : w18.cell? ⟨gb265, 4, none⟩ = some (.bool false) := (zc_ BK265.out 4).trans rfl
                          have hfz56_0 := zf_ BK265.out 0
                          have hfz56_1 := zf_ BK265.out 1
                          have hfz56_2 := zf_ BK265.out 2
                          have hfz56_3 := zf_ BK265.out 3
                          have hfz56_4 := zf_ BK265.out 4
                          go_wp2_with (first | ((with_reducible refine gate_callee (f := 22) rfl ?_); refine goesL_ (some 64) rfl rfl Try.func22 (by kernel_rfl) rfl #[.agg #[.string x264000_2, .int .i64 x264001_2, .int .i64 x264002_2, .int .i64 x264003_2, .int .i64 x264004_2, .string x264005_2, .bool x264006_2], .int .i64 ((rd_T29 l1 x7_2).f1)] rfl (by (try simp only [List.map_toArray, List.map_cons, List.map_nil]); first | done | rfl | (simp only [List.length_drop, List.length_take]; rfl)) ?_; (with_reducible refine (usufructref04_Text.calls k2 x264000_2 x264001_2 x264002_2 x264003_2 x264004_2 x264005_2 x264006_2 ((rd_T29 l1 x7_2).f1) t279 t280 t281 t282 t283 t284 t285 t286 _ A49.out).mono ?_); rintro e w57 ⟨rfl, hb⟩; refine ⟨_, rfl, ?_⟩; have n0_ := ak_ (blk_below (g := gb263) (o := .cells #[.string x264000_2, .int .i64 x264001_2, .int .i64 x264002_2, .int .i64 x264003_2, .int .i64 x264004_2, .string x264005_2, .bool x264006_2] 40 (0, 0)) (by (with_reducible repeat (first | apply zn_ | apply zd_ | apply za_)); refine zr_ ?_ NB263_265.out _; (with_reducible repeat (first | apply zn_ | apply zd_ | apply za_)); refine zr_ ?_ NB263_265.out _; (with_reducible repeat (first | apply zn_ | apply zd_ | apply za_)); refine zr_ ?_ NB263_265.out _; (with_reducible repeat (first | apply zn_ | apply zd_ | apply za_)); refine zr_ ?_ NB263_265.out _; (with_reducible repeat (first | apply zn_ | apply zd_ | apply za_)); refine zr_ ?_ NB263_265.out _; (with_reducible repeat (first | apply zn_ | apply zd_ | apply za_)); exact BK263.out) hb); have n1_ := ak_ (IsS81.below (show IsS81 w (((((w18.setCell ⟨gb265, 0, none⟩ (.int .i64 ((rd_T29 l1 x7_2).f0))).setCell ⟨gb265, 1, none⟩ (.int .i64 ((rd_T29 l1 x7_2).f1))).setCell ⟨gb265, 2, none⟩ (.int .i64 ((rd_T29 l1 x7_2).f2))).setCell ⟨gb265, 3, none⟩ (.string ((rd_T29 l1 x7_2).f3))).setCell ⟨gb265, 4, none⟩ (.bool ((rd_T29 l1 x7_2).f4))) g262 t258 x263001_2 x263002_2 x263003_2 from by repeat (first | (with_reducible first | exact HI262.out | apply i81a_ | apply i81n_ | apply i81d_ | refine IsS81.far ?_ NB262_263.out _ | refine IsS81.far ?_ NB262_265.out _) | exact HI262.out)) hb); have n2_ := ak_ (blk_below (g := gb265) (o := .cells #[.int .i64 ((rd_T29 l1 x7_2).f0), .int .i64 ((rd_T29 l1 x7_2).f1), .int .i64 ((rd_T29 l1 x7_2).f2), .string ((rd_T29 l1 x7_2).f3), .bool ((rd_T29 l1 x7_2).f4)] 29 (0, 0)) (by (with_reducible repeat (first | apply zn_ | apply zd_ | apply za_)); refine zp_ (cs := #[.int .i64 ((rd_T29 l1 x7_2).f0), .int .i64 ((rd_T29 l1 x7_2).f1), .int .i64 ((rd_T29 l1 x7_2).f2), .string ((rd_T29 l1 x7_2).f3), .bool false]) ?_ 4 _ rfl; (with_reducible repeat (first | apply zn_ | apply zd_ | apply za_)); refine zp_ (cs := #[.int .i64 ((rd_T29 l1 x7_2).f0), .int .i64 ((rd_T29 l1 x7_2).f1), .int .i64 ((rd_T29 l1 x7_2).f2), .string ⟨#[]⟩, .bool false]) ?_ 3 _ rfl; (with_reducible repeat (first | apply zn_ | apply zd_ | apply za_)); refine zp_ (cs := #[.int .i64 ((rd_T29 l1 x7_2).f0), .int .i64 ((rd_T29 l1 x7_2).f1), .int .i64 0, .string ⟨#[]⟩, .bool false]) ?_ 2 _ rfl; (with_reducible repeat (first | apply zn_ | apply zd_ | apply za_)); refine zp_ (cs := #[.int .i64 ((rd_T29 l1 x7_2).f0), .int .i64 0, .int .i64 0, .string ⟨#[]⟩, .bool false]) ?_ 1 _ rfl; (with_reducible repeat (first | apply zn_ | apply zd_ | apply za_)); refine zp_ (cs := #[.int .i64 0, .int .i64 0, .int .i64 0, .string ⟨#[]⟩, .bool false]) ?_ 0 _ rfl; (with_reducible repeat (first | apply zn_ | apply zd_ | apply za_)); exact BK265.out) hb); have n3_ := ak_ (ps_ (by repeat (first | (with_reducible first | exact HB.out | apply pa_ | apply pd_ | apply p1_ | refine zs_ ?_ (IsS81.ge HI262.out) | refine zs_ ?_ GE263.out | refine zs_ ?_ GE265.out) | exact HB.out)) hb); clear BK263; clear HI262; clear BK265; clear HB; have BK263 := n0_; have HI262 := n1_; have BK265 := n2_; have HB := n3_; clear n0_ n1_ n2_ n3_; (try clear hb hk hi)) | ((with_reducible refine gate_dst (N := 11) rfl ?_); (try (refine gate_guard (by rfl) ?_; dsimp only)); refine box_event ?hg (N := 11) ?hd (cs := #[.string ⟨#[]⟩, .int .i64 0, .int .i64 0, .int .i64 0, .int .i64 0, .string ⟨#[]⟩, .bool false]) (t := 40) ?hr ?_; (case hd => rfl); (case hg => rfl); (case hr => first | (go_simp; done) | (go_simp; rfl)); intro gb287 hg w58 hbox hb; have n0_ := ak_ (blk_below (g := gb263) (o := .cells #[.string x264000_2, .int .i64 x264001_2, .int .i64 x264002_2, .int .i64 x264003_2, .int .i64 x264004_2, .string x264005_2, .bool x264006_2] 40 (0, 0)) (by (with_reducible repeat (first | apply zn_ | apply zd_ | apply za_)); exact BK263.out) hb); have n1_ := ak_ (IsS81.below (by repeat (first | (with_reducible first | exact HI262.out | apply i81a_ | apply i81n_ | apply i81d_ | refine IsS81.far ?_ NB262_263.out _ | refine IsS81.far ?_ NB262_265.out _) | exact HI262.out)) hb); have n2_ := ak_ (blk_below (g := gb265) (o := .cells #[.int .i64 ((rd_T29 l1 x7_2).f0), .int .i64 ((rd_T29 l1 x7_2).f1), .int .i64 ((rd_T29 l1 x7_2).f2), .string ((rd_T29 l1 x7_2).f3), .bool ((rd_T29 l1 x7_2).f4)] 29 (0, 0)) (by (with_reducible repeat (first | apply zn_ | apply zd_ | apply za_)); exact BK265.out) hb); have n3_ := ak_ (ps_ (by repeat (first | (with_reducible first | exact HB.out | apply pa_ | apply pd_ | apply p1_ | refine zs_ ?_ (IsS81.ge HI262.out) | refine zs_ ?_ GE263.out | refine zs_ ?_ GE265.out) | exact HB.out)) hb); have n4_ := ak_ (hbox); have n5_ := ak_ ((by rw [hg]; exact (below_size (by repeat (first | (with_reducible first | exact HB.out | apply pa_ | apply pd_ | apply p1_ | refine zs_ ?_ (IsS81.ge HI262.out) | refine zs_ ?_ GE263.out | refine zs_ ?_ GE265.out) | exact HB.out))) : w.heap.size ≤ gb287)); have n6_ := ak_ ((by rw [hg]; exact (below_size (by repeat (first | (with_reducible first | exact HB.out | apply pa_ | apply pd_ | apply p1_ | refine zs_ ?_ (IsS81.ge HI262.out) | refine zs_ ?_ GE263.out | refine zs_ ?_ GE265.out) | exact HB.out))) : w.heap.size ≤ gb287)); have n7_ := ak_ ((by rw [hg]; exact Nat.ne_of_lt (blk_lt (g := gb263) (o := .cells #[.string x264000_2, .int .i64 x264001_2, .int .i64 x264002_2, .int .i64 x264003_2, .int .i64 x264004_2, .string x264005_2, .bool x264006_2] 40 (0, 0)) (by (with_reducible repeat (first | apply zn_ | apply zd_ | apply za_)); exact BK263.out)) : gb263 ≠ gb287)); have n8_ := ak_ ((by rw [hg]; exact Nat.ne_of_gt (blk_lt (g := gb263) (o := .cells #[.string x264000_2, .int .i64 x264001_2, .int .i64 x264002_2, .int .i64 x264003_2, .int .i64 x264004_2, .string x264005_2, .bool x264006_2] 40 (0, 0)) (by (with_reducible repeat (first | apply zn_ | apply zd_ | apply za_)); exact BK263.out)) : gb287 ≠ gb263)); have n9_ := ak_ ((by rw [hg]; exact Nat.ne_of_lt (blk_lt (g := gb265) (o := .cells #[.int .i64 ((rd_T29 l1 x7_2).f0), .int .i64 ((rd_T29 l1 x7_2).f1), .int .i64 ((rd_T29 l1 x7_2).f2), .string ((rd_T29 l1 x7_2).f3), .bool ((rd_T29 l1 x7_2).f4)] 29 (0, 0)) (by (with_reducible repeat (first | apply zn_ | apply zd_ | apply za_)); exact BK265.out)) : gb265 ≠ gb287)); have n10_ := ak_ ((by rw [hg]; exact Nat.ne_of_gt (blk_lt (g := gb265) (o := .cells #[.int .i64 ((rd_T29 l1 x7_2).f0), .int .i64 ((rd_T29 l1 x7_2).f1), .int .i64 ((rd_T29 l1 x7_2).f2), .string ((rd_T29 l1 x7_2).f3), .bool ((rd_T29 l1 x7_2).f4)] 29 (0, 0)) (by (with_reducible repeat (first | apply zn_ | apply zd_ | apply za_)); exact BK265.out)) : gb287 ≠ gb265)); have n11_ := ak_ ((by rw [hg]; exact Nat.ne_of_lt (IsS81.lt (show IsS81 w _ g262 t258 x263001_2 x263002_2 x263003_2 from by repeat (first | (with_reducible first | exact HI262.out | apply i81a_ | apply i81n_ | apply i81d_ | refine IsS81.far ?_ NB262_263.out _ | refine IsS81.far ?_ NB262_265.out _) | exact HI262.out))) : g262 ≠ gb287)); have n12_ := ak_ ((by rw [hg]; exact Nat.ne_of_gt (IsS81.lt (show IsS81 w _ g262 t258 x263001_2 x263002_2 x263003_2 from by repeat (first | (with_reducible first | exact HI262.out | apply i81a_ | apply i81n_ | apply i81d_ | refine IsS81.far ?_ NB262_263.out _ | refine IsS81.far ?_ NB262_265.out _) | exact HI262.out))) : gb287 ≠ g262)); clear BK263; clear HI262; clear BK265; clear HB; have BK263 := n0_; have HI262 := n1_; have BK265 := n2_; have HB := n3_; have BK287 := n4_; have GW287 := n5_; have GE287 := n6_; have NB263_287 := n7_; have NB287_263 := n8_; have NB265_287 := n9_; have NB287_265 := n10_; have NB262_287 := n11_; have NB287_262 := n12_; clear n0_ n1_ n2_ n3_ n4_ n5_ n6_ n7_ n8_ n9_ n10_ n11_ n12_; clear hb hbox hg; have hnb59 := NB287_263.out; have hnc59 := NB263_287.out; have hnb60 := NB287_265.out; have hnc60 := NB265_287.out; have hnb61 := NB287_262.out; have hnc61 := NB262_287.out; have hcz62_0 : w58.cell? ⟨gb287, 0, none⟩ = some (.string ⟨#[]⟩) := (zc_ BK287.out 0).trans rfl; have hcz62_1 : w58.cell? ⟨gb287, 1, none⟩ = some (.int .i64 0) := (zc_ BK287.out 1).trans rfl; have hcz62_2 : w58.cell? ⟨gb287, 2, none⟩ = some (.int .i64 0) := (zc_ BK287.out 2).trans rfl; have hcz62_3 : w58.cell? ⟨gb287, 3, none⟩ = some (.int .i64 0) := (zc_ BK287.out 3).trans rfl; have hcz62_4 : w58.cell? ⟨gb287, 4, none⟩ = some (.int .i64 0) := (zc_ BK287.out 4).trans rfl; have hcz62_5 : w58.cell? ⟨gb287, 5, none⟩ = some (.string ⟨#[]⟩) := (zc_ BK287.out 5).trans rfl; have hcz62_6 : w58.cell? ⟨gb287, 6, none⟩ = some (.bool false) := (zc_ BK287.out 6).trans rfl; have hfz62_0 := zf_ BK287.out 0; have hfz62_1 := zf_ BK287.out 1; have hfz62_2 := zf_ BK287.out 2; have hfz62_3 := zf_ BK287.out 3; have hfz62_4 := zf_ BK287.out 4; have hfz62_5 := zf_ BK287.out 5; have hfz62_6 := zf_ BK287.out 6; have hcz63_0 : w58.cell? ⟨gb263, 0, none⟩ = some (.string x264000_2) := (zc_ BK263.out 0).trans rfl; have hcz63_1 : w58.cell? ⟨gb263, 1, none⟩ = some (.int .i64 x264001_2) := (zc_ BK263.out 1).trans rfl; have hcz63_2 : w58.cell? ⟨gb263, 2, none⟩ = some (.int .i64 x264002_2) := (zc_ BK263.out 2).trans rfl; have hcz63_3 : w58.cell? ⟨gb263, 3, none⟩ = some (.int .i64 x264003_2) := (zc_ BK263.out 3).trans rfl; have hcz63_4 : w58.cell? ⟨gb263, 4, none⟩ = some (.int .i64 x264004_2) := (zc_ BK263.out 4).trans rfl; have hcz63_5 : w58.cell? ⟨gb263, 5, none⟩ = some (.string x264005_2) := (zc_ BK263.out 5).trans rfl; have hcz63_6 : w58.cell? ⟨gb263, 6, none⟩ = some (.bool x264006_2) := (zc_ BK263.out 6).trans rfl; have hfz63_0 := zf_ BK263.out 0; have hfz63_1 := zf_ BK263.out 1; have hfz63_2 := zf_ BK263.out 2; have hfz63_3 := zf_ BK263.out 3; have hfz63_4 := zf_ BK263.out 4; have hfz63_5 := zf_ BK263.out 5; have hfz63_6 := zf_ BK263.out 6; have hcz64_0 : w58.cell? ⟨gb265, 0, none⟩ = some (.int .i64 ((rd_T29 l1 x7_2).f0)) := (zc_ BK265.out 0).trans rfl; have hcz64_1 : w58.cell? ⟨gb265, 1, none⟩ = some (.int .i64 ((rd_T29 l1 x7_2).f1)) := (zc_ BK265.out 1).trans rfl; have hcz64_2 : w58.cell? ⟨gb265, 2, none⟩ = some (.int .i64 ((rd_T29 l1 x7_2).f2)) := (zc_ BK265.out 2).trans rfl; have hcz64_3 : w58.cell? ⟨gb265, 3, none⟩ = some (.string ((rd_T29 l1 x7_2).f3)) := (zc_ BK265.out 3).trans rfl; have hcz64_4 : w58.cell? ⟨gb265, 4, none⟩ = some (.bool ((rd_T29 l1 x7_2).f4)) := (zc_ BK265.out 4).trans rfl; have hfz64_0 := zf_ BK265.out 0; have hfz64_1 := zf_ BK265.out 1; have hfz64_2 := zf_ BK265.out 2; have hfz64_3 := zf_ BK265.out 3; have hfz64_4 := zf_ BK265.out 4) | ((with_reducible refine gate_callee (f := 18) rfl ?_); refine goesL_ (some 71) rfl rfl Try.func18 (by kernel_rfl) rfl #[.pointer (some ⟨g262, 0, none⟩), .int .i64 ((rd_T29 l1 x7_2).f1)] rfl (by simp only [mt_, mc_, mn_] <;> rfl) ?_; (with_reducible refine (field_Reader_Text.calls g262 t258 x263001_2 x263002_2 x263003_2 ((rd_T29 l1 x7_2).f1) t288 t289 t290 t291 w _ ?side1 ?side2 A50.out).mono ?_); (case side1 => repeat (first | (with_reducible first | exact HI262.out | apply i81a_ | apply i81n_ | apply i81d_ | refine IsS81.far ?_ NB262_263.out _ | refine IsS81.far ?_ NB262_265.out _ | refine IsS81.far ?_ NB262_287.out _) | exact HI262.out)); (case side2 => repeat (first | (with_reducible first | exact HB.out | apply pa_ | apply pd_ | apply p1_ | refine zs_ ?_ (IsS81.ge HI262.out) | refine zs_ ?_ GE263.out | refine zs_ ?_ GE265.out | refine zs_ ?_ GE287.out) | exact HB.out)); rintro e w65 ⟨rfl, hi, hb, hk⟩; refine ⟨_, rfl, ?_⟩; have n0_ := ak_ (KeepBut.blk hk (g' := gb263) (o := .cells #[.string t279, .int .i64 t280, .int .i64 t281, .int .i64 t282, .int .i64 t283, .string t284, .bool t285] 40 (0, 0)) (by (with_reducible repeat (first | apply zn_ | apply zd_ | apply za_)); refine zp_ (cs := #[.string t279, .int .i64 t280, .int .i64 t281, .int .i64 t282, .int .i64 t283, .string t284, .bool x264006_2]) ?_ 6 _ rfl; (with_reducible repeat (first | apply zn_ | apply zd_ | apply za_)); refine zp_ (cs := #[.string t279, .int .i64 t280, .int .i64 t281, .int .i64 t282, .int .i64 t283, .string x264005_2, .bool x264006_2]) ?_ 5 _ rfl; (with_reducible repeat (first | apply zn_ | apply zd_ | apply za_)); refine zp_ (cs := #[.string t279, .int .i64 t280, .int .i64 t281, .int .i64 t282, .int .i64 x264004_2, .string x264005_2, .bool x264006_2]) ?_ 4 _ rfl; (with_reducible repeat (first | apply zn_ | apply zd_ | apply za_)); refine zp_ (cs := #[.string t279, .int .i64 t280, .int .i64 t281, .int .i64 x264003_2, .int .i64 x264004_2, .string x264005_2, .bool x264006_2]) ?_ 3 _ rfl; (with_reducible repeat (first | apply zn_ | apply zd_ | apply za_)); refine zp_ (cs := #[.string t279, .int .i64 t280, .int .i64 x264002_2, .int .i64 x264003_2, .int .i64 x264004_2, .string x264005_2, .bool x264006_2]) ?_ 2 _ rfl; (with_reducible repeat (first | apply zn_ | apply zd_ | apply za_)); refine zp_ (cs := #[.string t279, .int .i64 x264001_2, .int .i64 x264002_2, .int .i64 x264003_2, .int .i64 x264004_2, .string x264005_2, .bool x264006_2]) ?_ 1 _ rfl; (with_reducible repeat (first | apply zn_ | apply zd_ | apply za_)); refine zp_ (cs := #[.string x264000_2, .int .i64 x264001_2, .int .i64 x264002_2, .int .i64 x264003_2, .int .i64 x264004_2, .string x264005_2, .bool x264006_2]) ?_ 0 _ rfl; (with_reducible repeat (first | apply zn_ | apply zd_ | apply za_)); refine zr_ ?_ NB263_287.out _; (with_reducible repeat (first | apply zn_ | apply zd_ | apply za_)); refine zr_ ?_ NB263_287.out _; (with_reducible repeat (first | apply zn_ | apply zd_ | apply za_)); refine zr_ ?_ NB263_287.out _; (with_reducible repeat (first | apply zn_ | apply zd_ | apply za_)); refine zr_ ?_ NB263_287.out _; (with_reducible repeat (first | apply zn_ | apply zd_ | apply za_)); refine zr_ ?_ NB263_287.out _; (with_reducible repeat (first | apply zn_ | apply zd_ | apply za_)); refine zr_ ?_ NB263_287.out _; (with_reducible repeat (first | apply zn_ | apply zd_ | apply za_)); refine zr_ ?_ NB263_287.out _; (with_reducible repeat (first | apply zn_ | apply zd_ | apply za_)); exact BK263.out) NB263_262.out (by simp)); have n1_ := ak_ (KeepBut.blk hk (g' := gb265) (o := .cells #[.int .i64 ((rd_T29 l1 x7_2).f0), .int .i64 ((rd_T29 l1 x7_2).f1), .int .i64 ((rd_T29 l1 x7_2).f2), .string ((rd_T29 l1 x7_2).f3), .bool ((rd_T29 l1 x7_2).f4)] 29 (0, 0)) (by (with_reducible repeat (first | apply zn_ | apply zd_ | apply za_)); refine zr_ ?_ NB265_263.out _; (with_reducible repeat (first | apply zn_ | apply zd_ | apply za_)); refine zr_ ?_ NB265_263.out _; (with_reducible repeat (first | apply zn_ | apply zd_ | apply za_)); refine zr_ ?_ NB265_263.out _; (with_reducible repeat (first | apply zn_ | apply zd_ | apply za_)); refine zr_ ?_ NB265_263.out _; (with_reducible repeat (first | apply zn_ | apply zd_ | apply za_)); refine zr_ ?_ NB265_263.out _; (with_reducible repeat (first | apply zn_ | apply zd_ | apply za_)); refine zr_ ?_ NB265_263.out _; (with_reducible repeat (first | apply zn_ | apply zd_ | apply za_)); refine zr_ ?_ NB265_263.out _; (with_reducible repeat (first | apply zn_ | apply zd_ | apply za_)); refine zr_ ?_ NB265_287.out _; (with_reducible repeat (first | apply zn_ | apply zd_ | apply za_)); refine zr_ ?_ NB265_287.out _; (with_reducible repeat (first | apply zn_ | apply zd_ | apply za_)); refine zr_ ?_ NB265_287.out _; (with_reducible repeat (first | apply zn_ | apply zd_ | apply za_)); refine zr_ ?_ NB265_287.out _; (with_reducible repeat (first | apply zn_ | apply zd_ | apply za_)); refine zr_ ?_ NB265_287.out _; (with_reducible repeat (first | apply zn_ | apply zd_ | apply za_)); refine zr_ ?_ NB265_287.out _; (with_reducible repeat (first | apply zn_ | apply zd_ | apply za_)); refine zr_ ?_ NB265_287.out _; (with_reducible repeat (first | apply zn_ | apply zd_ | apply za_)); exact BK265.out) NB265_262.out (by simp)); have n2_ := ak_ (KeepBut.blk hk (g' := gb287) (o := .cells #[.string t279, .int .i64 t280, .int .i64 t281, .int .i64 t282, .int .i64 t283, .string t284, .bool t285] 40 (0, 0)) (by (with_reducible repeat (first | apply zn_ | apply zd_ | apply za_)); refine zr_ ?_ NB287_263.out _; (with_reducible repeat (first | apply zn_ | apply zd_ | apply za_)); refine zr_ ?_ NB287_263.out _; (with_reducible repeat (first | apply zn_ | apply zd_ | apply za_)); refine zr_ ?_ NB287_263.out _; (with_reducible repeat (first | apply zn_ | apply zd_ | apply za_)); refine zr_ ?_ NB287_263.out _; (with_reducible repeat (first | apply zn_ | apply zd_ | apply za_)); refine zr_ ?_ NB287_263.out _; (with_reducible repeat (first | apply zn_ | apply zd_ | apply za_)); refine zr_ ?_ NB287_263.out _; (with_reducible repeat (first | apply zn_ | apply zd_ | apply za_)); refine zr_ ?_ NB287_263.out _; (with_reducible repeat (first | apply zn_ | apply zd_ | apply za_)); refine zp_ (cs := #[.string t279, .int .i64 t280, .int .i64 t281, .int .i64 t282, .int .i64 t283, .string t284, .bool false]) ?_ 6 _ rfl; (with_reducible repeat (first | apply zn_ | apply zd_ | apply za_)); refine zp_ (cs := #[.string t279, .int .i64 t280, .int .i64 t281, .int .i64 t282, .int .i64 t283, .string ⟨#[]⟩, .bool false]) ?_ 5 _ rfl; (with_reducible repeat (first | apply zn_ | apply zd_ | apply za_)); refine zp_ (cs := #[.string t279, .int .i64 t280, .int .i64 t281, .int .i64 t282, .int .i64 0, .string ⟨#[]⟩, .bool false]) ?_ 4 _ rfl; (with_reducible repeat (first | apply zn_ | apply zd_ | apply za_)); refine zp_ (cs := #[.string t279, .int .i64 t280, .int .i64 t281, .int .i64 0, .int .i64 0, .string ⟨#[]⟩, .bool false]) ?_ 3 _ rfl; (with_reducible repeat (first | apply zn_ | apply zd_ | apply za_)); refine zp_ (cs := #[.string t279, .int .i64 t280, .int .i64 0, .int .i64 0, .int .i64 0, .string ⟨#[]⟩, .bool false]) ?_ 2 _ rfl; (with_reducible repeat (first | apply zn_ | apply zd_ | apply za_)); refine zp_ (cs := #[.string t279, .int .i64 0, .int .i64 0, .int .i64 0, .int .i64 0, .string ⟨#[]⟩, .bool false]) ?_ 1 _ rfl; (with_reducible repeat (first | apply zn_ | apply zd_ | apply za_)); refine zp_ (cs := #[.string ⟨#[]⟩, .int .i64 0, .int .i64 0, .int .i64 0, .int .i64 0, .string ⟨#[]⟩, .bool false]) ?_ 0 _ rfl; (with_reducible repeat (first | apply zn_ | apply zd_ | apply za_)); exact BK287.out) NB287_262.out (by simp)); have n3_ := ak_ (hb); have n4_ := ak_ (hi); clear BK263; clear BK265; clear BK287; clear HB; clear HI262; have BK263 := n0_; have BK265 := n1_; have BK287 := n2_; have HB := n3_; have HI262 := n4_; clear n0_ n1_ n2_ n3_ n4_; (try clear hb hk hi)))
                          go_meet
                          case rel => exact ⟨_, (t289), (t290), (t291), (t279), (t280), (t281), (t282), (t283), (t284), (t285), H', ⟨by have := HJ4.out; have := HK2.out; first | omega | exact Nat.le_refl _⟩, ⟨by (with_reducible repeat (first | apply zn_ | apply zd_ | apply za_)); exact BK263.out⟩, ⟨by (with_reducible repeat (first | apply zn_ | apply zd_ | apply za_)); exact BK265.out⟩, ⟨by repeat (first | (with_reducible first | exact HI262.out | apply i81a_ | apply i81n_ | apply i81d_ | refine IsS81.far ?_ NB262_263.out _ | refine IsS81.far ?_ NB262_265.out _ | refine IsS81.far ?_ NB262_287.out _) | exact HI262.out)⟩, ⟨by repeat (first | (with_reducible first | exact HB.out | apply pa_ | apply pd_ | apply p1_ | refine zs_ ?_ (IsS81.ge HI262.out) | refine zs_ ?_ GE263.out | refine zs_ ?_ GE265.out | refine zs_ ?_ GE287.out) | exact HB.out)⟩⟩
                        · rw [if_neg c51] at H
                          have c51b0 : (t288.toList == t286.toList) = false := beq_eq_false_iff_ne.mpr c51
                          have c51b1 : (t288.toList != t286.toList) = true := bne_iff_ne.mpr c51
                          obtain rfl := Option.some.inj H
                          have hnb66 := NB263_265.out
                          have hnc66 := NB265_263.out
                          have hnb67 := NB263_262.out
                          have hnc67 := NB262_263.out
                          have hcz68_0 : w18.cell? ⟨gb263, 0, none⟩ = some (.string x264000_2) := (zc_ BK263.out 0).trans rfl
                          have hcz68_1 : w18.cell? ⟨gb263, 1, none⟩ = some (.int .i64 x264001_2) := (zc_ BK263.out 1).trans rfl
                          have hcz68_2 : w18.cell? ⟨gb263, 2, none⟩ = some (.int .i64 x264002_2) := (zc_ BK263.out 2).trans rfl
                          have hcz68_3 : w18.cell? ⟨gb263, 3, none⟩ = some (.int .i64 x264003_2) := (zc_ BK263.out 3).trans rfl
                          have hcz68_4 : w18.cell? ⟨gb263, 4, none⟩ = some (.int .i64 x264004_2) := (zc_ BK263.out 4).trans rfl
                          have hcz68_5 : w18.cell? ⟨gb263, 5, none⟩ = some (.string x264005_2) := (zc_ BK263.out 5).trans rfl
                          have hcz68_6 : w18.cell? ⟨gb263, 6, none⟩ = some (.bool x264006_2) := (zc_ BK263.out 6).trans rfl
                          have hfz68_0 := zf_ BK263.out 0
                          have hfz68_1 := zf_ BK263.out 1
                          have hfz68_2 := zf_ BK263.out 2
                          have hfz68_3 := zf_ BK263.out 3
                          have hfz68_4 := zf_ BK263.out 4
                          have hfz68_5 := zf_ BK263.out 5
                          have hfz68_6 := zf_ BK263.out 6
                          have hnb69 := NB265_262.out
                          have hnc69 := NB262_265.out
                          have hcz70_0 : w18.cell? ⟨gb265, 0, none⟩ = some (.int .i64 0) := (zc_ BK265.out 0).trans rfl
                          have hcz70_1 : w18.cell? ⟨gb265, 1, none⟩ = some (.int .i64 0) := (zc_ BK265.out 1).trans rfl
                          have hcz70_2 : w18.cell? ⟨gb265, 2, none⟩ = some (.int .i64 0) := (zc_ BK265.out 2).trans rfl
                          have hcz70_3 : w18.cell? ⟨gb265, 3, none⟩ = some (.string ⟨#[]⟩) := (zc_ BK265.out 3).trans rfl
                          have hcz70_4 : w18.cell? ⟨gb265, 4, none⟩ = some (.bool false) := (zc_ BK265.out 4).trans rfl
                          have hfz70_0 := zf_ BK265.out 0
                          have hfz70_1 := zf_ BK265.out 1
                          have hfz70_2 := zf_ BK265.out 2
                          have hfz70_3 := zf_ BK265.out 3
                          have hfz70_4 := zf_ BK265.out 4
                          go_wp2_with (first | ((with_reducible refine gate_callee (f := 22) rfl ?_); refine goesL_ (some 64) rfl rfl Try.func22 (by kernel_rfl) rfl #[.agg #[.string x264000_2, .int .i64 x264001_2, .int .i64 x264002_2, .int .i64 x264003_2, .int .i64 x264004_2, .string x264005_2, .bool x264006_2], .int .i64 ((rd_T29 l1 x7_2).f1)] rfl (by (try simp only [List.map_toArray, List.map_cons, List.map_nil]); first | done | rfl | (simp only [List.length_drop, List.length_take]; rfl)) ?_; (with_reducible refine (usufructref04_Text.calls k2 x264000_2 x264001_2 x264002_2 x264003_2 x264004_2 x264005_2 x264006_2 ((rd_T29 l1 x7_2).f1) t279 t280 t281 t282 t283 t284 t285 t286 _ A49.out).mono ?_); rintro e w71 ⟨rfl, hb⟩; refine ⟨_, rfl, ?_⟩; have n0_ := ak_ (blk_below (g := gb263) (o := .cells #[.string x264000_2, .int .i64 x264001_2, .int .i64 x264002_2, .int .i64 x264003_2, .int .i64 x264004_2, .string x264005_2, .bool x264006_2] 40 (0, 0)) (by (with_reducible repeat (first | apply zn_ | apply zd_ | apply za_)); refine zr_ ?_ NB263_265.out _; (with_reducible repeat (first | apply zn_ | apply zd_ | apply za_)); refine zr_ ?_ NB263_265.out _; (with_reducible repeat (first | apply zn_ | apply zd_ | apply za_)); refine zr_ ?_ NB263_265.out _; (with_reducible repeat (first | apply zn_ | apply zd_ | apply za_)); refine zr_ ?_ NB263_265.out _; (with_reducible repeat (first | apply zn_ | apply zd_ | apply za_)); refine zr_ ?_ NB263_265.out _; (with_reducible repeat (first | apply zn_ | apply zd_ | apply za_)); exact BK263.out) hb); have n1_ := ak_ (IsS81.below (show IsS81 w (((((w18.setCell ⟨gb265, 0, none⟩ (.int .i64 ((rd_T29 l1 x7_2).f0))).setCell ⟨gb265, 1, none⟩ (.int .i64 ((rd_T29 l1 x7_2).f1))).setCell ⟨gb265, 2, none⟩ (.int .i64 ((rd_T29 l1 x7_2).f2))).setCell ⟨gb265, 3, none⟩ (.string ((rd_T29 l1 x7_2).f3))).setCell ⟨gb265, 4, none⟩ (.bool ((rd_T29 l1 x7_2).f4))) g262 t258 x263001_2 x263002_2 x263003_2 from by repeat (first | (with_reducible first | exact HI262.out | apply i81a_ | apply i81n_ | apply i81d_ | refine IsS81.far ?_ NB262_263.out _ | refine IsS81.far ?_ NB262_265.out _) | exact HI262.out)) hb); have n2_ := ak_ (blk_below (g := gb265) (o := .cells #[.int .i64 ((rd_T29 l1 x7_2).f0), .int .i64 ((rd_T29 l1 x7_2).f1), .int .i64 ((rd_T29 l1 x7_2).f2), .string ((rd_T29 l1 x7_2).f3), .bool ((rd_T29 l1 x7_2).f4)] 29 (0, 0)) (by (with_reducible repeat (first | apply zn_ | apply zd_ | apply za_)); refine zp_ (cs := #[.int .i64 ((rd_T29 l1 x7_2).f0), .int .i64 ((rd_T29 l1 x7_2).f1), .int .i64 ((rd_T29 l1 x7_2).f2), .string ((rd_T29 l1 x7_2).f3), .bool false]) ?_ 4 _ rfl; (with_reducible repeat (first | apply zn_ | apply zd_ | apply za_)); refine zp_ (cs := #[.int .i64 ((rd_T29 l1 x7_2).f0), .int .i64 ((rd_T29 l1 x7_2).f1), .int .i64 ((rd_T29 l1 x7_2).f2), .string ⟨#[]⟩, .bool false]) ?_ 3 _ rfl; (with_reducible repeat (first | apply zn_ | apply zd_ | apply za_)); refine zp_ (cs := #[.int .i64 ((rd_T29 l1 x7_2).f0), .int .i64 ((rd_T29 l1 x7_2).f1), .int .i64 0, .string ⟨#[]⟩, .bool false]) ?_ 2 _ rfl; (with_reducible repeat (first | apply zn_ | apply zd_ | apply za_)); refine zp_ (cs := #[.int .i64 ((rd_T29 l1 x7_2).f0), .int .i64 0, .int .i64 0, .string ⟨#[]⟩, .bool false]) ?_ 1 _ rfl; (with_reducible repeat (first | apply zn_ | apply zd_ | apply za_)); refine zp_ (cs := #[.int .i64 0, .int .i64 0, .int .i64 0, .string ⟨#[]⟩, .bool false]) ?_ 0 _ rfl; (with_reducible repeat (first | apply zn_ | apply zd_ | apply za_)); exact BK265.out) hb); have n3_ := ak_ (ps_ (by repeat (first | (with_reducible first | exact HB.out | apply pa_ | apply pd_ | apply p1_ | refine zs_ ?_ (IsS81.ge HI262.out) | refine zs_ ?_ GE263.out | refine zs_ ?_ GE265.out) | exact HB.out)) hb); clear BK263; clear HI262; clear BK265; clear HB; have BK263 := n0_; have HI262 := n1_; have BK265 := n2_; have HB := n3_; clear n0_ n1_ n2_ n3_; (try clear hb hk hi)) | ((with_reducible refine gate_dst (N := 11) rfl ?_); (try (refine gate_guard (by rfl) ?_; dsimp only)); refine box_event ?hg (N := 11) ?hd (cs := #[.string ⟨#[]⟩, .int .i64 0, .int .i64 0, .int .i64 0, .int .i64 0, .string ⟨#[]⟩, .bool false]) (t := 40) ?hr ?_; (case hd => rfl); (case hg => rfl); (case hr => first | (go_simp; done) | (go_simp; rfl)); intro gb287 hg w72 hbox hb; have n0_ := ak_ (blk_below (g := gb263) (o := .cells #[.string x264000_2, .int .i64 x264001_2, .int .i64 x264002_2, .int .i64 x264003_2, .int .i64 x264004_2, .string x264005_2, .bool x264006_2] 40 (0, 0)) (by (with_reducible repeat (first | apply zn_ | apply zd_ | apply za_)); exact BK263.out) hb); have n1_ := ak_ (IsS81.below (by repeat (first | (with_reducible first | exact HI262.out | apply i81a_ | apply i81n_ | apply i81d_ | refine IsS81.far ?_ NB262_263.out _ | refine IsS81.far ?_ NB262_265.out _) | exact HI262.out)) hb); have n2_ := ak_ (blk_below (g := gb265) (o := .cells #[.int .i64 ((rd_T29 l1 x7_2).f0), .int .i64 ((rd_T29 l1 x7_2).f1), .int .i64 ((rd_T29 l1 x7_2).f2), .string ((rd_T29 l1 x7_2).f3), .bool ((rd_T29 l1 x7_2).f4)] 29 (0, 0)) (by (with_reducible repeat (first | apply zn_ | apply zd_ | apply za_)); exact BK265.out) hb); have n3_ := ak_ (ps_ (by repeat (first | (with_reducible first | exact HB.out | apply pa_ | apply pd_ | apply p1_ | refine zs_ ?_ (IsS81.ge HI262.out) | refine zs_ ?_ GE263.out | refine zs_ ?_ GE265.out) | exact HB.out)) hb); have n4_ := ak_ (hbox); have n5_ := ak_ ((by rw [hg]; exact (below_size (by repeat (first | (with_reducible first | exact HB.out | apply pa_ | apply pd_ | apply p1_ | refine zs_ ?_ (IsS81.ge HI262.out) | refine zs_ ?_ GE263.out | refine zs_ ?_ GE265.out) | exact HB.out))) : w.heap.size ≤ gb287)); have n6_ := ak_ ((by rw [hg]; exact (below_size (by repeat (first | (with_reducible first | exact HB.out | apply pa_ | apply pd_ | apply p1_ | refine zs_ ?_ (IsS81.ge HI262.out) | refine zs_ ?_ GE263.out | refine zs_ ?_ GE265.out) | exact HB.out))) : w.heap.size ≤ gb287)); have n7_ := ak_ ((by rw [hg]; exact Nat.ne_of_lt (blk_lt (g := gb263) (o := .cells #[.string x264000_2, .int .i64 x264001_2, .int .i64 x264002_2, .int .i64 x264003_2, .int .i64 x264004_2, .string x264005_2, .bool x264006_2] 40 (0, 0)) (by (with_reducible repeat (first | apply zn_ | apply zd_ | apply za_)); exact BK263.out)) : gb263 ≠ gb287)); have n8_ := ak_ ((by rw [hg]; exact Nat.ne_of_gt (blk_lt (g := gb263) (o := .cells #[.string x264000_2, .int .i64 x264001_2, .int .i64 x264002_2, .int .i64 x264003_2, .int .i64 x264004_2, .string x264005_2, .bool x264006_2] 40 (0, 0)) (by (with_reducible repeat (first | apply zn_ | apply zd_ | apply za_)); exact BK263.out)) : gb287 ≠ gb263)); have n9_ := ak_ ((by rw [hg]; exact Nat.ne_of_lt (blk_lt (g := gb265) (o := .cells #[.int .i64 ((rd_T29 l1 x7_2).f0), .int .i64 ((rd_T29 l1 x7_2).f1), .int .i64 ((rd_T29 l1 x7_2).f2), .string ((rd_T29 l1 x7_2).f3), .bool ((rd_T29 l1 x7_2).f4)] 29 (0, 0)) (by (with_reducible repeat (first | apply zn_ | apply zd_ | apply za_)); exact BK265.out)) : gb265 ≠ gb287)); have n10_ := ak_ ((by rw [hg]; exact Nat.ne_of_gt (blk_lt (g := gb265) (o := .cells #[.int .i64 ((rd_T29 l1 x7_2).f0), .int .i64 ((rd_T29 l1 x7_2).f1), .int .i64 ((rd_T29 l1 x7_2).f2), .string ((rd_T29 l1 x7_2).f3), .bool ((rd_T29 l1 x7_2).f4)] 29 (0, 0)) (by (with_reducible repeat (first | apply zn_ | apply zd_ | apply za_)); exact BK265.out)) : gb287 ≠ gb265)); have n11_ := ak_ ((by rw [hg]; exact Nat.ne_of_lt (IsS81.lt (show IsS81 w _ g262 t258 x263001_2 x263002_2 x263003_2 from by repeat (first | (with_reducible first | exact HI262.out | apply i81a_ | apply i81n_ | apply i81d_ | refine IsS81.far ?_ NB262_263.out _ | refine IsS81.far ?_ NB262_265.out _) | exact HI262.out))) : g262 ≠ gb287)); have n12_ := ak_ ((by rw [hg]; exact Nat.ne_of_gt (IsS81.lt (show IsS81 w _ g262 t258 x263001_2 x263002_2 x263003_2 from by repeat (first | (with_reducible first | exact HI262.out | apply i81a_ | apply i81n_ | apply i81d_ | refine IsS81.far ?_ NB262_263.out _ | refine IsS81.far ?_ NB262_265.out _) | exact HI262.out))) : gb287 ≠ g262)); clear BK263; clear HI262; clear BK265; clear HB; have BK263 := n0_; have HI262 := n1_; have BK265 := n2_; have HB := n3_; have BK287 := n4_; have GW287 := n5_; have GE287 := n6_; have NB263_287 := n7_; have NB287_263 := n8_; have NB265_287 := n9_; have NB287_265 := n10_; have NB262_287 := n11_; have NB287_262 := n12_; clear n0_ n1_ n2_ n3_ n4_ n5_ n6_ n7_ n8_ n9_ n10_ n11_ n12_; clear hb hbox hg; have hnb73 := NB287_263.out; have hnc73 := NB263_287.out; have hnb74 := NB287_265.out; have hnc74 := NB265_287.out; have hnb75 := NB287_262.out; have hnc75 := NB262_287.out; have hcz76_0 : w72.cell? ⟨gb287, 0, none⟩ = some (.string ⟨#[]⟩) := (zc_ BK287.out 0).trans rfl; have hcz76_1 : w72.cell? ⟨gb287, 1, none⟩ = some (.int .i64 0) := (zc_ BK287.out 1).trans rfl; have hcz76_2 : w72.cell? ⟨gb287, 2, none⟩ = some (.int .i64 0) := (zc_ BK287.out 2).trans rfl; have hcz76_3 : w72.cell? ⟨gb287, 3, none⟩ = some (.int .i64 0) := (zc_ BK287.out 3).trans rfl; have hcz76_4 : w72.cell? ⟨gb287, 4, none⟩ = some (.int .i64 0) := (zc_ BK287.out 4).trans rfl; have hcz76_5 : w72.cell? ⟨gb287, 5, none⟩ = some (.string ⟨#[]⟩) := (zc_ BK287.out 5).trans rfl; have hcz76_6 : w72.cell? ⟨gb287, 6, none⟩ = some (.bool false) := (zc_ BK287.out 6).trans rfl; have hfz76_0 := zf_ BK287.out 0; have hfz76_1 := zf_ BK287.out 1; have hfz76_2 := zf_ BK287.out 2; have hfz76_3 := zf_ BK287.out 3; have hfz76_4 := zf_ BK287.out 4; have hfz76_5 := zf_ BK287.out 5; have hfz76_6 := zf_ BK287.out 6; have hcz77_0 : w72.cell? ⟨gb263, 0, none⟩ = some (.string x264000_2) := (zc_ BK263.out 0).trans rfl; have hcz77_1 : w72.cell? ⟨gb263, 1, none⟩ = some (.int .i64 x264001_2) := (zc_ BK263.out 1).trans rfl; have hcz77_2 : w72.cell? ⟨gb263, 2, none⟩ = some (.int .i64 x264002_2) := (zc_ BK263.out 2).trans rfl; have hcz77_3 : w72.cell? ⟨gb263, 3, none⟩ = some (.int .i64 x264003_2) := (zc_ BK263.out 3).trans rfl; have hcz77_4 : w72.cell? ⟨gb263, 4, none⟩ = some (.int .i64 x264004_2) := (zc_ BK263.out 4).trans rfl; have hcz77_5 : w72.cell? ⟨gb263, 5, none⟩ = some (.string x264005_2) := (zc_ BK263.out 5).trans rfl; have hcz77_6 : w72.cell? ⟨gb263, 6, none⟩ = some (.bool x264006_2) := (zc_ BK263.out 6).trans rfl; have hfz77_0 := zf_ BK263.out 0; have hfz77_1 := zf_ BK263.out 1; have hfz77_2 := zf_ BK263.out 2; have hfz77_3 := zf_ BK263.out 3; have hfz77_4 := zf_ BK263.out 4; have hfz77_5 := zf_ BK263.out 5; have hfz77_6 := zf_ BK263.out 6; have hcz78_0 : w72.cell? ⟨gb265, 0, none⟩ = some (.int .i64 ((rd_T29 l1 x7_2).f0)) := (zc_ BK265.out 0).trans rfl; have hcz78_1 : w72.cell? ⟨gb265, 1, none⟩ = some (.int .i64 ((rd_T29 l1 x7_2).f1)) := (zc_ BK265.out 1).trans rfl; have hcz78_2 : w72.cell? ⟨gb265, 2, none⟩ = some (.int .i64 ((rd_T29 l1 x7_2).f2)) := (zc_ BK265.out 2).trans rfl; have hcz78_3 : w72.cell? ⟨gb265, 3, none⟩ = some (.string ((rd_T29 l1 x7_2).f3)) := (zc_ BK265.out 3).trans rfl; have hcz78_4 : w72.cell? ⟨gb265, 4, none⟩ = some (.bool ((rd_T29 l1 x7_2).f4)) := (zc_ BK265.out 4).trans rfl; have hfz78_0 := zf_ BK265.out 0; have hfz78_1 := zf_ BK265.out 1; have hfz78_2 := zf_ BK265.out 2; have hfz78_3 := zf_ BK265.out 3; have hfz78_4 := zf_ BK265.out 4) | ((with_reducible refine gate_callee (f := 18) rfl ?_); refine goesL_ (some 71) rfl rfl Try.func18 (by kernel_rfl) rfl #[.pointer (some ⟨g262, 0, none⟩), .int .i64 ((rd_T29 l1 x7_2).f1)] rfl (by simp only [mt_, mc_, mn_] <;> rfl) ?_; (with_reducible refine (field_Reader_Text.calls g262 t258 x263001_2 x263002_2 x263003_2 ((rd_T29 l1 x7_2).f1) t288 t289 t290 t291 w _ ?side1 ?side2 A50.out).mono ?_); (case side1 => repeat (first | (with_reducible first | exact HI262.out | apply i81a_ | apply i81n_ | apply i81d_ | refine IsS81.far ?_ NB262_263.out _ | refine IsS81.far ?_ NB262_265.out _ | refine IsS81.far ?_ NB262_287.out _) | exact HI262.out)); (case side2 => repeat (first | (with_reducible first | exact HB.out | apply pa_ | apply pd_ | apply p1_ | refine zs_ ?_ (IsS81.ge HI262.out) | refine zs_ ?_ GE263.out | refine zs_ ?_ GE265.out | refine zs_ ?_ GE287.out) | exact HB.out)); rintro e w79 ⟨rfl, hi, hb, hk⟩; refine ⟨_, rfl, ?_⟩; have n0_ := ak_ (KeepBut.blk hk (g' := gb263) (o := .cells #[.string t279, .int .i64 t280, .int .i64 t281, .int .i64 t282, .int .i64 t283, .string t284, .bool t285] 40 (0, 0)) (by (with_reducible repeat (first | apply zn_ | apply zd_ | apply za_)); refine zp_ (cs := #[.string t279, .int .i64 t280, .int .i64 t281, .int .i64 t282, .int .i64 t283, .string t284, .bool x264006_2]) ?_ 6 _ rfl; (with_reducible repeat (first | apply zn_ | apply zd_ | apply za_)); refine zp_ (cs := #[.string t279, .int .i64 t280, .int .i64 t281, .int .i64 t282, .int .i64 t283, .string x264005_2, .bool x264006_2]) ?_ 5 _ rfl; (with_reducible repeat (first | apply zn_ | apply zd_ | apply za_)); refine zp_ (cs := #[.string t279, .int .i64 t280, .int .i64 t281, .int .i64 t282, .int .i64 x264004_2, .string x264005_2, .bool x264006_2]) ?_ 4 _ rfl; (with_reducible repeat (first | apply zn_ | apply zd_ | apply za_)); refine zp_ (cs := #[.string t279, .int .i64 t280, .int .i64 t281, .int .i64 x264003_2, .int .i64 x264004_2, .string x264005_2, .bool x264006_2]) ?_ 3 _ rfl; (with_reducible repeat (first | apply zn_ | apply zd_ | apply za_)); refine zp_ (cs := #[.string t279, .int .i64 t280, .int .i64 x264002_2, .int .i64 x264003_2, .int .i64 x264004_2, .string x264005_2, .bool x264006_2]) ?_ 2 _ rfl; (with_reducible repeat (first | apply zn_ | apply zd_ | apply za_)); refine zp_ (cs := #[.string t279, .int .i64 x264001_2, .int .i64 x264002_2, .int .i64 x264003_2, .int .i64 x264004_2, .string x264005_2, .bool x264006_2]) ?_ 1 _ rfl; (with_reducible repeat (first | apply zn_ | apply zd_ | apply za_)); refine zp_ (cs := #[.string x264000_2, .int .i64 x264001_2, .int .i64 x264002_2, .int .i64 x264003_2, .int .i64 x264004_2, .string x264005_2, .bool x264006_2]) ?_ 0 _ rfl; (with_reducible repeat (first | apply zn_ | apply zd_ | apply za_)); refine zr_ ?_ NB263_287.out _; (with_reducible repeat (first | apply zn_ | apply zd_ | apply za_)); refine zr_ ?_ NB263_287.out _; (with_reducible repeat (first | apply zn_ | apply zd_ | apply za_)); refine zr_ ?_ NB263_287.out _; (with_reducible repeat (first | apply zn_ | apply zd_ | apply za_)); refine zr_ ?_ NB263_287.out _; (with_reducible repeat (first | apply zn_ | apply zd_ | apply za_)); refine zr_ ?_ NB263_287.out _; (with_reducible repeat (first | apply zn_ | apply zd_ | apply za_)); refine zr_ ?_ NB263_287.out _; (with_reducible repeat (first | apply zn_ | apply zd_ | apply za_)); refine zr_ ?_ NB263_287.out _; (with_reducible repeat (first | apply zn_ | apply zd_ | apply za_)); exact BK263.out) NB263_262.out (by simp)); have n1_ := ak_ (KeepBut.blk hk (g' := gb265) (o := .cells #[.int .i64 ((rd_T29 l1 x7_2).f0), .int .i64 ((rd_T29 l1 x7_2).f1), .int .i64 ((rd_T29 l1 x7_2).f2), .string ((rd_T29 l1 x7_2).f3), .bool ((rd_T29 l1 x7_2).f4)] 29 (0, 0)) (by (with_reducible repeat (first | apply zn_ | apply zd_ | apply za_)); refine zr_ ?_ NB265_263.out _; (with_reducible repeat (first | apply zn_ | apply zd_ | apply za_)); refine zr_ ?_ NB265_263.out _; (with_reducible repeat (first | apply zn_ | apply zd_ | apply za_)); refine zr_ ?_ NB265_263.out _; (with_reducible repeat (first | apply zn_ | apply zd_ | apply za_)); refine zr_ ?_ NB265_263.out _; (with_reducible repeat (first | apply zn_ | apply zd_ | apply za_)); refine zr_ ?_ NB265_263.out _; (with_reducible repeat (first | apply zn_ | apply zd_ | apply za_)); refine zr_ ?_ NB265_263.out _; (with_reducible repeat (first | apply zn_ | apply zd_ | apply za_)); refine zr_ ?_ NB265_263.out _; (with_reducible repeat (first | apply zn_ | apply zd_ | apply za_)); refine zr_ ?_ NB265_287.out _; (with_reducible repeat (first | apply zn_ | apply zd_ | apply za_)); refine zr_ ?_ NB265_287.out _; (with_reducible repeat (first | apply zn_ | apply zd_ | apply za_)); refine zr_ ?_ NB265_287.out _; (with_reducible repeat (first | apply zn_ | apply zd_ | apply za_)); refine zr_ ?_ NB265_287.out _; (with_reducible repeat (first | apply zn_ | apply zd_ | apply za_)); refine zr_ ?_ NB265_287.out _; (with_reducible repeat (first | apply zn_ | apply zd_ | apply za_)); refine zr_ ?_ NB265_287.out _; (with_reducible repeat (first | apply zn_ | apply zd_ | apply za_)); refine zr_ ?_ NB265_287.out _; (with_reducible repeat (first | apply zn_ | apply zd_ | apply za_)); exact BK265.out) NB265_262.out (by simp)); have n2_ := ak_ (KeepBut.blk hk (g' := gb287) (o := .cells #[.string t279, .int .i64 t280, .int .i64 t281, .int .i64 t282, .int .i64 t283, .string t284, .bool t285] 40 (0, 0)) (by (with_reducible repeat (first | apply zn_ | apply zd_ | apply za_)); refine zr_ ?_ NB287_263.out _; (with_reducible repeat (first | apply zn_ | apply zd_ | apply za_)); refine zr_ ?_ NB287_263.out _; (with_reducible repeat (first | apply zn_ | apply zd_ | apply za_)); refine zr_ ?_ NB287_263.out _; (with_reducible repeat (first | apply zn_ | apply zd_ | apply za_)); refine zr_ ?_ NB287_263.out _; (with_reducible repeat (first | apply zn_ | apply zd_ | apply za_)); refine zr_ ?_ NB287_263.out _; (with_reducible repeat (first | apply zn_ | apply zd_ | apply za_)); refine zr_ ?_ NB287_263.out _; (with_reducible repeat (first | apply zn_ | apply zd_ | apply za_)); refine zr_ ?_ NB287_263.out _; (with_reducible repeat (first | apply zn_ | apply zd_ | apply za_)); refine zp_ (cs := #[.string t279, .int .i64 t280, .int .i64 t281, .int .i64 t282, .int .i64 t283, .string t284, .bool false]) ?_ 6 _ rfl; (with_reducible repeat (first | apply zn_ | apply zd_ | apply za_)); refine zp_ (cs := #[.string t279, .int .i64 t280, .int .i64 t281, .int .i64 t282, .int .i64 t283, .string ⟨#[]⟩, .bool false]) ?_ 5 _ rfl; (with_reducible repeat (first | apply zn_ | apply zd_ | apply za_)); refine zp_ (cs := #[.string t279, .int .i64 t280, .int .i64 t281, .int .i64 t282, .int .i64 0, .string ⟨#[]⟩, .bool false]) ?_ 4 _ rfl; (with_reducible repeat (first | apply zn_ | apply zd_ | apply za_)); refine zp_ (cs := #[.string t279, .int .i64 t280, .int .i64 t281, .int .i64 0, .int .i64 0, .string ⟨#[]⟩, .bool false]) ?_ 3 _ rfl; (with_reducible repeat (first | apply zn_ | apply zd_ | apply za_)); refine zp_ (cs := #[.string t279, .int .i64 t280, .int .i64 0, .int .i64 0, .int .i64 0, .string ⟨#[]⟩, .bool false]) ?_ 2 _ rfl; (with_reducible repeat (first | apply zn_ | apply zd_ | apply za_)); refine zp_ (cs := #[.string t279, .int .i64 0, .int .i64 0, .int .i64 0, .int .i64 0, .string ⟨#[]⟩, .bool false]) ?_ 1 _ rfl; (with_reducible repeat (first | apply zn_ | apply zd_ | apply za_)); refine zp_ (cs := #[.string ⟨#[]⟩, .int .i64 0, .int .i64 0, .int .i64 0, .int .i64 0, .string ⟨#[]⟩, .bool false]) ?_ 0 _ rfl; (with_reducible repeat (first | apply zn_ | apply zd_ | apply za_)); exact BK287.out) NB287_262.out (by simp)); have n3_ := ak_ (hb); have n4_ := ak_ (hi); clear BK263; clear BK265; clear BK287; clear HB; clear HI262; have BK263 := n0_; have BK265 := n1_; have BK287 := n2_; have HB := n3_; have HI262 := n4_; clear n0_ n1_ n2_ n3_ n4_; (try clear hb hk hi)))
                          go_ret
                          exact ⟨by first | rfl | (simp [errW_none, errW_some] <;> rfl) | (simp [*, errW_none, errW_some] <;> rfl), by first | (refine ps_ HBW0.out ?_; (repeat (first | (with_reducible first | exact HB.out | apply pa_ | apply pd_ | apply p1_ | refine zs_ ?_ (IsS81.ge HI262.out) | refine zs_ ?_ GE263.out | refine zs_ ?_ GE265.out | refine zs_ ?_ GE287.out) | exact HB.out)); done) | (repeat (first | (with_reducible first | exact HB.out | apply pa_ | apply pd_ | apply p1_ | refine zs_ ?_ (IsS81.ge HI262.out) | refine zs_ ?_ GE263.out | refine zs_ ?_ GE265.out | refine zs_ ?_ GE287.out) | exact HB.out))⟩
                      · rw [if_neg c48] at H
                        have c48b0 : (((rd_T29 l1 x7_2).f0) == 1) = false := beq_eq_false_iff_ne.mpr c48
                        have c48b1 : (((rd_T29 l1 x7_2).f0) != 1) = true := bne_iff_ne.mpr c48
                        by_cases c80 : ((rd_T29 l1 x7_2).f0) = 2
                        · rw [if_pos c80] at H
                          have c80b0 : (((rd_T29 l1 x7_2).f0) == 2) = true := beq_iff_eq.mpr c80
                          have c80b1 : (((rd_T29 l1 x7_2).f0) != 2) = false := bne_eq_false_iff_eq.mpr c80
                          clear c80
                          replace H := Option.bind_eq_some_iff.mp H
                          obtain ⟨⟨t292, t293, t294, t295, t296, t297, t298, t299⟩, A810, H⟩ := H
                          replace H : ((field_Reader_Flag.f t258 x263001_2 x263002_2 x263003_2).bind fun bt301 => (if (bt301.1 != t299) = true then (some false) else (usufructlaw04_FieldTakes.j2 k2 l1 x7_2 t258 bt301.2.1 bt301.2.2.1 bt301.2.2.2 t292 t293 t294 t295 t296 t297 t298))) = some r := H
                          have A81 := ak_ A810
                          clear A810
                          replace H := Option.bind_eq_some_iff.mp H
                          obtain ⟨⟨t301, t302, t303, t304⟩, A820, H⟩ := H
                          replace H : (if (t301 != t299) = true then (some false) else (usufructlaw04_FieldTakes.j2 k2 l1 x7_2 t258 t302 t303 t304 t292 t293 t294 t295 t296 t297 t298)) = some r := H
                          have A82 := ak_ A820
                          clear A820
                          by_cases c83 : (t301 != t299) = true
                          · rw [if_pos c83] at H
                            have c83b0 : (t301 != t299) = true := c83
                            (try (have c83b1 : decide (t301 = t299) = false := by simpa using c83))
                            (try (have c83b2 : (t301 == t299) = false := by simpa using c83))
                            (try (have c83b3 : ¬ (t301 = t299) := by simpa using c83))
                            clear c83
                            obtain rfl := Option.some.inj H
                            have hnb84 := NB263_265.out
                            have hnc84 := NB265_263.out
                            have hnb85 := NB263_262.out
                            have hnc85 := NB262_263.out
                            have hcz86_0 : w18.cell? ⟨gb263, 0, none⟩ = some (.string x264000_2) := (zc_ BK263.out 0).trans rfl
                            have hcz86_1 : w18.cell? ⟨gb263, 1, none⟩ = some (.int .i64 x264001_2) := (zc_ BK263.out 1).trans rfl
                            have hcz86_2 : w18.cell? ⟨gb263, 2, none⟩ = some (.int .i64 x264002_2) := (zc_ BK263.out 2).trans rfl
                            have hcz86_3 : w18.cell? ⟨gb263, 3, none⟩ = some (.int .i64 x264003_2) := (zc_ BK263.out 3).trans rfl
                            have hcz86_4 : w18.cell? ⟨gb263, 4, none⟩ = some (.int .i64 x264004_2) := (zc_ BK263.out 4).trans rfl
                            have hcz86_5 : w18.cell? ⟨gb263, 5, none⟩ = some (.string x264005_2) := (zc_ BK263.out 5).trans rfl
                            have hcz86_6 : w18.cell? ⟨gb263, 6, none⟩ = some (.bool x264006_2) := (zc_ BK263.out 6).trans rfl
                            have hfz86_0 := zf_ BK263.out 0
                            have hfz86_1 := zf_ BK263.out 1
                            have hfz86_2 := zf_ BK263.out 2
                            have hfz86_3 := zf_ BK263.out 3
                            have hfz86_4 := zf_ BK263.out 4
                            have hfz86_5 := zf_ BK263.out 5
                            have hfz86_6 := zf_ BK263.out 6
                            go_wp2_with (first | ((with_reducible refine gate_callee (f := 23) rfl ?_); refine goesL_ (some 78) rfl rfl Try.func23 (by kernel_rfl) rfl #[.agg #[.string x264000_2, .int .i64 x264001_2, .int .i64 x264002_2, .int .i64 x264003_2, .int .i64 x264004_2, .string x264005_2, .bool x264006_2]] rfl (by (try simp only [List.map_toArray, List.map_cons, List.map_nil]); first | done | rfl | (simp only [List.length_drop, List.length_take]; rfl)) ?_; (with_reducible refine (usufructref04_Flag.calls x264000_2 x264001_2 x264002_2 x264003_2 x264004_2 x264005_2 x264006_2 t292 t293 t294 t295 t296 t297 t298 t299 _ A81.out).mono ?_); rintro e w87 ⟨rfl, hb⟩; refine ⟨_, rfl, ?_⟩; have n0_ := ak_ (blk_below (g := gb263) (o := .cells #[.string x264000_2, .int .i64 x264001_2, .int .i64 x264002_2, .int .i64 x264003_2, .int .i64 x264004_2, .string x264005_2, .bool x264006_2] 40 (0, 0)) (by (with_reducible repeat (first | apply zn_ | apply zd_ | apply za_)); refine zr_ ?_ NB263_265.out _; (with_reducible repeat (first | apply zn_ | apply zd_ | apply za_)); refine zr_ ?_ NB263_265.out _; (with_reducible repeat (first | apply zn_ | apply zd_ | apply za_)); refine zr_ ?_ NB263_265.out _; (with_reducible repeat (first | apply zn_ | apply zd_ | apply za_)); refine zr_ ?_ NB263_265.out _; (with_reducible repeat (first | apply zn_ | apply zd_ | apply za_)); refine zr_ ?_ NB263_265.out _; (with_reducible repeat (first | apply zn_ | apply zd_ | apply za_)); exact BK263.out) hb); have n1_ := ak_ (IsS81.below (show IsS81 w (((((w18.setCell ⟨gb265, 0, none⟩ (.int .i64 ((rd_T29 l1 x7_2).f0))).setCell ⟨gb265, 1, none⟩ (.int .i64 ((rd_T29 l1 x7_2).f1))).setCell ⟨gb265, 2, none⟩ (.int .i64 ((rd_T29 l1 x7_2).f2))).setCell ⟨gb265, 3, none⟩ (.string ((rd_T29 l1 x7_2).f3))).setCell ⟨gb265, 4, none⟩ (.bool ((rd_T29 l1 x7_2).f4))) g262 t258 x263001_2 x263002_2 x263003_2 from by repeat (first | (with_reducible first | exact HI262.out | apply i81a_ | apply i81n_ | apply i81d_ | refine IsS81.far ?_ NB262_263.out _ | refine IsS81.far ?_ NB262_265.out _) | exact HI262.out)) hb); have n2_ := ak_ (blk_below (g := gb265) (o := .cells #[.int .i64 ((rd_T29 l1 x7_2).f0), .int .i64 ((rd_T29 l1 x7_2).f1), .int .i64 ((rd_T29 l1 x7_2).f2), .string ((rd_T29 l1 x7_2).f3), .bool ((rd_T29 l1 x7_2).f4)] 29 (0, 0)) (by (with_reducible repeat (first | apply zn_ | apply zd_ | apply za_)); refine zp_ (cs := #[.int .i64 ((rd_T29 l1 x7_2).f0), .int .i64 ((rd_T29 l1 x7_2).f1), .int .i64 ((rd_T29 l1 x7_2).f2), .string ((rd_T29 l1 x7_2).f3), .bool false]) ?_ 4 _ rfl; (with_reducible repeat (first | apply zn_ | apply zd_ | apply za_)); refine zp_ (cs := #[.int .i64 ((rd_T29 l1 x7_2).f0), .int .i64 ((rd_T29 l1 x7_2).f1), .int .i64 ((rd_T29 l1 x7_2).f2), .string ⟨#[]⟩, .bool false]) ?_ 3 _ rfl; (with_reducible repeat (first | apply zn_ | apply zd_ | apply za_)); refine zp_ (cs := #[.int .i64 ((rd_T29 l1 x7_2).f0), .int .i64 ((rd_T29 l1 x7_2).f1), .int .i64 0, .string ⟨#[]⟩, .bool false]) ?_ 2 _ rfl; (with_reducible repeat (first | apply zn_ | apply zd_ | apply za_)); refine zp_ (cs := #[.int .i64 ((rd_T29 l1 x7_2).f0), .int .i64 0, .int .i64 0, .string ⟨#[]⟩, .bool false]) ?_ 1 _ rfl; (with_reducible repeat (first | apply zn_ | apply zd_ | apply za_)); refine zp_ (cs := #[.int .i64 0, .int .i64 0, .int .i64 0, .string ⟨#[]⟩, .bool false]) ?_ 0 _ rfl; (with_reducible repeat (first | apply zn_ | apply zd_ | apply za_)); exact BK265.out) hb); have n3_ := ak_ (ps_ (by repeat (first | (with_reducible first | exact HB.out | apply pa_ | apply pd_ | apply p1_ | refine zs_ ?_ (IsS81.ge HI262.out) | refine zs_ ?_ GE263.out | refine zs_ ?_ GE265.out) | exact HB.out)) hb); clear BK263; clear HI262; clear BK265; clear HB; have BK263 := n0_; have HI262 := n1_; have BK265 := n2_; have HB := n3_; clear n0_ n1_ n2_ n3_; (try clear hb hk hi)) | ((with_reducible refine gate_dst (N := 13) rfl ?_); (try (refine gate_guard (by rfl) ?_; dsimp only)); refine box_event ?hg (N := 13) ?hd (cs := #[.string ⟨#[]⟩, .int .i64 0, .int .i64 0, .int .i64 0, .int .i64 0, .string ⟨#[]⟩, .bool false]) (t := 40) ?hr ?_; (case hd => rfl); (case hg => rfl); (case hr => first | (go_simp; done) | (go_simp; rfl)); intro gb300 hg w88 hbox hb; have n0_ := ak_ (blk_below (g := gb263) (o := .cells #[.string x264000_2, .int .i64 x264001_2, .int .i64 x264002_2, .int .i64 x264003_2, .int .i64 x264004_2, .string x264005_2, .bool x264006_2] 40 (0, 0)) (by (with_reducible repeat (first | apply zn_ | apply zd_ | apply za_)); exact BK263.out) hb); have n1_ := ak_ (IsS81.below (by repeat (first | (with_reducible first | exact HI262.out | apply i81a_ | apply i81n_ | apply i81d_ | refine IsS81.far ?_ NB262_263.out _ | refine IsS81.far ?_ NB262_265.out _) | exact HI262.out)) hb); have n2_ := ak_ (blk_below (g := gb265) (o := .cells #[.int .i64 ((rd_T29 l1 x7_2).f0), .int .i64 ((rd_T29 l1 x7_2).f1), .int .i64 ((rd_T29 l1 x7_2).f2), .string ((rd_T29 l1 x7_2).f3), .bool ((rd_T29 l1 x7_2).f4)] 29 (0, 0)) (by (with_reducible repeat (first | apply zn_ | apply zd_ | apply za_)); exact BK265.out) hb); have n3_ := ak_ (ps_ (by repeat (first | (with_reducible first | exact HB.out | apply pa_ | apply pd_ | apply p1_ | refine zs_ ?_ (IsS81.ge HI262.out) | refine zs_ ?_ GE263.out | refine zs_ ?_ GE265.out) | exact HB.out)) hb); have n4_ := ak_ (hbox); have n5_ := ak_ ((by rw [hg]; exact (below_size (by repeat (first | (with_reducible first | exact HB.out | apply pa_ | apply pd_ | apply p1_ | refine zs_ ?_ (IsS81.ge HI262.out) | refine zs_ ?_ GE263.out | refine zs_ ?_ GE265.out) | exact HB.out))) : w.heap.size ≤ gb300)); have n6_ := ak_ ((by rw [hg]; exact (below_size (by repeat (first | (with_reducible first | exact HB.out | apply pa_ | apply pd_ | apply p1_ | refine zs_ ?_ (IsS81.ge HI262.out) | refine zs_ ?_ GE263.out | refine zs_ ?_ GE265.out) | exact HB.out))) : w.heap.size ≤ gb300)); have n7_ := ak_ ((by rw [hg]; exact Nat.ne_of_lt (blk_lt (g := gb263) (o := .cells #[.string x264000_2, .int .i64 x264001_2, .int .i64 x264002_2, .int .i64 x264003_2, .int .i64 x264004_2, .string x264005_2, .bool x264006_2] 40 (0, 0)) (by (with_reducible repeat (first | apply zn_ | apply zd_ | apply za_)); exact BK263.out)) : gb263 ≠ gb300)); have n8_ := ak_ ((by rw [hg]; exact Nat.ne_of_gt (blk_lt (g := gb263) (o := .cells #[.string x264000_2, .int .i64 x264001_2, .int .i64 x264002_2, .int .i64 x264003_2, .int .i64 x264004_2, .string x264005_2, .bool x264006_2] 40 (0, 0)) (by (with_reducible repeat (first | apply zn_ | apply zd_ | apply za_)); exact BK263.out)) : gb300 ≠ gb263)); have n9_ := ak_ ((by rw [hg]; exact Nat.ne_of_lt (blk_lt (g := gb265) (o := .cells #[.int .i64 ((rd_T29 l1 x7_2).f0), .int .i64 ((rd_T29 l1 x7_2).f1), .int .i64 ((rd_T29 l1 x7_2).f2), .string ((rd_T29 l1 x7_2).f3), .bool ((rd_T29 l1 x7_2).f4)] 29 (0, 0)) (by (with_reducible repeat (first | apply zn_ | apply zd_ | apply za_)); exact BK265.out)) : gb265 ≠ gb300)); have n10_ := ak_ ((by rw [hg]; exact Nat.ne_of_gt (blk_lt (g := gb265) (o := .cells #[.int .i64 ((rd_T29 l1 x7_2).f0), .int .i64 ((rd_T29 l1 x7_2).f1), .int .i64 ((rd_T29 l1 x7_2).f2), .string ((rd_T29 l1 x7_2).f3), .bool ((rd_T29 l1 x7_2).f4)] 29 (0, 0)) (by (with_reducible repeat (first | apply zn_ | apply zd_ | apply za_)); exact BK265.out)) : gb300 ≠ gb265)); have n11_ := ak_ ((by rw [hg]; exact Nat.ne_of_lt (IsS81.lt (show IsS81 w _ g262 t258 x263001_2 x263002_2 x263003_2 from by repeat (first | (with_reducible first | exact HI262.out | apply i81a_ | apply i81n_ | apply i81d_ | refine IsS81.far ?_ NB262_263.out _ | refine IsS81.far ?_ NB262_265.out _) | exact HI262.out))) : g262 ≠ gb300)); have n12_ := ak_ ((by rw [hg]; exact Nat.ne_of_gt (IsS81.lt (show IsS81 w _ g262 t258 x263001_2 x263002_2 x263003_2 from by repeat (first | (with_reducible first | exact HI262.out | apply i81a_ | apply i81n_ | apply i81d_ | refine IsS81.far ?_ NB262_263.out _ | refine IsS81.far ?_ NB262_265.out _) | exact HI262.out))) : gb300 ≠ g262)); clear BK263; clear HI262; clear BK265; clear HB; have BK263 := n0_; have HI262 := n1_; have BK265 := n2_; have HB := n3_; have BK300 := n4_; have GW300 := n5_; have GE300 := n6_; have NB263_300 := n7_; have NB300_263 := n8_; have NB265_300 := n9_; have NB300_265 := n10_; have NB262_300 := n11_; have NB300_262 := n12_; clear n0_ n1_ n2_ n3_ n4_ n5_ n6_ n7_ n8_ n9_ n10_ n11_ n12_; clear hb hbox hg; have hnb89 := NB300_263.out; have hnc89 := NB263_300.out; have hnb90 := NB300_265.out; have hnc90 := NB265_300.out; have hnb91 := NB300_262.out; have hnc91 := NB262_300.out; have hcz92_0 : w88.cell? ⟨gb300, 0, none⟩ = some (.string ⟨#[]⟩) := (zc_ BK300.out 0).trans rfl; have hcz92_1 : w88.cell? ⟨gb300, 1, none⟩ = some (.int .i64 0) := (zc_ BK300.out 1).trans rfl; have hcz92_2 : w88.cell? ⟨gb300, 2, none⟩ = some (.int .i64 0) := (zc_ BK300.out 2).trans rfl; have hcz92_3 : w88.cell? ⟨gb300, 3, none⟩ = some (.int .i64 0) := (zc_ BK300.out 3).trans rfl; have hcz92_4 : w88.cell? ⟨gb300, 4, none⟩ = some (.int .i64 0) := (zc_ BK300.out 4).trans rfl; have hcz92_5 : w88.cell? ⟨gb300, 5, none⟩ = some (.string ⟨#[]⟩) := (zc_ BK300.out 5).trans rfl; have hcz92_6 : w88.cell? ⟨gb300, 6, none⟩ = some (.bool false) := (zc_ BK300.out 6).trans rfl; have hfz92_0 := zf_ BK300.out 0; have hfz92_1 := zf_ BK300.out 1; have hfz92_2 := zf_ BK300.out 2; have hfz92_3 := zf_ BK300.out 3; have hfz92_4 := zf_ BK300.out 4; have hfz92_5 := zf_ BK300.out 5; have hfz92_6 := zf_ BK300.out 6; have hcz93_0 : w88.cell? ⟨gb263, 0, none⟩ = some (.string x264000_2) := (zc_ BK263.out 0).trans rfl; have hcz93_1 : w88.cell? ⟨gb263, 1, none⟩ = some (.int .i64 x264001_2) := (zc_ BK263.out 1).trans rfl; have hcz93_2 : w88.cell? ⟨gb263, 2, none⟩ = some (.int .i64 x264002_2) := (zc_ BK263.out 2).trans rfl; have hcz93_3 : w88.cell? ⟨gb263, 3, none⟩ = some (.int .i64 x264003_2) := (zc_ BK263.out 3).trans rfl; have hcz93_4 : w88.cell? ⟨gb263, 4, none⟩ = some (.int .i64 x264004_2) := (zc_ BK263.out 4).trans rfl; have hcz93_5 : w88.cell? ⟨gb263, 5, none⟩ = some (.string x264005_2) := (zc_ BK263.out 5).trans rfl; have hcz93_6 : w88.cell? ⟨gb263, 6, none⟩ = some (.bool x264006_2) := (zc_ BK263.out 6).trans rfl; have hfz93_0 := zf_ BK263.out 0; have hfz93_1 := zf_ BK263.out 1; have hfz93_2 := zf_ BK263.out 2; have hfz93_3 := zf_ BK263.out 3; have hfz93_4 := zf_ BK263.out 4; have hfz93_5 := zf_ BK263.out 5; have hfz93_6 := zf_ BK263.out 6) | ((with_reducible refine gate_callee (f := 19) rfl ?_); refine goesL_ (some 83) rfl rfl Try.func19 (by kernel_rfl) rfl #[.pointer (some ⟨g262, 0, none⟩)] rfl (by simp only [mt_, mc_, mn_] <;> rfl) ?_; (with_reducible refine (field_Reader_Flag.calls g262 t258 x263001_2 x263002_2 x263003_2 t301 t302 t303 t304 w _ ?side1 ?side2 A82.out).mono ?_); (case side1 => repeat (first | (with_reducible first | exact HI262.out | apply i81a_ | apply i81n_ | apply i81d_ | refine IsS81.far ?_ NB262_263.out _ | refine IsS81.far ?_ NB262_265.out _ | refine IsS81.far ?_ NB262_300.out _) | exact HI262.out)); (case side2 => repeat (first | (with_reducible first | exact HB.out | apply pa_ | apply pd_ | apply p1_ | refine zs_ ?_ (IsS81.ge HI262.out) | refine zs_ ?_ GE263.out | refine zs_ ?_ GE265.out | refine zs_ ?_ GE300.out) | exact HB.out)); rintro e w94 ⟨rfl, hi, hb, hk⟩; refine ⟨_, rfl, ?_⟩; have n0_ := ak_ (KeepBut.blk hk (g' := gb263) (o := .cells #[.string t292, .int .i64 t293, .int .i64 t294, .int .i64 t295, .int .i64 t296, .string t297, .bool t298] 40 (0, 0)) (by (with_reducible repeat (first | apply zn_ | apply zd_ | apply za_)); refine zp_ (cs := #[.string t292, .int .i64 t293, .int .i64 t294, .int .i64 t295, .int .i64 t296, .string t297, .bool x264006_2]) ?_ 6 _ rfl; (with_reducible repeat (first | apply zn_ | apply zd_ | apply za_)); refine zp_ (cs := #[.string t292, .int .i64 t293, .int .i64 t294, .int .i64 t295, .int .i64 t296, .string x264005_2, .bool x264006_2]) ?_ 5 _ rfl; (with_reducible repeat (first | apply zn_ | apply zd_ | apply za_)); refine zp_ (cs := #[.string t292, .int .i64 t293, .int .i64 t294, .int .i64 t295, .int .i64 x264004_2, .string x264005_2, .bool x264006_2]) ?_ 4 _ rfl; (with_reducible repeat (first | apply zn_ | apply zd_ | apply za_)); refine zp_ (cs := #[.string t292, .int .i64 t293, .int .i64 t294, .int .i64 x264003_2, .int .i64 x264004_2, .string x264005_2, .bool x264006_2]) ?_ 3 _ rfl; (with_reducible repeat (first | apply zn_ | apply zd_ | apply za_)); refine zp_ (cs := #[.string t292, .int .i64 t293, .int .i64 x264002_2, .int .i64 x264003_2, .int .i64 x264004_2, .string x264005_2, .bool x264006_2]) ?_ 2 _ rfl; (with_reducible repeat (first | apply zn_ | apply zd_ | apply za_)); refine zp_ (cs := #[.string t292, .int .i64 x264001_2, .int .i64 x264002_2, .int .i64 x264003_2, .int .i64 x264004_2, .string x264005_2, .bool x264006_2]) ?_ 1 _ rfl; (with_reducible repeat (first | apply zn_ | apply zd_ | apply za_)); refine zp_ (cs := #[.string x264000_2, .int .i64 x264001_2, .int .i64 x264002_2, .int .i64 x264003_2, .int .i64 x264004_2, .string x264005_2, .bool x264006_2]) ?_ 0 _ rfl; (with_reducible repeat (first | apply zn_ | apply zd_ | apply za_)); refine zr_ ?_ NB263_300.out _; (with_reducible repeat (first | apply zn_ | apply zd_ | apply za_)); refine zr_ ?_ NB263_300.out _; (with_reducible repeat (first | apply zn_ | apply zd_ | apply za_)); refine zr_ ?_ NB263_300.out _; (with_reducible repeat (first | apply zn_ | apply zd_ | apply za_)); refine zr_ ?_ NB263_300.out _; (with_reducible repeat (first | apply zn_ | apply zd_ | apply za_)); refine zr_ ?_ NB263_300.out _; (with_reducible repeat (first | apply zn_ | apply zd_ | apply za_)); refine zr_ ?_ NB263_300.out _; (with_reducible repeat (first | apply zn_ | apply zd_ | apply za_)); refine zr_ ?_ NB263_300.out _; (with_reducible repeat (first | apply zn_ | apply zd_ | apply za_)); exact BK263.out) NB263_262.out (by simp)); have n1_ := ak_ (KeepBut.blk hk (g' := gb265) (o := .cells #[.int .i64 ((rd_T29 l1 x7_2).f0), .int .i64 ((rd_T29 l1 x7_2).f1), .int .i64 ((rd_T29 l1 x7_2).f2), .string ((rd_T29 l1 x7_2).f3), .bool ((rd_T29 l1 x7_2).f4)] 29 (0, 0)) (by (with_reducible repeat (first | apply zn_ | apply zd_ | apply za_)); refine zr_ ?_ NB265_263.out _; (with_reducible repeat (first | apply zn_ | apply zd_ | apply za_)); refine zr_ ?_ NB265_263.out _; (with_reducible repeat (first | apply zn_ | apply zd_ | apply za_)); refine zr_ ?_ NB265_263.out _; (with_reducible repeat (first | apply zn_ | apply zd_ | apply za_)); refine zr_ ?_ NB265_263.out _; (with_reducible repeat (first | apply zn_ | apply zd_ | apply za_)); refine zr_ ?_ NB265_263.out _; (with_reducible repeat (first | apply zn_ | apply zd_ | apply za_)); refine zr_ ?_ NB265_263.out _; (with_reducible repeat (first | apply zn_ | apply zd_ | apply za_)); refine zr_ ?_ NB265_263.out _; (with_reducible repeat (first | apply zn_ | apply zd_ | apply za_)); refine zr_ ?_ NB265_300.out _; (with_reducible repeat (first | apply zn_ | apply zd_ | apply za_)); refine zr_ ?_ NB265_300.out _; (with_reducible repeat (first | apply zn_ | apply zd_ | apply za_)); refine zr_ ?_ NB265_300.out _; (with_reducible repeat (first | apply zn_ | apply zd_ | apply za_)); refine zr_ ?_ NB265_300.out _; (with_reducible repeat (first | apply zn_ | apply zd_ | apply za_)); refine zr_ ?_ NB265_300.out _; (with_reducible repeat (first | apply zn_ | apply zd_ | apply za_)); refine zr_ ?_ NB265_300.out _; (with_reducible repeat (first | apply zn_ | apply zd_ | apply za_)); refine zr_ ?_ NB265_300.out _; (with_reducible repeat (first | apply zn_ | apply zd_ | apply za_)); exact BK265.out) NB265_262.out (by simp)); have n2_ := ak_ (KeepBut.blk hk (g' := gb300) (o := .cells #[.string t292, .int .i64 t293, .int .i64 t294, .int .i64 t295, .int .i64 t296, .string t297, .bool t298] 40 (0, 0)) (by (with_reducible repeat (first | apply zn_ | apply zd_ | apply za_)); refine zr_ ?_ NB300_263.out _; (with_reducible repeat (first | apply zn_ | apply zd_ | apply za_)); refine zr_ ?_ NB300_263.out _; (with_reducible repeat (first | apply zn_ | apply zd_ | apply za_)); refine zr_ ?_ NB300_263.out _; (with_reducible repeat (first | apply zn_ | apply zd_ | apply za_)); refine zr_ ?_ NB300_263.out _; (with_reducible repeat (first | apply zn_ | apply zd_ | apply za_)); refine zr_ ?_ NB300_263.out _; (with_reducible repeat (first | apply zn_ | apply zd_ | apply za_)); refine zr_ ?_ NB300_263.out _; (with_reducible repeat (first | apply zn_ | apply zd_ | apply za_)); refine zr_ ?_ NB300_263.out _; (with_reducible repeat (first | apply zn_ | apply zd_ | apply za_)); refine zp_ (cs := #[.string t292, .int .i64 t293, .int .i64 t294, .int .i64 t295, .int .i64 t296, .string t297, .bool false]) ?_ 6 _ rfl; (with_reducible repeat (first | apply zn_ | apply zd_ | apply za_)); refine zp_ (cs := #[.string t292, .int .i64 t293, .int .i64 t294, .int .i64 t295, .int .i64 t296, .string ⟨#[]⟩, .bool false]) ?_ 5 _ rfl; (with_reducible repeat (first | apply zn_ | apply zd_ | apply za_)); refine zp_ (cs := #[.string t292, .int .i64 t293, .int .i64 t294, .int .i64 t295, .int .i64 0, .string ⟨#[]⟩, .bool false]) ?_ 4 _ rfl; (with_reducible repeat (first | apply zn_ | apply zd_ | apply za_)); refine zp_ (cs := #[.string t292, .int .i64 t293, .int .i64 t294, .int .i64 0, .int .i64 0, .string ⟨#[]⟩, .bool false]) ?_ 3 _ rfl; (with_reducible repeat (first | apply zn_ | apply zd_ | apply za_)); refine zp_ (cs := #[.string t292, .int .i64 t293, .int .i64 0, .int .i64 0, .int .i64 0, .string ⟨#[]⟩, .bool false]) ?_ 2 _ rfl; (with_reducible repeat (first | apply zn_ | apply zd_ | apply za_)); refine zp_ (cs := #[.string t292, .int .i64 0, .int .i64 0, .int .i64 0, .int .i64 0, .string ⟨#[]⟩, .bool false]) ?_ 1 _ rfl; (with_reducible repeat (first | apply zn_ | apply zd_ | apply za_)); refine zp_ (cs := #[.string ⟨#[]⟩, .int .i64 0, .int .i64 0, .int .i64 0, .int .i64 0, .string ⟨#[]⟩, .bool false]) ?_ 0 _ rfl; (with_reducible repeat (first | apply zn_ | apply zd_ | apply za_)); exact BK300.out) NB300_262.out (by simp)); have n3_ := ak_ (hb); have n4_ := ak_ (hi); clear BK263; clear BK265; clear BK300; clear HB; clear HI262; have BK263 := n0_; have BK265 := n1_; have BK300 := n2_; have HB := n3_; have HI262 := n4_; clear n0_ n1_ n2_ n3_ n4_; (try clear hb hk hi)))
                            go_ret
                            exact ⟨by first | rfl | (simp [errW_none, errW_some] <;> rfl) | (simp [*, errW_none, errW_some] <;> rfl), by first | (refine ps_ HBW0.out ?_; (repeat (first | (with_reducible first | exact HB.out | apply pa_ | apply pd_ | apply p1_ | refine zs_ ?_ (IsS81.ge HI262.out) | refine zs_ ?_ GE263.out | refine zs_ ?_ GE265.out | refine zs_ ?_ GE300.out) | exact HB.out)); done) | (repeat (first | (with_reducible first | exact HB.out | apply pa_ | apply pd_ | apply p1_ | refine zs_ ?_ (IsS81.ge HI262.out) | refine zs_ ?_ GE263.out | refine zs_ ?_ GE265.out | refine zs_ ?_ GE300.out) | exact HB.out))⟩
                          · rw [if_neg c83] at H
                            have c83b0 : (t301 != t299) = false := by simpa using c83
                            (try (have c83b1 : decide (t301 = t299) = true := by simpa using c83))
                            (try (have c83b2 : (t301 == t299) = true := by simpa using c83))
                            clear c83
                            have H' := ak_ H
                            clear H
                            have hnb95 := NB263_265.out
                            have hnc95 := NB265_263.out
                            have hnb96 := NB263_262.out
                            have hnc96 := NB262_263.out
                            have hcz97_0 : w18.cell? ⟨gb263, 0, none⟩ = some (.string x264000_2) := (zc_ BK263.out 0).trans rfl
                            have hcz97_1 : w18.cell? ⟨gb263, 1, none⟩ = some (.int .i64 x264001_2) := (zc_ BK263.out 1).trans rfl
                            have hcz97_2 : w18.cell? ⟨gb263, 2, none⟩ = some (.int .i64 x264002_2) := (zc_ BK263.out 2).trans rfl
                            have hcz97_3 : w18.cell? ⟨gb263, 3, none⟩ = some (.int .i64 x264003_2) := (zc_ BK263.out 3).trans rfl
                            have hcz97_4 : w18.cell? ⟨gb263, 4, none⟩ = some (.int .i64 x264004_2) := (zc_ BK263.out 4).trans rfl
                            have hcz97_5 : w18.cell? ⟨gb263, 5, none⟩ = some (.string x264005_2) := (zc_ BK263.out 5).trans rfl
                            have hcz97_6 : w18.cell? ⟨gb263, 6, none⟩ = some (.bool x264006_2) := (zc_ BK263.out 6).trans rfl
                            have hfz97_0 := zf_ BK263.out 0
                            have hfz97_1 := zf_ BK263.out 1
                            have hfz97_2 := zf_ BK263.out 2
                            have hfz97_3 := zf_ BK263.out 3
                            have hfz97_4 := zf_ BK263.out 4
                            have hfz97_5 := zf_ BK263.out 5
                            have hfz97_6 := zf_ BK263.out 6
                            go_wp2_with (first | ((with_reducible refine gate_callee (f := 23) rfl ?_); refine goesL_ (some 78) rfl rfl Try.func23 (by kernel_rfl) rfl #[.agg #[.string x264000_2, .int .i64 x264001_2, .int .i64 x264002_2, .int .i64 x264003_2, .int .i64 x264004_2, .string x264005_2, .bool x264006_2]] rfl (by (try simp only [List.map_toArray, List.map_cons, List.map_nil]); first | done | rfl | (simp only [List.length_drop, List.length_take]; rfl)) ?_; (with_reducible refine (usufructref04_Flag.calls x264000_2 x264001_2 x264002_2 x264003_2 x264004_2 x264005_2 x264006_2 t292 t293 t294 t295 t296 t297 t298 t299 _ A81.out).mono ?_); rintro e w98 ⟨rfl, hb⟩; refine ⟨_, rfl, ?_⟩; have n0_ := ak_ (blk_below (g := gb263) (o := .cells #[.string x264000_2, .int .i64 x264001_2, .int .i64 x264002_2, .int .i64 x264003_2, .int .i64 x264004_2, .string x264005_2, .bool x264006_2] 40 (0, 0)) (by (with_reducible repeat (first | apply zn_ | apply zd_ | apply za_)); refine zr_ ?_ NB263_265.out _; (with_reducible repeat (first | apply zn_ | apply zd_ | apply za_)); refine zr_ ?_ NB263_265.out _; (with_reducible repeat (first | apply zn_ | apply zd_ | apply za_)); refine zr_ ?_ NB263_265.out _; (with_reducible repeat (first | apply zn_ | apply zd_ | apply za_)); refine zr_ ?_ NB263_265.out _; (with_reducible repeat (first | apply zn_ | apply zd_ | apply za_)); refine zr_ ?_ NB263_265.out _; (with_reducible repeat (first | apply zn_ | apply zd_ | apply za_)); exact BK263.out) hb); have n1_ := ak_ (IsS81.below (show IsS81 w (((((w18.setCell ⟨gb265, 0, none⟩ (.int .i64 ((rd_T29 l1 x7_2).f0))).setCell ⟨gb265, 1, none⟩ (.int .i64 ((rd_T29 l1 x7_2).f1))).setCell ⟨gb265, 2, none⟩ (.int .i64 ((rd_T29 l1 x7_2).f2))).setCell ⟨gb265, 3, none⟩ (.string ((rd_T29 l1 x7_2).f3))).setCell ⟨gb265, 4, none⟩ (.bool ((rd_T29 l1 x7_2).f4))) g262 t258 x263001_2 x263002_2 x263003_2 from by repeat (first | (with_reducible first | exact HI262.out | apply i81a_ | apply i81n_ | apply i81d_ | refine IsS81.far ?_ NB262_263.out _ | refine IsS81.far ?_ NB262_265.out _) | exact HI262.out)) hb); have n2_ := ak_ (blk_below (g := gb265) (o := .cells #[.int .i64 ((rd_T29 l1 x7_2).f0), .int .i64 ((rd_T29 l1 x7_2).f1), .int .i64 ((rd_T29 l1 x7_2).f2), .string ((rd_T29 l1 x7_2).f3), .bool ((rd_T29 l1 x7_2).f4)] 29 (0, 0)) (by (with_reducible repeat (first | apply zn_ | apply zd_ | apply za_)); refine zp_ (cs := #[.int .i64 ((rd_T29 l1 x7_2).f0), .int .i64 ((rd_T29 l1 x7_2).f1), .int .i64 ((rd_T29 l1 x7_2).f2), .string ((rd_T29 l1 x7_2).f3), .bool false]) ?_ 4 _ rfl; (with_reducible repeat (first | apply zn_ | apply zd_ | apply za_)); refine zp_ (cs := #[.int .i64 ((rd_T29 l1 x7_2).f0), .int .i64 ((rd_T29 l1 x7_2).f1), .int .i64 ((rd_T29 l1 x7_2).f2), .string ⟨#[]⟩, .bool false]) ?_ 3 _ rfl; (with_reducible repeat (first | apply zn_ | apply zd_ | apply za_)); refine zp_ (cs := #[.int .i64 ((rd_T29 l1 x7_2).f0), .int .i64 ((rd_T29 l1 x7_2).f1), .int .i64 0, .string ⟨#[]⟩, .bool false]) ?_ 2 _ rfl; (with_reducible repeat (first | apply zn_ | apply zd_ | apply za_)); refine zp_ (cs := #[.int .i64 ((rd_T29 l1 x7_2).f0), .int .i64 0, .int .i64 0, .string ⟨#[]⟩, .bool false]) ?_ 1 _ rfl; (with_reducible repeat (first | apply zn_ | apply zd_ | apply za_)); refine zp_ (cs := #[.int .i64 0, .int .i64 0, .int .i64 0, .string ⟨#[]⟩, .bool false]) ?_ 0 _ rfl; (with_reducible repeat (first | apply zn_ | apply zd_ | apply za_)); exact BK265.out) hb); have n3_ := ak_ (ps_ (by repeat (first | (with_reducible first | exact HB.out | apply pa_ | apply pd_ | apply p1_ | refine zs_ ?_ (IsS81.ge HI262.out) | refine zs_ ?_ GE263.out | refine zs_ ?_ GE265.out) | exact HB.out)) hb); clear BK263; clear HI262; clear BK265; clear HB; have BK263 := n0_; have HI262 := n1_; have BK265 := n2_; have HB := n3_; clear n0_ n1_ n2_ n3_; (try clear hb hk hi)) | ((with_reducible refine gate_dst (N := 13) rfl ?_); (try (refine gate_guard (by rfl) ?_; dsimp only)); refine box_event ?hg (N := 13) ?hd (cs := #[.string ⟨#[]⟩, .int .i64 0, .int .i64 0, .int .i64 0, .int .i64 0, .string ⟨#[]⟩, .bool false]) (t := 40) ?hr ?_; (case hd => rfl); (case hg => rfl); (case hr => first | (go_simp; done) | (go_simp; rfl)); intro gb300 hg w99 hbox hb; have n0_ := ak_ (blk_below (g := gb263) (o := .cells #[.string x264000_2, .int .i64 x264001_2, .int .i64 x264002_2, .int .i64 x264003_2, .int .i64 x264004_2, .string x264005_2, .bool x264006_2] 40 (0, 0)) (by (with_reducible repeat (first | apply zn_ | apply zd_ | apply za_)); exact BK263.out) hb); have n1_ := ak_ (IsS81.below (by repeat (first | (with_reducible first | exact HI262.out | apply i81a_ | apply i81n_ | apply i81d_ | refine IsS81.far ?_ NB262_263.out _ | refine IsS81.far ?_ NB262_265.out _) | exact HI262.out)) hb); have n2_ := ak_ (blk_below (g := gb265) (o := .cells #[.int .i64 ((rd_T29 l1 x7_2).f0), .int .i64 ((rd_T29 l1 x7_2).f1), .int .i64 ((rd_T29 l1 x7_2).f2), .string ((rd_T29 l1 x7_2).f3), .bool ((rd_T29 l1 x7_2).f4)] 29 (0, 0)) (by (with_reducible repeat (first | apply zn_ | apply zd_ | apply za_)); exact BK265.out) hb); have n3_ := ak_ (ps_ (by repeat (first | (with_reducible first | exact HB.out | apply pa_ | apply pd_ | apply p1_ | refine zs_ ?_ (IsS81.ge HI262.out) | refine zs_ ?_ GE263.out | refine zs_ ?_ GE265.out) | exact HB.out)) hb); have n4_ := ak_ (hbox); have n5_ := ak_ ((by rw [hg]; exact (below_size (by repeat (first | (with_reducible first | exact HB.out | apply pa_ | apply pd_ | apply p1_ | refine zs_ ?_ (IsS81.ge HI262.out) | refine zs_ ?_ GE263.out | refine zs_ ?_ GE265.out) | exact HB.out))) : w.heap.size ≤ gb300)); have n6_ := ak_ ((by rw [hg]; exact (below_size (by repeat (first | (with_reducible first | exact HB.out | apply pa_ | apply pd_ | apply p1_ | refine zs_ ?_ (IsS81.ge HI262.out) | refine zs_ ?_ GE263.out | refine zs_ ?_ GE265.out) | exact HB.out))) : w.heap.size ≤ gb300)); have n7_ := ak_ ((by rw [hg]; exact Nat.ne_of_lt (blk_lt (g := gb263) (o := .cells #[.string x264000_2, .int .i64 x264001_2, .int .i64 x264002_2, .int .i64 x264003_2, .int .i64 x264004_2, .string x264005_2, .bool x264006_2] 40 (0, 0)) (by (with_reducible repeat (first | apply zn_ | apply zd_ | apply za_)); exact BK263.out)) : gb263 ≠ gb300)); have n8_ := ak_ ((by rw [hg]; exact Nat.ne_of_gt (blk_lt (g := gb263) (o := .cells #[.string x264000_2, .int .i64 x264001_2, .int .i64 x264002_2, .int .i64 x264003_2, .int .i64 x264004_2, .string x264005_2, .bool x264006_2] 40 (0, 0)) (by (with_reducible repeat (first | apply zn_ | apply zd_ | apply za_)); exact BK263.out)) : gb300 ≠ gb263)); have n9_ := ak_ ((by rw [hg]; exact Nat.ne_of_lt (blk_lt (g := gb265) (o := .cells #[.int .i64 ((rd_T29 l1 x7_2).f0), .int .i64 ((rd_T29 l1 x7_2).f1), .int .i64 ((rd_T29 l1 x7_2).f2), .string ((rd_T29 l1 x7_2).f3), .bool ((rd_T29 l1 x7_2).f4)] 29 (0, 0)) (by (with_reducible repeat (first | apply zn_ | apply zd_ | apply za_)); exact BK265.out)) : gb265 ≠ gb300)); have n10_ := ak_ ((by rw [hg]; exact Nat.ne_of_gt (blk_lt (g := gb265) (o := .cells #[.int .i64 ((rd_T29 l1 x7_2).f0), .int .i64 ((rd_T29 l1 x7_2).f1), .int .i64 ((rd_T29 l1 x7_2).f2), .string ((rd_T29 l1 x7_2).f3), .bool ((rd_T29 l1 x7_2).f4)] 29 (0, 0)) (by (with_reducible repeat (first | apply zn_ | apply zd_ | apply za_)); exact BK265.out)) : gb300 ≠ gb265)); have n11_ := ak_ ((by rw [hg]; exact Nat.ne_of_lt (IsS81.lt (show IsS81 w _ g262 t258 x263001_2 x263002_2 x263003_2 from by repeat (first | (with_reducible first | exact HI262.out | apply i81a_ | apply i81n_ | apply i81d_ | refine IsS81.far ?_ NB262_263.out _ | refine IsS81.far ?_ NB262_265.out _) | exact HI262.out))) : g262 ≠ gb300)); have n12_ := ak_ ((by rw [hg]; exact Nat.ne_of_gt (IsS81.lt (show IsS81 w _ g262 t258 x263001_2 x263002_2 x263003_2 from by repeat (first | (with_reducible first | exact HI262.out | apply i81a_ | apply i81n_ | apply i81d_ | refine IsS81.far ?_ NB262_263.out _ | refine IsS81.far ?_ NB262_265.out _) | exact HI262.out))) : gb300 ≠ g262)); clear BK263; clear HI262; clear BK265; clear HB; have BK263 := n0_; have HI262 := n1_; have BK265 := n2_; have HB := n3_; have BK300 := n4_; have GW300 := n5_; have GE300 := n6_; have NB263_300 := n7_; have NB300_263 := n8_; have NB265_300 := n9_; have NB300_265 := n10_; have NB262_300 := n11_; have NB300_262 := n12_; clear n0_ n1_ n2_ n3_ n4_ n5_ n6_ n7_ n8_ n9_ n10_ n11_ n12_; clear hb hbox hg; have hnb100 := NB300_263.out; have hnc100 := NB263_300.out; have hnb101 := NB300_265.out; have hnc101 := NB265_300.out; have hnb102 := NB300_262.out; have hnc102 := NB262_300.out; have hcz103_0 : w99.cell? ⟨gb300, 0, none⟩ = some (.string ⟨#[]⟩) := (zc_ BK300.out 0).trans rfl; have hcz103_1 : w99.cell? ⟨gb300, 1, none⟩ = some (.int .i64 0) := (zc_ BK300.out 1).trans rfl; have hcz103_2 : w99.cell? ⟨gb300, 2, none⟩ = some (.int .i64 0) := (zc_ BK300.out 2).trans rfl; have hcz103_3 : w99.cell? ⟨gb300, 3, none⟩ = some (.int .i64 0) := (zc_ BK300.out 3).trans rfl; have hcz103_4 : w99.cell? ⟨gb300, 4, none⟩ = some (.int .i64 0) := (zc_ BK300.out 4).trans rfl; have hcz103_5 : w99.cell? ⟨gb300, 5, none⟩ = some (.string ⟨#[]⟩) := (zc_ BK300.out 5).trans rfl; have hcz103_6 : w99.cell? ⟨gb300, 6, none⟩ = some (.bool false) := (zc_ BK300.out 6).trans rfl; have hfz103_0 := zf_ BK300.out 0; have hfz103_1 := zf_ BK300.out 1; have hfz103_2 := zf_ BK300.out 2; have hfz103_3 := zf_ BK300.out 3; have hfz103_4 := zf_ BK300.out 4; have hfz103_5 := zf_ BK300.out 5; have hfz103_6 := zf_ BK300.out 6; have hcz104_0 : w99.cell? ⟨gb263, 0, none⟩ = some (.string x264000_2) := (zc_ BK263.out 0).trans rfl; have hcz104_1 : w99.cell? ⟨gb263, 1, none⟩ = some (.int .i64 x264001_2) := (zc_ BK263.out 1).trans rfl; have hcz104_2 : w99.cell? ⟨gb263, 2, none⟩ = some (.int .i64 x264002_2) := (zc_ BK263.out 2).trans rfl; have hcz104_3 : w99.cell? ⟨gb263, 3, none⟩ = some (.int .i64 x264003_2) := (zc_ BK263.out 3).trans rfl; have hcz104_4 : w99.cell? ⟨gb263, 4, none⟩ = some (.int .i64 x264004_2) := (zc_ BK263.out 4).trans rfl; have hcz104_5 : w99.cell? ⟨gb263, 5, none⟩ = some (.string x264005_2) := (zc_ BK263.out 5).trans rfl; have hcz104_6 : w99.cell? ⟨gb263, 6, none⟩ = some (.bool x264006_2) := (zc_ BK263.out 6).trans rfl; have hfz104_0 := zf_ BK263.out 0; have hfz104_1 := zf_ BK263.out 1; have hfz104_2 := zf_ BK263.out 2; have hfz104_3 := zf_ BK263.out 3; have hfz104_4 := zf_ BK263.out 4; have hfz104_5 := zf_ BK263.out 5; have hfz104_6 := zf_ BK263.out 6) | ((with_reducible refine gate_callee (f := 19) rfl ?_); refine goesL_ (some 83) rfl rfl Try.func19 (by kernel_rfl) rfl #[.pointer (some ⟨g262, 0, none⟩)] rfl (by simp only [mt_, mc_, mn_] <;> rfl) ?_; (with_reducible refine (field_Reader_Flag.calls g262 t258 x263001_2 x263002_2 x263003_2 t301 t302 t303 t304 w _ ?side1 ?side2 A82.out).mono ?_); (case side1 => repeat (first | (with_reducible first | exact HI262.out | apply i81a_ | apply i81n_ | apply i81d_ | refine IsS81.far ?_ NB262_263.out _ | refine IsS81.far ?_ NB262_265.out _ | refine IsS81.far ?_ NB262_300.out _) | exact HI262.out)); (case side2 => repeat (first | (with_reducible first | exact HB.out | apply pa_ | apply pd_ | apply p1_ | refine zs_ ?_ (IsS81.ge HI262.out) | refine zs_ ?_ GE263.out | refine zs_ ?_ GE265.out | refine zs_ ?_ GE300.out) | exact HB.out)); rintro e w105 ⟨rfl, hi, hb, hk⟩; refine ⟨_, rfl, ?_⟩; have n0_ := ak_ (KeepBut.blk hk (g' := gb263) (o := .cells #[.string t292, .int .i64 t293, .int .i64 t294, .int .i64 t295, .int .i64 t296, .string t297, .bool t298] 40 (0, 0)) (by (with_reducible repeat (first | apply zn_ | apply zd_ | apply za_)); refine zp_ (cs := #[.string t292, .int .i64 t293, .int .i64 t294, .int .i64 t295, .int .i64 t296, .string t297, .bool x264006_2]) ?_ 6 _ rfl; (with_reducible repeat (first | apply zn_ | apply zd_ | apply za_)); refine zp_ (cs := #[.string t292, .int .i64 t293, .int .i64 t294, .int .i64 t295, .int .i64 t296, .string x264005_2, .bool x264006_2]) ?_ 5 _ rfl; (with_reducible repeat (first | apply zn_ | apply zd_ | apply za_)); refine zp_ (cs := #[.string t292, .int .i64 t293, .int .i64 t294, .int .i64 t295, .int .i64 x264004_2, .string x264005_2, .bool x264006_2]) ?_ 4 _ rfl; (with_reducible repeat (first | apply zn_ | apply zd_ | apply za_)); refine zp_ (cs := #[.string t292, .int .i64 t293, .int .i64 t294, .int .i64 x264003_2, .int .i64 x264004_2, .string x264005_2, .bool x264006_2]) ?_ 3 _ rfl; (with_reducible repeat (first | apply zn_ | apply zd_ | apply za_)); refine zp_ (cs := #[.string t292, .int .i64 t293, .int .i64 x264002_2, .int .i64 x264003_2, .int .i64 x264004_2, .string x264005_2, .bool x264006_2]) ?_ 2 _ rfl; (with_reducible repeat (first | apply zn_ | apply zd_ | apply za_)); refine zp_ (cs := #[.string t292, .int .i64 x264001_2, .int .i64 x264002_2, .int .i64 x264003_2, .int .i64 x264004_2, .string x264005_2, .bool x264006_2]) ?_ 1 _ rfl; (with_reducible repeat (first | apply zn_ | apply zd_ | apply za_)); refine zp_ (cs := #[.string x264000_2, .int .i64 x264001_2, .int .i64 x264002_2, .int .i64 x264003_2, .int .i64 x264004_2, .string x264005_2, .bool x264006_2]) ?_ 0 _ rfl; (with_reducible repeat (first | apply zn_ | apply zd_ | apply za_)); refine zr_ ?_ NB263_300.out _; (with_reducible repeat (first | apply zn_ | apply zd_ | apply za_)); refine zr_ ?_ NB263_300.out _; (with_reducible repeat (first | apply zn_ | apply zd_ | apply za_)); refine zr_ ?_ NB263_300.out _; (with_reducible repeat (first | apply zn_ | apply zd_ | apply za_)); refine zr_ ?_ NB263_300.out _; (with_reducible repeat (first | apply zn_ | apply zd_ | apply za_)); refine zr_ ?_ NB263_300.out _; (with_reducible repeat (first | apply zn_ | apply zd_ | apply za_)); refine zr_ ?_ NB263_300.out _; (with_reducible repeat (first | apply zn_ | apply zd_ | apply za_)); refine zr_ ?_ NB263_300.out _; (with_reducible repeat (first | apply zn_ | apply zd_ | apply za_)); exact BK263.out) NB263_262.out (by simp)); have n1_ := ak_ (KeepBut.blk hk (g' := gb265) (o := .cells #[.int .i64 ((rd_T29 l1 x7_2).f0), .int .i64 ((rd_T29 l1 x7_2).f1), .int .i64 ((rd_T29 l1 x7_2).f2), .string ((rd_T29 l1 x7_2).f3), .bool ((rd_T29 l1 x7_2).f4)] 29 (0, 0)) (by (with_reducible repeat (first | apply zn_ | apply zd_ | apply za_)); refine zr_ ?_ NB265_263.out _; (with_reducible repeat (first | apply zn_ | apply zd_ | apply za_)); refine zr_ ?_ NB265_263.out _; (with_reducible repeat (first | apply zn_ | apply zd_ | apply za_)); refine zr_ ?_ NB265_263.out _; (with_reducible repeat (first | apply zn_ | apply zd_ | apply za_)); refine zr_ ?_ NB265_263.out _; (with_reducible repeat (first | apply zn_ | apply zd_ | apply za_)); refine zr_ ?_ NB265_263.out _; (with_reducible repeat (first | apply zn_ | apply zd_ | apply za_)); refine zr_ ?_ NB265_263.out _; (with_reducible repeat (first | apply zn_ | apply zd_ | apply za_)); refine zr_ ?_ NB265_263.out _; (with_reducible repeat (first | apply zn_ | apply zd_ | apply za_)); refine zr_ ?_ NB265_300.out _; (with_reducible repeat (first | apply zn_ | apply zd_ | apply za_)); refine zr_ ?_ NB265_300.out _; (with_reducible repeat (first | apply zn_ | apply zd_ | apply za_)); refine zr_ ?_ NB265_300.out _; (with_reducible repeat (first | apply zn_ | apply zd_ | apply za_)); refine zr_ ?_ NB265_300.out _; (with_reducible repeat (first | apply zn_ | apply zd_ | apply za_)); refine zr_ ?_ NB265_300.out _; (with_reducible repeat (first | apply zn_ | apply zd_ | apply za_)); refine zr_ ?_ NB265_300.out _; (with_reducible repeat (first | apply zn_ | apply zd_ | apply za_)); refine zr_ ?_ NB265_300.out _; (with_reducible repeat (first | apply zn_ | apply zd_ | apply za_)); exact BK265.out) NB265_262.out (by simp)); have n2_ := ak_ (KeepBut.blk hk (g' := gb300) (o := .cells #[.string t292, .int .i64 t293, .int .i64 t294, .int .i64 t295, .int .i64 t296, .string t297, .bool t298] 40 (0, 0)) (by (with_reducible repeat (first | apply zn_ | apply zd_ | apply za_)); refine zr_ ?_ NB300_263.out _; (with_reducible repeat (first | apply zn_ | apply zd_ | apply za_)); refine zr_ ?_ NB300_263.out _; (with_reducible repeat (first | apply zn_ | apply zd_ | apply za_)); refine zr_ ?_ NB300_263.out _; (with_reducible repeat (first | apply zn_ | apply zd_ | apply za_)); refine zr_ ?_ NB300_263.out _; (with_reducible repeat (first | apply zn_ | apply zd_ | apply za_)); refine zr_ ?_ NB300_263.out _; (with_reducible repeat (first | apply zn_ | apply zd_ | apply za_)); refine zr_ ?_ NB300_263.out _; (with_reducible repeat (first | apply zn_ | apply zd_ | apply za_)); refine zr_ ?_ NB300_263.out _; (with_reducible repeat (first | apply zn_ | apply zd_ | apply za_)); refine zp_ (cs := #[.string t292, .int .i64 t293, .int .i64 t294, .int .i64 t295, .int .i64 t296, .string t297, .bool false]) ?_ 6 _ rfl; (with_reducible repeat (first | apply zn_ | apply zd_ | apply za_)); refine zp_ (cs := #[.string t292, .int .i64 t293, .int .i64 t294, .int .i64 t295, .int .i64 t296, .string ⟨#[]⟩, .bool false]) ?_ 5 _ rfl; (with_reducible repeat (first | apply zn_ | apply zd_ | apply za_)); refine zp_ (cs := #[.string t292, .int .i64 t293, .int .i64 t294, .int .i64 t295, .int .i64 0, .string ⟨#[]⟩, .bool false]) ?_ 4 _ rfl; (with_reducible repeat (first | apply zn_ | apply zd_ | apply za_)); refine zp_ (cs := #[.string t292, .int .i64 t293, .int .i64 t294, .int .i64 0, .int .i64 0, .string ⟨#[]⟩, .bool false]) ?_ 3 _ rfl; (with_reducible repeat (first | apply zn_ | apply zd_ | apply za_)); refine zp_ (cs := #[.string t292, .int .i64 t293, .int .i64 0, .int .i64 0, .int .i64 0, .string ⟨#[]⟩, .bool false]) ?_ 2 _ rfl; (with_reducible repeat (first | apply zn_ | apply zd_ | apply za_)); refine zp_ (cs := #[.string t292, .int .i64 0, .int .i64 0, .int .i64 0, .int .i64 0, .string ⟨#[]⟩, .bool false]) ?_ 1 _ rfl; (with_reducible repeat (first | apply zn_ | apply zd_ | apply za_)); refine zp_ (cs := #[.string ⟨#[]⟩, .int .i64 0, .int .i64 0, .int .i64 0, .int .i64 0, .string ⟨#[]⟩, .bool false]) ?_ 0 _ rfl; (with_reducible repeat (first | apply zn_ | apply zd_ | apply za_)); exact BK300.out) NB300_262.out (by simp)); have n3_ := ak_ (hb); have n4_ := ak_ (hi); clear BK263; clear BK265; clear BK300; clear HB; clear HI262; have BK263 := n0_; have BK265 := n1_; have BK300 := n2_; have HB := n3_; have HI262 := n4_; clear n0_ n1_ n2_ n3_ n4_; (try clear hb hk hi)))
                            go_meet
                            case rel => exact ⟨_, (t302), (t303), (t304), (t292), (t293), (t294), (t295), (t296), (t297), (t298), H', ⟨by have := HJ4.out; have := HK2.out; first | omega | exact Nat.le_refl _⟩, ⟨by (with_reducible repeat (first | apply zn_ | apply zd_ | apply za_)); exact BK263.out⟩, ⟨by (with_reducible repeat (first | apply zn_ | apply zd_ | apply za_)); exact BK265.out⟩, ⟨by repeat (first | (with_reducible first | exact HI262.out | apply i81a_ | apply i81n_ | apply i81d_ | refine IsS81.far ?_ NB262_263.out _ | refine IsS81.far ?_ NB262_265.out _ | refine IsS81.far ?_ NB262_300.out _) | exact HI262.out)⟩, ⟨by repeat (first | (with_reducible first | exact HB.out | apply pa_ | apply pd_ | apply p1_ | refine zs_ ?_ (IsS81.ge HI262.out) | refine zs_ ?_ GE263.out | refine zs_ ?_ GE265.out | refine zs_ ?_ GE300.out) | exact HB.out)⟩⟩
                        · rw [if_neg c80] at H
                          have c80b0 : (((rd_T29 l1 x7_2).f0) == 2) = false := beq_eq_false_iff_ne.mpr c80
                          have c80b1 : (((rd_T29 l1 x7_2).f0) != 2) = true := bne_iff_ne.mpr c80
                          by_cases c106 : ((rd_T29 l1 x7_2).f0) = 3
                          · rw [if_pos c106] at H
                            have c106b0 : (((rd_T29 l1 x7_2).f0) == 3) = true := beq_iff_eq.mpr c106
                            have c106b1 : (((rd_T29 l1 x7_2).f0) != 3) = false := bne_eq_false_iff_eq.mpr c106
                            clear c106
                            replace H := Option.bind_eq_some_iff.mp H
                            obtain ⟨⟨t305, t306, t307, t308, t309, t310, t311, t312⟩, A1070, H⟩ := H
                            replace H : ((field_Reader_Count.f t258 x263001_2 x263002_2 x263003_2 ((rd_T29 l1 x7_2).f1) ((rd_T29 l1 x7_2).f2)).bind fun bt314 => (if bt314.1 = t312 then (usufructlaw04_FieldTakes.j2 k2 l1 x7_2 t258 bt314.2.1 bt314.2.2.1 bt314.2.2.2 t305 t306 t307 t308 t309 t310 t311) else (some false))) = some r := H
                            have A107 := ak_ A1070
                            clear A1070
                            replace H := Option.bind_eq_some_iff.mp H
                            obtain ⟨⟨t314, t315, t316, t317⟩, A1080, H⟩ := H
                            replace H : (if t314 = t312 then (usufructlaw04_FieldTakes.j2 k2 l1 x7_2 t258 t315 t316 t317 t305 t306 t307 t308 t309 t310 t311) else (some false)) = some r := H
                            have A108 := ak_ A1080
                            clear A1080
                            by_cases c109 : t314 = t312
                            · rw [if_pos c109] at H
                              have c109b0 : (t314 == t312) = true := beq_iff_eq.mpr c109
                              have c109b1 : (t314 != t312) = false := bne_eq_false_iff_eq.mpr c109
                              clear c109
                              have H' := ak_ H
                              clear H
                              have hnb110 := NB263_265.out
                              have hnc110 := NB265_263.out
                              have hnb111 := NB263_262.out
                              have hnc111 := NB262_263.out
                              have hcz112_0 : w18.cell? ⟨gb263, 0, none⟩ = some (.string x264000_2) := (zc_ BK263.out 0).trans rfl
                              have hcz112_1 : w18.cell? ⟨gb263, 1, none⟩ = some (.int .i64 x264001_2) := (zc_ BK263.out 1).trans rfl
                              have hcz112_2 : w18.cell? ⟨gb263, 2, none⟩ = some (.int .i64 x264002_2) := (zc_ BK263.out 2).trans rfl
                              have hcz112_3 : w18.cell? ⟨gb263, 3, none⟩ = some (.int .i64 x264003_2) := (zc_ BK263.out 3).trans rfl
                              have hcz112_4 : w18.cell? ⟨gb263, 4, none⟩ = some (.int .i64 x264004_2) := (zc_ BK263.out 4).trans rfl
                              have hcz112_5 : w18.cell? ⟨gb263, 5, none⟩ = some (.string x264005_2) := (zc_ BK263.out 5).trans rfl
                              have hcz112_6 : w18.cell? ⟨gb263, 6, none⟩ = some (.bool x264006_2) := (zc_ BK263.out 6).trans rfl
                              have hfz112_0 := zf_ BK263.out 0
                              have hfz112_1 := zf_ BK263.out 1
                              have hfz112_2 := zf_ BK263.out 2
                              have hfz112_3 := zf_ BK263.out 3
                              have hfz112_4 := zf_ BK263.out 4
                              have hfz112_5 := zf_ BK263.out 5
                              have hfz112_6 := zf_ BK263.out 6
                              have hnb113 := NB265_262.out
                              have hnc113 := NB262_265.out
                              have hcz114_0 : w18.cell? ⟨gb265, 0, none⟩ = some (.int .i64 0) := (zc_ BK265.out 0).trans rfl
                              have hcz114_1 : w18.cell? ⟨gb265, 1, none⟩ = some (.int .i64 0) := (zc_ BK265.out 1).trans rfl
                              have hcz114_2 : w18.cell? ⟨gb265, 2, none⟩ = some (.int .i64 0) := (zc_ BK265.out 2).trans rfl
                              have hcz114_3 : w18.cell? ⟨gb265, 3, none⟩ = some (.string ⟨#[]⟩) := (zc_ BK265.out 3).trans rfl
                              have hcz114_4 : w18.cell? ⟨gb265, 4, none⟩ = some (.bool false) := (zc_ BK265.out 4).trans rfl
                              have hfz114_0 := zf_ BK265.out 0
                              have hfz114_1 := zf_ BK265.out 1
                              have hfz114_2 := zf_ BK265.out 2
                              have hfz114_3 := zf_ BK265.out 3
                              have hfz114_4 := zf_ BK265.out 4
                              go_wp2_with (first | ((with_reducible refine gate_callee (f := 24) rfl ?_); refine goesL_ (some 94) rfl rfl Try.func24 (by kernel_rfl) rfl #[.agg #[.string x264000_2, .int .i64 x264001_2, .int .i64 x264002_2, .int .i64 x264003_2, .int .i64 x264004_2, .string x264005_2, .bool x264006_2], .int .i64 ((rd_T29 l1 x7_2).f1), .int .i64 ((rd_T29 l1 x7_2).f2)] rfl (by (try simp only [List.map_toArray, List.map_cons, List.map_nil]); first | done | rfl | (simp only [List.length_drop, List.length_take]; rfl)) ?_; (with_reducible refine (usufructref04_Count.calls k2 x264000_2 x264001_2 x264002_2 x264003_2 x264004_2 x264005_2 x264006_2 ((rd_T29 l1 x7_2).f1) ((rd_T29 l1 x7_2).f2) t305 t306 t307 t308 t309 t310 t311 t312 _ A107.out).mono ?_); rintro e w115 ⟨rfl, hb⟩; refine ⟨_, rfl, ?_⟩; have n0_ := ak_ (blk_below (g := gb263) (o := .cells #[.string x264000_2, .int .i64 x264001_2, .int .i64 x264002_2, .int .i64 x264003_2, .int .i64 x264004_2, .string x264005_2, .bool x264006_2] 40 (0, 0)) (by (with_reducible repeat (first | apply zn_ | apply zd_ | apply za_)); refine zr_ ?_ NB263_265.out _; (with_reducible repeat (first | apply zn_ | apply zd_ | apply za_)); refine zr_ ?_ NB263_265.out _; (with_reducible repeat (first | apply zn_ | apply zd_ | apply za_)); refine zr_ ?_ NB263_265.out _; (with_reducible repeat (first | apply zn_ | apply zd_ | apply za_)); refine zr_ ?_ NB263_265.out _; (with_reducible repeat (first | apply zn_ | apply zd_ | apply za_)); refine zr_ ?_ NB263_265.out _; (with_reducible repeat (first | apply zn_ | apply zd_ | apply za_)); exact BK263.out) hb); have n1_ := ak_ (IsS81.below (show IsS81 w (((((w18.setCell ⟨gb265, 0, none⟩ (.int .i64 ((rd_T29 l1 x7_2).f0))).setCell ⟨gb265, 1, none⟩ (.int .i64 ((rd_T29 l1 x7_2).f1))).setCell ⟨gb265, 2, none⟩ (.int .i64 ((rd_T29 l1 x7_2).f2))).setCell ⟨gb265, 3, none⟩ (.string ((rd_T29 l1 x7_2).f3))).setCell ⟨gb265, 4, none⟩ (.bool ((rd_T29 l1 x7_2).f4))) g262 t258 x263001_2 x263002_2 x263003_2 from by repeat (first | (with_reducible first | exact HI262.out | apply i81a_ | apply i81n_ | apply i81d_ | refine IsS81.far ?_ NB262_263.out _ | refine IsS81.far ?_ NB262_265.out _) | exact HI262.out)) hb); have n2_ := ak_ (blk_below (g := gb265) (o := .cells #[.int .i64 ((rd_T29 l1 x7_2).f0), .int .i64 ((rd_T29 l1 x7_2).f1), .int .i64 ((rd_T29 l1 x7_2).f2), .string ((rd_T29 l1 x7_2).f3), .bool ((rd_T29 l1 x7_2).f4)] 29 (0, 0)) (by (with_reducible repeat (first | apply zn_ | apply zd_ | apply za_)); refine zp_ (cs := #[.int .i64 ((rd_T29 l1 x7_2).f0), .int .i64 ((rd_T29 l1 x7_2).f1), .int .i64 ((rd_T29 l1 x7_2).f2), .string ((rd_T29 l1 x7_2).f3), .bool false]) ?_ 4 _ rfl; (with_reducible repeat (first | apply zn_ | apply zd_ | apply za_)); refine zp_ (cs := #[.int .i64 ((rd_T29 l1 x7_2).f0), .int .i64 ((rd_T29 l1 x7_2).f1), .int .i64 ((rd_T29 l1 x7_2).f2), .string ⟨#[]⟩, .bool false]) ?_ 3 _ rfl; (with_reducible repeat (first | apply zn_ | apply zd_ | apply za_)); refine zp_ (cs := #[.int .i64 ((rd_T29 l1 x7_2).f0), .int .i64 ((rd_T29 l1 x7_2).f1), .int .i64 0, .string ⟨#[]⟩, .bool false]) ?_ 2 _ rfl; (with_reducible repeat (first | apply zn_ | apply zd_ | apply za_)); refine zp_ (cs := #[.int .i64 ((rd_T29 l1 x7_2).f0), .int .i64 0, .int .i64 0, .string ⟨#[]⟩, .bool false]) ?_ 1 _ rfl; (with_reducible repeat (first | apply zn_ | apply zd_ | apply za_)); refine zp_ (cs := #[.int .i64 0, .int .i64 0, .int .i64 0, .string ⟨#[]⟩, .bool false]) ?_ 0 _ rfl; (with_reducible repeat (first | apply zn_ | apply zd_ | apply za_)); exact BK265.out) hb); have n3_ := ak_ (ps_ (by repeat (first | (with_reducible first | exact HB.out | apply pa_ | apply pd_ | apply p1_ | refine zs_ ?_ (IsS81.ge HI262.out) | refine zs_ ?_ GE263.out | refine zs_ ?_ GE265.out) | exact HB.out)) hb); clear BK263; clear HI262; clear BK265; clear HB; have BK263 := n0_; have HI262 := n1_; have BK265 := n2_; have HB := n3_; clear n0_ n1_ n2_ n3_; (try clear hb hk hi)) | ((with_reducible refine gate_dst (N := 15) rfl ?_); (try (refine gate_guard (by rfl) ?_; dsimp only)); refine box_event ?hg (N := 15) ?hd (cs := #[.string ⟨#[]⟩, .int .i64 0, .int .i64 0, .int .i64 0, .int .i64 0, .string ⟨#[]⟩, .bool false]) (t := 40) ?hr ?_; (case hd => rfl); (case hg => rfl); (case hr => first | (go_simp; done) | (go_simp; rfl)); intro gb313 hg w116 hbox hb; have n0_ := ak_ (blk_below (g := gb263) (o := .cells #[.string x264000_2, .int .i64 x264001_2, .int .i64 x264002_2, .int .i64 x264003_2, .int .i64 x264004_2, .string x264005_2, .bool x264006_2] 40 (0, 0)) (by (with_reducible repeat (first | apply zn_ | apply zd_ | apply za_)); exact BK263.out) hb); have n1_ := ak_ (IsS81.below (by repeat (first | (with_reducible first | exact HI262.out | apply i81a_ | apply i81n_ | apply i81d_ | refine IsS81.far ?_ NB262_263.out _ | refine IsS81.far ?_ NB262_265.out _) | exact HI262.out)) hb); have n2_ := ak_ (blk_below (g := gb265) (o := .cells #[.int .i64 ((rd_T29 l1 x7_2).f0), .int .i64 ((rd_T29 l1 x7_2).f1), .int .i64 ((rd_T29 l1 x7_2).f2), .string ((rd_T29 l1 x7_2).f3), .bool ((rd_T29 l1 x7_2).f4)] 29 (0, 0)) (by (with_reducible repeat (first | apply zn_ | apply zd_ | apply za_)); exact BK265.out) hb); have n3_ := ak_ (ps_ (by repeat (first | (with_reducible first | exact HB.out | apply pa_ | apply pd_ | apply p1_ | refine zs_ ?_ (IsS81.ge HI262.out) | refine zs_ ?_ GE263.out | refine zs_ ?_ GE265.out) | exact HB.out)) hb); have n4_ := ak_ (hbox); have n5_ := ak_ ((by rw [hg]; exact (below_size (by repeat (first | (with_reducible first | exact HB.out | apply pa_ | apply pd_ | apply p1_ | refine zs_ ?_ (IsS81.ge HI262.out) | refine zs_ ?_ GE263.out | refine zs_ ?_ GE265.out) | exact HB.out))) : w.heap.size ≤ gb313)); have n6_ := ak_ ((by rw [hg]; exact (below_size (by repeat (first | (with_reducible first | exact HB.out | apply pa_ | apply pd_ | apply p1_ | refine zs_ ?_ (IsS81.ge HI262.out) | refine zs_ ?_ GE263.out | refine zs_ ?_ GE265.out) | exact HB.out))) : w.heap.size ≤ gb313)); have n7_ := ak_ ((by rw [hg]; exact Nat.ne_of_lt (blk_lt (g := gb263) (o := .cells #[.string x264000_2, .int .i64 x264001_2, .int .i64 x264002_2, .int .i64 x264003_2, .int .i64 x264004_2, .string x264005_2, .bool x264006_2] 40 (0, 0)) (by (with_reducible repeat (first | apply zn_ | apply zd_ | apply za_)); exact BK263.out)) : gb263 ≠ gb313)); have n8_ := ak_ ((by rw [hg]; exact Nat.ne_of_gt (blk_lt (g := gb263) (o := .cells #[.string x264000_2, .int .i64 x264001_2, .int .i64 x264002_2, .int .i64 x264003_2, .int .i64 x264004_2, .string x264005_2, .bool x264006_2] 40 (0, 0)) (by (with_reducible repeat (first | apply zn_ | apply zd_ | apply za_)); exact BK263.out)) : gb313 ≠ gb263)); have n9_ := ak_ ((by rw [hg]; exact Nat.ne_of_lt (blk_lt (g := gb265) (o := .cells #[.int .i64 ((rd_T29 l1 x7_2).f0), .int .i64 ((rd_T29 l1 x7_2).f1), .int .i64 ((rd_T29 l1 x7_2).f2), .string ((rd_T29 l1 x7_2).f3), .bool ((rd_T29 l1 x7_2).f4)] 29 (0, 0)) (by (with_reducible repeat (first | apply zn_ | apply zd_ | apply za_)); exact BK265.out)) : gb265 ≠ gb313)); have n10_ := ak_ ((by rw [hg]; exact Nat.ne_of_gt (blk_lt (g := gb265) (o := .cells #[.int .i64 ((rd_T29 l1 x7_2).f0), .int .i64 ((rd_T29 l1 x7_2).f1), .int .i64 ((rd_T29 l1 x7_2).f2), .string ((rd_T29 l1 x7_2).f3), .bool ((rd_T29 l1 x7_2).f4)] 29 (0, 0)) (by (with_reducible repeat (first | apply zn_ | apply zd_ | apply za_)); exact BK265.out)) : gb313 ≠ gb265)); have n11_ := ak_ ((by rw [hg]; exact Nat.ne_of_lt (IsS81.lt (show IsS81 w _ g262 t258 x263001_2 x263002_2 x263003_2 from by repeat (first | (with_reducible first | exact HI262.out | apply i81a_ | apply i81n_ | apply i81d_ | refine IsS81.far ?_ NB262_263.out _ | refine IsS81.far ?_ NB262_265.out _) | exact HI262.out))) : g262 ≠ gb313)); have n12_ := ak_ ((by rw [hg]; exact Nat.ne_of_gt (IsS81.lt (show IsS81 w _ g262 t258 x263001_2 x263002_2 x263003_2 from by repeat (first | (with_reducible first | exact HI262.out | apply i81a_ | apply i81n_ | apply i81d_ | refine IsS81.far ?_ NB262_263.out _ | refine IsS81.far ?_ NB262_265.out _) | exact HI262.out))) : gb313 ≠ g262)); clear BK263; clear HI262; clear BK265; clear HB; have BK263 := n0_; have HI262 := n1_; have BK265 := n2_; have HB := n3_; have BK313 := n4_; have GW313 := n5_; have GE313 := n6_; have NB263_313 := n7_; have NB313_263 := n8_; have NB265_313 := n9_; have NB313_265 := n10_; have NB262_313 := n11_; have NB313_262 := n12_; clear n0_ n1_ n2_ n3_ n4_ n5_ n6_ n7_ n8_ n9_ n10_ n11_ n12_; clear hb hbox hg; have hnb117 := NB313_263.out; have hnc117 := NB263_313.out; have hnb118 := NB313_265.out; have hnc118 := NB265_313.out; have hnb119 := NB313_262.out; have hnc119 := NB262_313.out; have hcz120_0 : w116.cell? ⟨gb313, 0, none⟩ = some (.string ⟨#[]⟩) := (zc_ BK313.out 0).trans rfl; have hcz120_1 : w116.cell? ⟨gb313, 1, none⟩ = some (.int .i64 0) := (zc_ BK313.out 1).trans rfl; have hcz120_2 : w116.cell? ⟨gb313, 2, none⟩ = some (.int .i64 0) := (zc_ BK313.out 2).trans rfl; have hcz120_3 : w116.cell? ⟨gb313, 3, none⟩ = some (.int .i64 0) := (zc_ BK313.out 3).trans rfl; have hcz120_4 : w116.cell? ⟨gb313, 4, none⟩ = some (.int .i64 0) := (zc_ BK313.out 4).trans rfl; have hcz120_5 : w116.cell? ⟨gb313, 5, none⟩ = some (.string ⟨#[]⟩) := (zc_ BK313.out 5).trans rfl; have hcz120_6 : w116.cell? ⟨gb313, 6, none⟩ = some (.bool false) := (zc_ BK313.out 6).trans rfl; have hfz120_0 := zf_ BK313.out 0; have hfz120_1 := zf_ BK313.out 1; have hfz120_2 := zf_ BK313.out 2; have hfz120_3 := zf_ BK313.out 3; have hfz120_4 := zf_ BK313.out 4; have hfz120_5 := zf_ BK313.out 5; have hfz120_6 := zf_ BK313.out 6; have hcz121_0 : w116.cell? ⟨gb263, 0, none⟩ = some (.string x264000_2) := (zc_ BK263.out 0).trans rfl; have hcz121_1 : w116.cell? ⟨gb263, 1, none⟩ = some (.int .i64 x264001_2) := (zc_ BK263.out 1).trans rfl; have hcz121_2 : w116.cell? ⟨gb263, 2, none⟩ = some (.int .i64 x264002_2) := (zc_ BK263.out 2).trans rfl; have hcz121_3 : w116.cell? ⟨gb263, 3, none⟩ = some (.int .i64 x264003_2) := (zc_ BK263.out 3).trans rfl; have hcz121_4 : w116.cell? ⟨gb263, 4, none⟩ = some (.int .i64 x264004_2) := (zc_ BK263.out 4).trans rfl; have hcz121_5 : w116.cell? ⟨gb263, 5, none⟩ = some (.string x264005_2) := (zc_ BK263.out 5).trans rfl; have hcz121_6 : w116.cell? ⟨gb263, 6, none⟩ = some (.bool x264006_2) := (zc_ BK263.out 6).trans rfl; have hfz121_0 := zf_ BK263.out 0; have hfz121_1 := zf_ BK263.out 1; have hfz121_2 := zf_ BK263.out 2; have hfz121_3 := zf_ BK263.out 3; have hfz121_4 := zf_ BK263.out 4; have hfz121_5 := zf_ BK263.out 5; have hfz121_6 := zf_ BK263.out 6; have hcz122_0 : w116.cell? ⟨gb265, 0, none⟩ = some (.int .i64 ((rd_T29 l1 x7_2).f0)) := (zc_ BK265.out 0).trans rfl; have hcz122_1 : w116.cell? ⟨gb265, 1, none⟩ = some (.int .i64 ((rd_T29 l1 x7_2).f1)) := (zc_ BK265.out 1).trans rfl; have hcz122_2 : w116.cell? ⟨gb265, 2, none⟩ = some (.int .i64 ((rd_T29 l1 x7_2).f2)) := (zc_ BK265.out 2).trans rfl; have hcz122_3 : w116.cell? ⟨gb265, 3, none⟩ = some (.string ((rd_T29 l1 x7_2).f3)) := (zc_ BK265.out 3).trans rfl; have hcz122_4 : w116.cell? ⟨gb265, 4, none⟩ = some (.bool ((rd_T29 l1 x7_2).f4)) := (zc_ BK265.out 4).trans rfl; have hfz122_0 := zf_ BK265.out 0; have hfz122_1 := zf_ BK265.out 1; have hfz122_2 := zf_ BK265.out 2; have hfz122_3 := zf_ BK265.out 3; have hfz122_4 := zf_ BK265.out 4) | ((with_reducible refine gate_callee (f := 25) rfl ?_); refine goesL_ (some 103) rfl rfl Try.func25 (by kernel_rfl) rfl #[.pointer (some ⟨g262, 0, none⟩), .int .i64 ((rd_T29 l1 x7_2).f1), .int .i64 ((rd_T29 l1 x7_2).f2)] rfl (by simp only [mt_, mc_, mn_] <;> rfl) ?_; (with_reducible refine (field_Reader_Count.calls g262 t258 x263001_2 x263002_2 x263003_2 ((rd_T29 l1 x7_2).f1) ((rd_T29 l1 x7_2).f2) t314 t315 t316 t317 w _ ?side1 ?side2 A108.out).mono ?_); (case side1 => repeat (first | (with_reducible first | exact HI262.out | apply i81a_ | apply i81n_ | apply i81d_ | refine IsS81.far ?_ NB262_263.out _ | refine IsS81.far ?_ NB262_265.out _ | refine IsS81.far ?_ NB262_313.out _) | exact HI262.out)); (case side2 => repeat (first | (with_reducible first | exact HB.out | apply pa_ | apply pd_ | apply p1_ | refine zs_ ?_ (IsS81.ge HI262.out) | refine zs_ ?_ GE263.out | refine zs_ ?_ GE265.out | refine zs_ ?_ GE313.out) | exact HB.out)); rintro e w123 ⟨rfl, hi, hb, hk⟩; refine ⟨_, rfl, ?_⟩; have n0_ := ak_ (KeepBut.blk hk (g' := gb263) (o := .cells #[.string t305, .int .i64 t306, .int .i64 t307, .int .i64 t308, .int .i64 t309, .string t310, .bool t311] 40 (0, 0)) (by (with_reducible repeat (first | apply zn_ | apply zd_ | apply za_)); refine zp_ (cs := #[.string t305, .int .i64 t306, .int .i64 t307, .int .i64 t308, .int .i64 t309, .string t310, .bool x264006_2]) ?_ 6 _ rfl; (with_reducible repeat (first | apply zn_ | apply zd_ | apply za_)); refine zp_ (cs := #[.string t305, .int .i64 t306, .int .i64 t307, .int .i64 t308, .int .i64 t309, .string x264005_2, .bool x264006_2]) ?_ 5 _ rfl; (with_reducible repeat (first | apply zn_ | apply zd_ | apply za_)); refine zp_ (cs := #[.string t305, .int .i64 t306, .int .i64 t307, .int .i64 t308, .int .i64 x264004_2, .string x264005_2, .bool x264006_2]) ?_ 4 _ rfl; (with_reducible repeat (first | apply zn_ | apply zd_ | apply za_)); refine zp_ (cs := #[.string t305, .int .i64 t306, .int .i64 t307, .int .i64 x264003_2, .int .i64 x264004_2, .string x264005_2, .bool x264006_2]) ?_ 3 _ rfl; (with_reducible repeat (first | apply zn_ | apply zd_ | apply za_)); refine zp_ (cs := #[.string t305, .int .i64 t306, .int .i64 x264002_2, .int .i64 x264003_2, .int .i64 x264004_2, .string x264005_2, .bool x264006_2]) ?_ 2 _ rfl; (with_reducible repeat (first | apply zn_ | apply zd_ | apply za_)); refine zp_ (cs := #[.string t305, .int .i64 x264001_2, .int .i64 x264002_2, .int .i64 x264003_2, .int .i64 x264004_2, .string x264005_2, .bool x264006_2]) ?_ 1 _ rfl; (with_reducible repeat (first | apply zn_ | apply zd_ | apply za_)); refine zp_ (cs := #[.string x264000_2, .int .i64 x264001_2, .int .i64 x264002_2, .int .i64 x264003_2, .int .i64 x264004_2, .string x264005_2, .bool x264006_2]) ?_ 0 _ rfl; (with_reducible repeat (first | apply zn_ | apply zd_ | apply za_)); refine zr_ ?_ NB263_313.out _; (with_reducible repeat (first | apply zn_ | apply zd_ | apply za_)); refine zr_ ?_ NB263_313.out _; (with_reducible repeat (first | apply zn_ | apply zd_ | apply za_)); refine zr_ ?_ NB263_313.out _; (with_reducible repeat (first | apply zn_ | apply zd_ | apply za_)); refine zr_ ?_ NB263_313.out _; (with_reducible repeat (first | apply zn_ | apply zd_ | apply za_)); refine zr_ ?_ NB263_313.out _; (with_reducible repeat (first | apply zn_ | apply zd_ | apply za_)); refine zr_ ?_ NB263_313.out _; (with_reducible repeat (first | apply zn_ | apply zd_ | apply za_)); refine zr_ ?_ NB263_313.out _; (with_reducible repeat (first | apply zn_ | apply zd_ | apply za_)); exact BK263.out) NB263_262.out (by simp)); have n1_ := ak_ (KeepBut.blk hk (g' := gb265) (o := .cells #[.int .i64 ((rd_T29 l1 x7_2).f0), .int .i64 ((rd_T29 l1 x7_2).f1), .int .i64 ((rd_T29 l1 x7_2).f2), .string ((rd_T29 l1 x7_2).f3), .bool ((rd_T29 l1 x7_2).f4)] 29 (0, 0)) (by (with_reducible repeat (first | apply zn_ | apply zd_ | apply za_)); refine zr_ ?_ NB265_263.out _; (with_reducible repeat (first | apply zn_ | apply zd_ | apply za_)); refine zr_ ?_ NB265_263.out _; (with_reducible repeat (first | apply zn_ | apply zd_ | apply za_)); refine zr_ ?_ NB265_263.out _; (with_reducible repeat (first | apply zn_ | apply zd_ | apply za_)); refine zr_ ?_ NB265_263.out _; (with_reducible repeat (first | apply zn_ | apply zd_ | apply za_)); refine zr_ ?_ NB265_263.out _; (with_reducible repeat (first | apply zn_ | apply zd_ | apply za_)); refine zr_ ?_ NB265_263.out _; (with_reducible repeat (first | apply zn_ | apply zd_ | apply za_)); refine zr_ ?_ NB265_263.out _; (with_reducible repeat (first | apply zn_ | apply zd_ | apply za_)); refine zr_ ?_ NB265_313.out _; (with_reducible repeat (first | apply zn_ | apply zd_ | apply za_)); refine zr_ ?_ NB265_313.out _; (with_reducible repeat (first | apply zn_ | apply zd_ | apply za_)); refine zr_ ?_ NB265_313.out _; (with_reducible repeat (first | apply zn_ | apply zd_ | apply za_)); refine zr_ ?_ NB265_313.out _; (with_reducible repeat (first | apply zn_ | apply zd_ | apply za_)); refine zr_ ?_ NB265_313.out _; (with_reducible repeat (first | apply zn_ | apply zd_ | apply za_)); refine zr_ ?_ NB265_313.out _; (with_reducible repeat (first | apply zn_ | apply zd_ | apply za_)); refine zr_ ?_ NB265_313.out _; (with_reducible repeat (first | apply zn_ | apply zd_ | apply za_)); exact BK265.out) NB265_262.out (by simp)); have n2_ := ak_ (KeepBut.blk hk (g' := gb313) (o := .cells #[.string t305, .int .i64 t306, .int .i64 t307, .int .i64 t308, .int .i64 t309, .string t310, .bool t311] 40 (0, 0)) (by (with_reducible repeat (first | apply zn_ | apply zd_ | apply za_)); refine zr_ ?_ NB313_263.out _; (with_reducible repeat (first | apply zn_ | apply zd_ | apply za_)); refine zr_ ?_ NB313_263.out _; (with_reducible repeat (first | apply zn_ | apply zd_ | apply za_)); refine zr_ ?_ NB313_263.out _; (with_reducible repeat (first | apply zn_ | apply zd_ | apply za_)); refine zr_ ?_ NB313_263.out _; (with_reducible repeat (first | apply zn_ | apply zd_ | apply za_)); refine zr_ ?_ NB313_263.out _; (with_reducible repeat (first | apply zn_ | apply zd_ | apply za_)); refine zr_ ?_ NB313_263.out _; (with_reducible repeat (first | apply zn_ | apply zd_ | apply za_)); refine zr_ ?_ NB313_263.out _; (with_reducible repeat (first | apply zn_ | apply zd_ | apply za_)); refine zp_ (cs := #[.string t305, .int .i64 t306, .int .i64 t307, .int .i64 t308, .int .i64 t309, .string t310, .bool false]) ?_ 6 _ rfl; (with_reducible repeat (first | apply zn_ | apply zd_ | apply za_)); refine zp_ (cs := #[.string t305, .int .i64 t306, .int .i64 t307, .int .i64 t308, .int .i64 t309, .string ⟨#[]⟩, .bool false]) ?_ 5 _ rfl; (with_reducible repeat (first | apply zn_ | apply zd_ | apply za_)); refine zp_ (cs := #[.string t305, .int .i64 t306, .int .i64 t307, .int .i64 t308, .int .i64 0, .string ⟨#[]⟩, .bool false]) ?_ 4 _ rfl; (with_reducible repeat (first | apply zn_ | apply zd_ | apply za_)); refine zp_ (cs := #[.string t305, .int .i64 t306, .int .i64 t307, .int .i64 0, .int .i64 0, .string ⟨#[]⟩, .bool false]) ?_ 3 _ rfl; (with_reducible repeat (first | apply zn_ | apply zd_ | apply za_)); refine zp_ (cs := #[.string t305, .int .i64 t306, .int .i64 0, .int .i64 0, .int .i64 0, .string ⟨#[]⟩, .bool false]) ?_ 2 _ rfl; (with_reducible repeat (first | apply zn_ | apply zd_ | apply za_)); refine zp_ (cs := #[.string t305, .int .i64 0, .int .i64 0, .int .i64 0, .int .i64 0, .string ⟨#[]⟩, .bool false]) ?_ 1 _ rfl; (with_reducible repeat (first | apply zn_ | apply zd_ | apply za_)); refine zp_ (cs := #[.string ⟨#[]⟩, .int .i64 0, .int .i64 0, .int .i64 0, .int .i64 0, .string ⟨#[]⟩, .bool false]) ?_ 0 _ rfl; (with_reducible repeat (first | apply zn_ | apply zd_ | apply za_)); exact BK313.out) NB313_262.out (by simp)); have n3_ := ak_ (hb); have n4_ := ak_ (hi); clear BK263; clear BK265; clear BK313; clear HB; clear HI262; have BK263 := n0_; have BK265 := n1_; have BK313 := n2_; have HB := n3_; have HI262 := n4_; clear n0_ n1_ n2_ n3_ n4_; (try clear hb hk hi)))
                              go_meet
                              case rel => exact ⟨_, (t315), (t316), (t317), (t305), (t306), (t307), (t308), (t309), (t310), (t311), H', ⟨by have := HJ4.out; have := HK2.out; first | omega | exact Nat.le_refl _⟩, ⟨by (with_reducible repeat (first | apply zn_ | apply zd_ | apply za_)); exact BK263.out⟩, ⟨by (with_reducible repeat (first | apply zn_ | apply zd_ | apply za_)); exact BK265.out⟩, ⟨by repeat (first | (with_reducible first | exact HI262.out | apply i81a_ | apply i81n_ | apply i81d_ | refine IsS81.far ?_ NB262_263.out _ | refine IsS81.far ?_ NB262_265.out _ | refine IsS81.far ?_ NB262_313.out _) | exact HI262.out)⟩, ⟨by repeat (first | (with_reducible first | exact HB.out | apply pa_ | apply pd_ | apply p1_ | refine zs_ ?_ (IsS81.ge HI262.out) | refine zs_ ?_ GE263.out | refine zs_ ?_ GE265.out | refine zs_ ?_ GE313.out) | exact HB.out)⟩⟩
                            · rw [if_neg c109] at H
                              have c109b0 : (t314 == t312) = false := beq_eq_false_iff_ne.mpr c109
                              have c109b1 : (t314 != t312) = true := bne_iff_ne.mpr c109
                              obtain rfl := Option.some.inj H
                              have hnb124 := NB263_265.out
                              have hnc124 := NB265_263.out
                              have hnb125 := NB263_262.out
                              have hnc125 := NB262_263.out
                              have hcz126_0 : w18.cell? ⟨gb263, 0, none⟩ = some (.string x264000_2) := (zc_ BK263.out 0).trans rfl
                              have hcz126_1 : w18.cell? ⟨gb263, 1, none⟩ = some (.int .i64 x264001_2) := (zc_ BK263.out 1).trans rfl
                              have hcz126_2 : w18.cell? ⟨gb263, 2, none⟩ = some (.int .i64 x264002_2) := (zc_ BK263.out 2).trans rfl
                              have hcz126_3 : w18.cell? ⟨gb263, 3, none⟩ = some (.int .i64 x264003_2) := (zc_ BK263.out 3).trans rfl
                              have hcz126_4 : w18.cell? ⟨gb263, 4, none⟩ = some (.int .i64 x264004_2) := (zc_ BK263.out 4).trans rfl
                              have hcz126_5 : w18.cell? ⟨gb263, 5, none⟩ = some (.string x264005_2) := (zc_ BK263.out 5).trans rfl
                              have hcz126_6 : w18.cell? ⟨gb263, 6, none⟩ = some (.bool x264006_2) := (zc_ BK263.out 6).trans rfl
                              have hfz126_0 := zf_ BK263.out 0
                              have hfz126_1 := zf_ BK263.out 1
                              have hfz126_2 := zf_ BK263.out 2
                              have hfz126_3 := zf_ BK263.out 3
                              have hfz126_4 := zf_ BK263.out 4
                              have hfz126_5 := zf_ BK263.out 5
                              have hfz126_6 := zf_ BK263.out 6
                              have hnb127 := NB265_262.out
                              have hnc127 := NB262_265.out
                              have hcz128_0 : w18.cell? ⟨gb265, 0, none⟩ = some (.int .i64 0) := (zc_ BK265.out 0).trans rfl
                              have hcz128_1 : w18.cell? ⟨gb265, 1, none⟩ = some (.int .i64 0) := (zc_ BK265.out 1).trans rfl
                              have hcz128_2 : w18.cell? ⟨gb265, 2, none⟩ = some (.int .i64 0) := (zc_ BK265.out 2).trans rfl
                              have hcz128_3 : w18.cell? ⟨gb265, 3, none⟩ = some (.string ⟨#[]⟩) := (zc_ BK265.out 3).trans rfl
                              have hcz128_4 : w18.cell? ⟨gb265, 4, none⟩ = some (.bool false) := (zc_ BK265.out 4).trans rfl
                              have hfz128_0 := zf_ BK265.out 0
                              have hfz128_1 := zf_ BK265.out 1
                              have hfz128_2 := zf_ BK265.out 2
                              have hfz128_3 := zf_ BK265.out 3
                              have hfz128_4 := zf_ BK265.out 4
                              go_wp2_with (first | ((with_reducible refine gate_callee (f := 24) rfl ?_); refine goesL_ (some 94) rfl rfl Try.func24 (by kernel_rfl) rfl #[.agg #[.string x264000_2, .int .i64 x264001_2, .int .i64 x264002_2, .int .i64 x264003_2, .int .i64 x264004_2, .string x264005_2, .bool x264006_2], .int .i64 ((rd_T29 l1 x7_2).f1), .int .i64 ((rd_T29 l1 x7_2).f2)] rfl (by (try simp only [List.map_toArray, List.map_cons, List.map_nil]); first | done | rfl | (simp only [List.length_drop, List.length_take]; rfl)) ?_; (with_reducible refine (usufructref04_Count.calls k2 x264000_2 x264001_2 x264002_2 x264003_2 x264004_2 x264005_2 x264006_2 ((rd_T29 l1 x7_2).f1) ((rd_T29 l1 x7_2).f2) t305 t306 t307 t308 t309 t310 t311 t312 _ A107.out).mono ?_); rintro e w129 ⟨rfl, hb⟩; refine ⟨_, rfl, ?_⟩; have n0_ := ak_ (blk_below (g := gb263) (o := .cells #[.string x264000_2, .int .i64 x264001_2, .int .i64 x264002_2, .int .i64 x264003_2, .int .i64 x264004_2, .string x264005_2, .bool x264006_2] 40 (0, 0)) (by (with_reducible repeat (first | apply zn_ | apply zd_ | apply za_)); refine zr_ ?_ NB263_265.out _; (with_reducible repeat (first | apply zn_ | apply zd_ | apply za_)); refine zr_ ?_ NB263_265.out _; (with_reducible repeat (first | apply zn_ | apply zd_ | apply za_)); refine zr_ ?_ NB263_265.out _; (with_reducible repeat (first | apply zn_ | apply zd_ | apply za_)); refine zr_ ?_ NB263_265.out _; (with_reducible repeat (first | apply zn_ | apply zd_ | apply za_)); refine zr_ ?_ NB263_265.out _; (with_reducible repeat (first | apply zn_ | apply zd_ | apply za_)); exact BK263.out) hb); have n1_ := ak_ (IsS81.below (show IsS81 w (((((w18.setCell ⟨gb265, 0, none⟩ (.int .i64 ((rd_T29 l1 x7_2).f0))).setCell ⟨gb265, 1, none⟩ (.int .i64 ((rd_T29 l1 x7_2).f1))).setCell ⟨gb265, 2, none⟩ (.int .i64 ((rd_T29 l1 x7_2).f2))).setCell ⟨gb265, 3, none⟩ (.string ((rd_T29 l1 x7_2).f3))).setCell ⟨gb265, 4, none⟩ (.bool ((rd_T29 l1 x7_2).f4))) g262 t258 x263001_2 x263002_2 x263003_2 from by repeat (first | (with_reducible first | exact HI262.out | apply i81a_ | apply i81n_ | apply i81d_ | refine IsS81.far ?_ NB262_263.out _ | refine IsS81.far ?_ NB262_265.out _) | exact HI262.out)) hb); have n2_ := ak_ (blk_below (g := gb265) (o := .cells #[.int .i64 ((rd_T29 l1 x7_2).f0), .int .i64 ((rd_T29 l1 x7_2).f1), .int .i64 ((rd_T29 l1 x7_2).f2), .string ((rd_T29 l1 x7_2).f3), .bool ((rd_T29 l1 x7_2).f4)] 29 (0, 0)) (by (with_reducible repeat (first | apply zn_ | apply zd_ | apply za_)); refine zp_ (cs := #[.int .i64 ((rd_T29 l1 x7_2).f0), .int .i64 ((rd_T29 l1 x7_2).f1), .int .i64 ((rd_T29 l1 x7_2).f2), .string ((rd_T29 l1 x7_2).f3), .bool false]) ?_ 4 _ rfl; (with_reducible repeat (first | apply zn_ | apply zd_ | apply za_)); refine zp_ (cs := #[.int .i64 ((rd_T29 l1 x7_2).f0), .int .i64 ((rd_T29 l1 x7_2).f1), .int .i64 ((rd_T29 l1 x7_2).f2), .string ⟨#[]⟩, .bool false]) ?_ 3 _ rfl; (with_reducible repeat (first | apply zn_ | apply zd_ | apply za_)); refine zp_ (cs := #[.int .i64 ((rd_T29 l1 x7_2).f0), .int .i64 ((rd_T29 l1 x7_2).f1), .int .i64 0, .string ⟨#[]⟩, .bool false]) ?_ 2 _ rfl; (with_reducible repeat (first | apply zn_ | apply zd_ | apply za_)); refine zp_ (cs := #[.int .i64 ((rd_T29 l1 x7_2).f0), .int .i64 0, .int .i64 0, .string ⟨#[]⟩, .bool false]) ?_ 1 _ rfl; (with_reducible repeat (first | apply zn_ | apply zd_ | apply za_)); refine zp_ (cs := #[.int .i64 0, .int .i64 0, .int .i64 0, .string ⟨#[]⟩, .bool false]) ?_ 0 _ rfl; (with_reducible repeat (first | apply zn_ | apply zd_ | apply za_)); exact BK265.out) hb); have n3_ := ak_ (ps_ (by repeat (first | (with_reducible first | exact HB.out | apply pa_ | apply pd_ | apply p1_ | refine zs_ ?_ (IsS81.ge HI262.out) | refine zs_ ?_ GE263.out | refine zs_ ?_ GE265.out) | exact HB.out)) hb); clear BK263; clear HI262; clear BK265; clear HB; have BK263 := n0_; have HI262 := n1_; have BK265 := n2_; have HB := n3_; clear n0_ n1_ n2_ n3_; (try clear hb hk hi)) | ((with_reducible refine gate_dst (N := 15) rfl ?_); (try (refine gate_guard (by rfl) ?_; dsimp only)); refine box_event ?hg (N := 15) ?hd (cs := #[.string ⟨#[]⟩, .int .i64 0, .int .i64 0, .int .i64 0, .int .i64 0, .string ⟨#[]⟩, .bool false]) (t := 40) ?hr ?_; (case hd => rfl); (case hg => rfl); (case hr => first | (go_simp; done) | (go_simp; rfl)); intro gb313 hg w130 hbox hb; have n0_ := ak_ (blk_below (g := gb263) (o := .cells #[.string x264000_2, .int .i64 x264001_2, .int .i64 x264002_2, .int .i64 x264003_2, .int .i64 x264004_2, .string x264005_2, .bool x264006_2] 40 (0, 0)) (by (with_reducible repeat (first | apply zn_ | apply zd_ | apply za_)); exact BK263.out) hb); have n1_ := ak_ (IsS81.below (by repeat (first | (with_reducible first | exact HI262.out | apply i81a_ | apply i81n_ | apply i81d_ | refine IsS81.far ?_ NB262_263.out _ | refine IsS81.far ?_ NB262_265.out _) | exact HI262.out)) hb); have n2_ := ak_ (blk_below (g := gb265) (o := .cells #[.int .i64 ((rd_T29 l1 x7_2).f0), .int .i64 ((rd_T29 l1 x7_2).f1), .int .i64 ((rd_T29 l1 x7_2).f2), .string ((rd_T29 l1 x7_2).f3), .bool ((rd_T29 l1 x7_2).f4)] 29 (0, 0)) (by (with_reducible repeat (first | apply zn_ | apply zd_ | apply za_)); exact BK265.out) hb); have n3_ := ak_ (ps_ (by repeat (first | (with_reducible first | exact HB.out | apply pa_ | apply pd_ | apply p1_ | refine zs_ ?_ (IsS81.ge HI262.out) | refine zs_ ?_ GE263.out | refine zs_ ?_ GE265.out) | exact HB.out)) hb); have n4_ := ak_ (hbox); have n5_ := ak_ ((by rw [hg]; exact (below_size (by repeat (first | (with_reducible first | exact HB.out | apply pa_ | apply pd_ | apply p1_ | refine zs_ ?_ (IsS81.ge HI262.out) | refine zs_ ?_ GE263.out | refine zs_ ?_ GE265.out) | exact HB.out))) : w.heap.size ≤ gb313)); have n6_ := ak_ ((by rw [hg]; exact (below_size (by repeat (first | (with_reducible first | exact HB.out | apply pa_ | apply pd_ | apply p1_ | refine zs_ ?_ (IsS81.ge HI262.out) | refine zs_ ?_ GE263.out | refine zs_ ?_ GE265.out) | exact HB.out))) : w.heap.size ≤ gb313)); have n7_ := ak_ ((by rw [hg]; exact Nat.ne_of_lt (blk_lt (g := gb263) (o := .cells #[.string x264000_2, .int .i64 x264001_2, .int .i64 x264002_2, .int .i64 x264003_2, .int .i64 x264004_2, .string x264005_2, .bool x264006_2] 40 (0, 0)) (by (with_reducible repeat (first | apply zn_ | apply zd_ | apply za_)); exact BK263.out)) : gb263 ≠ gb313)); have n8_ := ak_ ((by rw [hg]; exact Nat.ne_of_gt (blk_lt (g := gb263) (o := .cells #[.string x264000_2, .int .i64 x264001_2, .int .i64 x264002_2, .int .i64 x264003_2, .int .i64 x264004_2, .string x264005_2, .bool x264006_2] 40 (0, 0)) (by (with_reducible repeat (first | apply zn_ | apply zd_ | apply za_)); exact BK263.out)) : gb313 ≠ gb263)); have n9_ := ak_ ((by rw [hg]; exact Nat.ne_of_lt (blk_lt (g := gb265) (o := .cells #[.int .i64 ((rd_T29 l1 x7_2).f0), .int .i64 ((rd_T29 l1 x7_2).f1), .int .i64 ((rd_T29 l1 x7_2).f2), .string ((rd_T29 l1 x7_2).f3), .bool ((rd_T29 l1 x7_2).f4)] 29 (0, 0)) (by (with_reducible repeat (first | apply zn_ | apply zd_ | apply za_)); exact BK265.out)) : gb265 ≠ gb313)); have n10_ := ak_ ((by rw [hg]; exact Nat.ne_of_gt (blk_lt (g := gb265) (o := .cells #[.int .i64 ((rd_T29 l1 x7_2).f0), .int .i64 ((rd_T29 l1 x7_2).f1), .int .i64 ((rd_T29 l1 x7_2).f2), .string ((rd_T29 l1 x7_2).f3), .bool ((rd_T29 l1 x7_2).f4)] 29 (0, 0)) (by (with_reducible repeat (first | apply zn_ | apply zd_ | apply za_)); exact BK265.out)) : gb313 ≠ gb265)); have n11_ := ak_ ((by rw [hg]; exact Nat.ne_of_lt (IsS81.lt (show IsS81 w _ g262 t258 x263001_2 x263002_2 x263003_2 from by repeat (first | (with_reducible first | exact HI262.out | apply i81a_ | apply i81n_ | apply i81d_ | refine IsS81.far ?_ NB262_263.out _ | refine IsS81.far ?_ NB262_265.out _) | exact HI262.out))) : g262 ≠ gb313)); have n12_ := ak_ ((by rw [hg]; exact Nat.ne_of_gt (IsS81.lt (show IsS81 w _ g262 t258 x263001_2 x263002_2 x263003_2 from by repeat (first | (with_reducible first | exact HI262.out | apply i81a_ | apply i81n_ | apply i81d_ | refine IsS81.far ?_ NB262_263.out _ | refine IsS81.far ?_ NB262_265.out _) | exact HI262.out))) : gb313 ≠ g262)); clear BK263; clear HI262; clear BK265; clear HB; have BK263 := n0_; have HI262 := n1_; have BK265 := n2_; have HB := n3_; have BK313 := n4_; have GW313 := n5_; have GE313 := n6_; have NB263_313 := n7_; have NB313_263 := n8_; have NB265_313 := n9_; have NB313_265 := n10_; have NB262_313 := n11_; have NB313_262 := n12_; clear n0_ n1_ n2_ n3_ n4_ n5_ n6_ n7_ n8_ n9_ n10_ n11_ n12_; clear hb hbox hg; have hnb131 := NB313_263.out; have hnc131 := NB263_313.out; have hnb132 := NB313_265.out; have hnc132 := NB265_313.out; have hnb133 := NB313_262.out; have hnc133 := NB262_313.out; have hcz134_0 : w130.cell? ⟨gb313, 0, none⟩ = some (.string ⟨#[]⟩) := (zc_ BK313.out 0).trans rfl; have hcz134_1 : w130.cell? ⟨gb313, 1, none⟩ = some (.int .i64 0) := (zc_ BK313.out 1).trans rfl; have hcz134_2 : w130.cell? ⟨gb313, 2, none⟩ = some (.int .i64 0) := (zc_ BK313.out 2).trans rfl; have hcz134_3 : w130.cell? ⟨gb313, 3, none⟩ = some (.int .i64 0) := (zc_ BK313.out 3).trans rfl; have hcz134_4 : w130.cell? ⟨gb313, 4, none⟩ = some (.int .i64 0) := (zc_ BK313.out 4).trans rfl; have hcz134_5 : w130.cell? ⟨gb313, 5, none⟩ = some (.string ⟨#[]⟩) := (zc_ BK313.out 5).trans rfl; have hcz134_6 : w130.cell? ⟨gb313, 6, none⟩ = some (.bool false) := (zc_ BK313.out 6).trans rfl; have hfz134_0 := zf_ BK313.out 0; have hfz134_1 := zf_ BK313.out 1; have hfz134_2 := zf_ BK313.out 2; have hfz134_3 := zf_ BK313.out 3; have hfz134_4 := zf_ BK313.out 4; have hfz134_5 := zf_ BK313.out 5; have hfz134_6 := zf_ BK313.out 6; have hcz135_0 : w130.cell? ⟨gb263, 0, none⟩ = some (.string x264000_2) := (zc_ BK263.out 0).trans rfl; have hcz135_1 : w130.cell? ⟨gb263, 1, none⟩ = some (.int .i64 x264001_2) := (zc_ BK263.out 1).trans rfl; have hcz135_2 : w130.cell? ⟨gb263, 2, none⟩ = some (.int .i64 x264002_2) := (zc_ BK263.out 2).trans rfl; have hcz135_3 : w130.cell? ⟨gb263, 3, none⟩ = some (.int .i64 x264003_2) := (zc_ BK263.out 3).trans rfl; have hcz135_4 : w130.cell? ⟨gb263, 4, none⟩ = some (.int .i64 x264004_2) := (zc_ BK263.out 4).trans rfl; have hcz135_5 : w130.cell? ⟨gb263, 5, none⟩ = some (.string x264005_2) := (zc_ BK263.out 5).trans rfl; have hcz135_6 : w130.cell? ⟨gb263, 6, none⟩ = some (.bool x264006_2) := (zc_ BK263.out 6).trans rfl; have hfz135_0 := zf_ BK263.out 0; have hfz135_1 := zf_ BK263.out 1; have hfz135_2 := zf_ BK263.out 2; have hfz135_3 := zf_ BK263.out 3; have hfz135_4 := zf_ BK263.out 4; have hfz135_5 := zf_ BK263.out 5; have hfz135_6 := zf_ BK263.out 6; have hcz136_0 : w130.cell? ⟨gb265, 0, none⟩ = some (.int .i64 ((rd_T29 l1 x7_2).f0)) := (zc_ BK265.out 0).trans rfl; have hcz136_1 : w130.cell? ⟨gb265, 1, none⟩ = some (.int .i64 ((rd_T29 l1 x7_2).f1)) := (zc_ BK265.out 1).trans rfl; have hcz136_2 : w130.cell? ⟨gb265, 2, none⟩ = some (.int .i64 ((rd_T29 l1 x7_2).f2)) := (zc_ BK265.out 2).trans rfl; have hcz136_3 : w130.cell? ⟨gb265, 3, none⟩ = some (.string ((rd_T29 l1 x7_2).f3)) := (zc_ BK265.out 3).trans rfl; have hcz136_4 : w130.cell? ⟨gb265, 4, none⟩ = some (.bool ((rd_T29 l1 x7_2).f4)) := (zc_ BK265.out 4).trans rfl; have hfz136_0 := zf_ BK265.out 0; have hfz136_1 := zf_ BK265.out 1; have hfz136_2 := zf_ BK265.out 2; have hfz136_3 := zf_ BK265.out 3; have hfz136_4 := zf_ BK265.out 4) | ((with_reducible refine gate_callee (f := 25) rfl ?_); refine goesL_ (some 103) rfl rfl Try.func25 (by kernel_rfl) rfl #[.pointer (some ⟨g262, 0, none⟩), .int .i64 ((rd_T29 l1 x7_2).f1), .int .i64 ((rd_T29 l1 x7_2).f2)] rfl (by simp only [mt_, mc_, mn_] <;> rfl) ?_; (with_reducible refine (field_Reader_Count.calls g262 t258 x263001_2 x263002_2 x263003_2 ((rd_T29 l1 x7_2).f1) ((rd_T29 l1 x7_2).f2) t314 t315 t316 t317 w _ ?side1 ?side2 A108.out).mono ?_); (case side1 => repeat (first | (with_reducible first | exact HI262.out | apply i81a_ | apply i81n_ | apply i81d_ | refine IsS81.far ?_ NB262_263.out _ | refine IsS81.far ?_ NB262_265.out _ | refine IsS81.far ?_ NB262_313.out _) | exact HI262.out)); (case side2 => repeat (first | (with_reducible first | exact HB.out | apply pa_ | apply pd_ | apply p1_ | refine zs_ ?_ (IsS81.ge HI262.out) | refine zs_ ?_ GE263.out | refine zs_ ?_ GE265.out | refine zs_ ?_ GE313.out) | exact HB.out)); rintro e w137 ⟨rfl, hi, hb, hk⟩; refine ⟨_, rfl, ?_⟩; have n0_ := ak_ (KeepBut.blk hk (g' := gb263) (o := .cells #[.string t305, .int .i64 t306, .int .i64 t307, .int .i64 t308, .int .i64 t309, .string t310, .bool t311] 40 (0, 0)) (by (with_reducible repeat (first | apply zn_ | apply zd_ | apply za_)); refine zp_ (cs := #[.string t305, .int .i64 t306, .int .i64 t307, .int .i64 t308, .int .i64 t309, .string t310, .bool x264006_2]) ?_ 6 _ rfl; (with_reducible repeat (first | apply zn_ | apply zd_ | apply za_)); refine zp_ (cs := #[.string t305, .int .i64 t306, .int .i64 t307, .int .i64 t308, .int .i64 t309, .string x264005_2, .bool x264006_2]) ?_ 5 _ rfl; (with_reducible repeat (first | apply zn_ | apply zd_ | apply za_)); refine zp_ (cs := #[.string t305, .int .i64 t306, .int .i64 t307, .int .i64 t308, .int .i64 x264004_2, .string x264005_2, .bool x264006_2]) ?_ 4 _ rfl; (with_reducible repeat (first | apply zn_ | apply zd_ | apply za_)); refine zp_ (cs := #[.string t305, .int .i64 t306, .int .i64 t307, .int .i64 x264003_2, .int .i64 x264004_2, .string x264005_2, .bool x264006_2]) ?_ 3 _ rfl; (with_reducible repeat (first | apply zn_ | apply zd_ | apply za_)); refine zp_ (cs := #[.string t305, .int .i64 t306, .int .i64 x264002_2, .int .i64 x264003_2, .int .i64 x264004_2, .string x264005_2, .bool x264006_2]) ?_ 2 _ rfl; (with_reducible repeat (first | apply zn_ | apply zd_ | apply za_)); refine zp_ (cs := #[.string t305, .int .i64 x264001_2, .int .i64 x264002_2, .int .i64 x264003_2, .int .i64 x264004_2, .string x264005_2, .bool x264006_2]) ?_ 1 _ rfl; (with_reducible repeat (first | apply zn_ | apply zd_ | apply za_)); refine zp_ (cs := #[.string x264000_2, .int .i64 x264001_2, .int .i64 x264002_2, .int .i64 x264003_2, .int .i64 x264004_2, .string x264005_2, .bool x264006_2]) ?_ 0 _ rfl; (with_reducible repeat (first | apply zn_ | apply zd_ | apply za_)); refine zr_ ?_ NB263_313.out _; (with_reducible repeat (first | apply zn_ | apply zd_ | apply za_)); refine zr_ ?_ NB263_313.out _; (with_reducible repeat (first | apply zn_ | apply zd_ | apply za_)); refine zr_ ?_ NB263_313.out _; (with_reducible repeat (first | apply zn_ | apply zd_ | apply za_)); refine zr_ ?_ NB263_313.out _; (with_reducible repeat (first | apply zn_ | apply zd_ | apply za_)); refine zr_ ?_ NB263_313.out _; (with_reducible repeat (first | apply zn_ | apply zd_ | apply za_)); refine zr_ ?_ NB263_313.out _; (with_reducible repeat (first | apply zn_ | apply zd_ | apply za_)); refine zr_ ?_ NB263_313.out _; (with_reducible repeat (first | apply zn_ | apply zd_ | apply za_)); exact BK263.out) NB263_262.out (by simp)); have n1_ := ak_ (KeepBut.blk hk (g' := gb265) (o := .cells #[.int .i64 ((rd_T29 l1 x7_2).f0), .int .i64 ((rd_T29 l1 x7_2).f1), .int .i64 ((rd_T29 l1 x7_2).f2), .string ((rd_T29 l1 x7_2).f3), .bool ((rd_T29 l1 x7_2).f4)] 29 (0, 0)) (by (with_reducible repeat (first | apply zn_ | apply zd_ | apply za_)); refine zr_ ?_ NB265_263.out _; (with_reducible repeat (first | apply zn_ | apply zd_ | apply za_)); refine zr_ ?_ NB265_263.out _; (with_reducible repeat (first | apply zn_ | apply zd_ | apply za_)); refine zr_ ?_ NB265_263.out _; (with_reducible repeat (first | apply zn_ | apply zd_ | apply za_)); refine zr_ ?_ NB265_263.out _; (with_reducible repeat (first | apply zn_ | apply zd_ | apply za_)); refine zr_ ?_ NB265_263.out _; (with_reducible repeat (first | apply zn_ | apply zd_ | apply za_)); refine zr_ ?_ NB265_263.out _; (with_reducible repeat (first | apply zn_ | apply zd_ | apply za_)); refine zr_ ?_ NB265_263.out _; (with_reducible repeat (first | apply zn_ | apply zd_ | apply za_)); refine zr_ ?_ NB265_313.out _; (with_reducible repeat (first | apply zn_ | apply zd_ | apply za_)); refine zr_ ?_ NB265_313.out _; (with_reducible repeat (first | apply zn_ | apply zd_ | apply za_)); refine zr_ ?_ NB265_313.out _; (with_reducible repeat (first | apply zn_ | apply zd_ | apply za_)); refine zr_ ?_ NB265_313.out _; (with_reducible repeat (first | apply zn_ | apply zd_ | apply za_)); refine zr_ ?_ NB265_313.out _; (with_reducible repeat (first | apply zn_ | apply zd_ | apply za_)); refine zr_ ?_ NB265_313.out _; (with_reducible repeat (first | apply zn_ | apply zd_ | apply za_)); refine zr_ ?_ NB265_313.out _; (with_reducible repeat (first | apply zn_ | apply zd_ | apply za_)); exact BK265.out) NB265_262.out (by simp)); have n2_ := ak_ (KeepBut.blk hk (g' := gb313) (o := .cells #[.string t305, .int .i64 t306, .int .i64 t307, .int .i64 t308, .int .i64 t309, .string t310, .bool t311] 40 (0, 0)) (by (with_reducible repeat (first | apply zn_ | apply zd_ | apply za_)); refine zr_ ?_ NB313_263.out _; (with_reducible repeat (first | apply zn_ | apply zd_ | apply za_)); refine zr_ ?_ NB313_263.out _; (with_reducible repeat (first | apply zn_ | apply zd_ | apply za_)); refine zr_ ?_ NB313_263.out _; (with_reducible repeat (first | apply zn_ | apply zd_ | apply za_)); refine zr_ ?_ NB313_263.out _; (with_reducible repeat (first | apply zn_ | apply zd_ | apply za_)); refine zr_ ?_ NB313_263.out _; (with_reducible repeat (first | apply zn_ | apply zd_ | apply za_)); refine zr_ ?_ NB313_263.out _; (with_reducible repeat (first | apply zn_ | apply zd_ | apply za_)); refine zr_ ?_ NB313_263.out _; (with_reducible repeat (first | apply zn_ | apply zd_ | apply za_)); refine zp_ (cs := #[.string t305, .int .i64 t306, .int .i64 t307, .int .i64 t308, .int .i64 t309, .string t310, .bool false]) ?_ 6 _ rfl; (with_reducible repeat (first | apply zn_ | apply zd_ | apply za_)); refine zp_ (cs := #[.string t305, .int .i64 t306, .int .i64 t307, .int .i64 t308, .int .i64 t309, .string ⟨#[]⟩, .bool false]) ?_ 5 _ rfl; (with_reducible repeat (first | apply zn_ | apply zd_ | apply za_)); refine zp_ (cs := #[.string t305, .int .i64 t306, .int .i64 t307, .int .i64 t308, .int .i64 0, .string ⟨#[]⟩, .bool false]) ?_ 4 _ rfl; (with_reducible repeat (first | apply zn_ | apply zd_ | apply za_)); refine zp_ (cs := #[.string t305, .int .i64 t306, .int .i64 t307, .int .i64 0, .int .i64 0, .string ⟨#[]⟩, .bool false]) ?_ 3 _ rfl; (with_reducible repeat (first | apply zn_ | apply zd_ | apply za_)); refine zp_ (cs := #[.string t305, .int .i64 t306, .int .i64 0, .int .i64 0, .int .i64 0, .string ⟨#[]⟩, .bool false]) ?_ 2 _ rfl; (with_reducible repeat (first | apply zn_ | apply zd_ | apply za_)); refine zp_ (cs := #[.string t305, .int .i64 0, .int .i64 0, .int .i64 0, .int .i64 0, .string ⟨#[]⟩, .bool false]) ?_ 1 _ rfl; (with_reducible repeat (first | apply zn_ | apply zd_ | apply za_)); refine zp_ (cs := #[.string ⟨#[]⟩, .int .i64 0, .int .i64 0, .int .i64 0, .int .i64 0, .string ⟨#[]⟩, .bool false]) ?_ 0 _ rfl; (with_reducible repeat (first | apply zn_ | apply zd_ | apply za_)); exact BK313.out) NB313_262.out (by simp)); have n3_ := ak_ (hb); have n4_ := ak_ (hi); clear BK263; clear BK265; clear BK313; clear HB; clear HI262; have BK263 := n0_; have BK265 := n1_; have BK313 := n2_; have HB := n3_; have HI262 := n4_; clear n0_ n1_ n2_ n3_ n4_; (try clear hb hk hi)))
                              go_ret
                              exact ⟨by first | rfl | (simp [errW_none, errW_some] <;> rfl) | (simp [*, errW_none, errW_some] <;> rfl), by first | (refine ps_ HBW0.out ?_; (repeat (first | (with_reducible first | exact HB.out | apply pa_ | apply pd_ | apply p1_ | refine zs_ ?_ (IsS81.ge HI262.out) | refine zs_ ?_ GE263.out | refine zs_ ?_ GE265.out | refine zs_ ?_ GE313.out) | exact HB.out)); done) | (repeat (first | (with_reducible first | exact HB.out | apply pa_ | apply pd_ | apply p1_ | refine zs_ ?_ (IsS81.ge HI262.out) | refine zs_ ?_ GE263.out | refine zs_ ?_ GE265.out | refine zs_ ?_ GE313.out) | exact HB.out))⟩
                          · rw [if_neg c106] at H
                            have c106b0 : (((rd_T29 l1 x7_2).f0) == 3) = false := beq_eq_false_iff_ne.mpr c106
                            have c106b1 : (((rd_T29 l1 x7_2).f0) != 3) = true := bne_iff_ne.mpr c106
                            by_cases c138 : ((rd_T29 l1 x7_2).f0) = 4
                            · rw [if_pos c138] at H
                              have c138b0 : (((rd_T29 l1 x7_2).f0) == 4) = true := beq_iff_eq.mpr c138
                              have c138b1 : (((rd_T29 l1 x7_2).f0) != 4) = false := bne_eq_false_iff_eq.mpr c138
                              clear c138
                              replace H := Option.bind_eq_some_iff.mp H
                              obtain ⟨⟨t318, t319, t320, t321, t322, t323, t324⟩, A1390, H⟩ := H
                              replace H : ((field_Reader_End.f k2 t258 x263001_2 x263002_2 x263003_2).bind fun bt325 => (if (bt325.1 != (t320 == 0)) = true then (some false) else (usufructlaw04_FieldTakes.j2 k2 l1 x7_2 t258 bt325.2.1 bt325.2.2.1 bt325.2.2.2 t318 t319 t320 t321 t322 t323 t324))) = some r := H
                              have A139 := ak_ A1390
                              clear A1390
                              replace H := Option.bind_eq_some_iff.mp H
                              obtain ⟨⟨t325, t326, t327, t328⟩, A1400, H⟩ := H
                              replace H : (if (t325 != (t320 == 0)) = true then (some false) else (usufructlaw04_FieldTakes.j2 k2 l1 x7_2 t258 t326 t327 t328 t318 t319 t320 t321 t322 t323 t324)) = some r := H
                              have A140 := ak_ A1400
                              clear A1400
                              by_cases c141 : (t325 != (t320 == 0)) = true
                              · rw [if_pos c141] at H
                                have c141b0 : (t325 != (t320 == 0)) = true := c141
                                (try (have c141b1 : decide (t325 = (t320 == 0)) = false := by simpa using c141))
                                (try (have c141b2 : (t325 == (t320 == 0)) = false := by simpa using c141))
                                (try (have c141b3 : ¬ (t325 = (t320 == 0)) := by simpa using c141))
                                clear c141
                                obtain rfl := Option.some.inj H
                                have hnb142 := NB263_265.out
                                have hnc142 := NB265_263.out
                                have hnb143 := NB263_262.out
                                have hnc143 := NB262_263.out
                                have hcz144_0 : w18.cell? ⟨gb263, 0, none⟩ = some (.string x264000_2) := (zc_ BK263.out 0).trans rfl
                                have hcz144_1 : w18.cell? ⟨gb263, 1, none⟩ = some (.int .i64 x264001_2) := (zc_ BK263.out 1).trans rfl
                                have hcz144_2 : w18.cell? ⟨gb263, 2, none⟩ = some (.int .i64 x264002_2) := (zc_ BK263.out 2).trans rfl
                                have hcz144_3 : w18.cell? ⟨gb263, 3, none⟩ = some (.int .i64 x264003_2) := (zc_ BK263.out 3).trans rfl
                                have hcz144_4 : w18.cell? ⟨gb263, 4, none⟩ = some (.int .i64 x264004_2) := (zc_ BK263.out 4).trans rfl
                                have hcz144_5 : w18.cell? ⟨gb263, 5, none⟩ = some (.string x264005_2) := (zc_ BK263.out 5).trans rfl
                                have hcz144_6 : w18.cell? ⟨gb263, 6, none⟩ = some (.bool x264006_2) := (zc_ BK263.out 6).trans rfl
                                have hfz144_0 := zf_ BK263.out 0
                                have hfz144_1 := zf_ BK263.out 1
                                have hfz144_2 := zf_ BK263.out 2
                                have hfz144_3 := zf_ BK263.out 3
                                have hfz144_4 := zf_ BK263.out 4
                                have hfz144_5 := zf_ BK263.out 5
                                have hfz144_6 := zf_ BK263.out 6
                                try go_wp2_with (first | ((with_reducible refine gate_callee (f := 26) rfl ?_); refine goesL_ (some 109) rfl rfl Try.func26 (by kernel_rfl) rfl #[.agg #[.string x264000_2, .int .i64 x264001_2, .int .i64 x264002_2, .int .i64 x264003_2, .int .i64 x264004_2, .string x264005_2, .bool x264006_2]] rfl (by (try simp only [List.map_toArray, List.map_cons, List.map_nil]); first | done | rfl | (simp only [List.length_drop, List.length_take]; rfl)) ?_; (with_reducible refine (usufructref04_End.calls x264000_2 x264001_2 x264002_2 x264003_2 x264004_2 x264005_2 x264006_2 t318 t319 t320 t321 t322 t323 t324 _ A139.out).mono ?_); rintro e w145 ⟨rfl, hb⟩; refine ⟨_, rfl, ?_⟩; have n0_ := ak_ (blk_below (g := gb263) (o := .cells #[.string x264000_2, .int .i64 x264001_2, .int .i64 x264002_2, .int .i64 x264003_2, .int .i64 x264004_2, .string x264005_2, .bool x264006_2] 40 (0, 0)) (by (with_reducible repeat (first | apply zn_ | apply zd_ | apply za_)); refine zr_ ?_ NB263_265.out _; (with_reducible repeat (first | apply zn_ | apply zd_ | apply za_)); refine zr_ ?_ NB263_265.out _; (with_reducible repeat (first | apply zn_ | apply zd_ | apply za_)); refine zr_ ?_ NB263_265.out _; (with_reducible repeat (first | apply zn_ | apply zd_ | apply za_)); refine zr_ ?_ NB263_265.out _; (with_reducible repeat (first | apply zn_ | apply zd_ | apply za_)); refine zr_ ?_ NB263_265.out _; (with_reducible repeat (first | apply zn_ | apply zd_ | apply za_)); exact BK263.out) hb); have n1_ := ak_ (IsS81.below (show IsS81 w (((((w18.setCell ⟨gb265, 0, none⟩ (.int .i64 ((rd_T29 l1 x7_2).f0))).setCell ⟨gb265, 1, none⟩ (.int .i64 ((rd_T29 l1 x7_2).f1))).setCell ⟨gb265, 2, none⟩ (.int .i64 ((rd_T29 l1 x7_2).f2))).setCell ⟨gb265, 3, none⟩ (.string ((rd_T29 l1 x7_2).f3))).setCell ⟨gb265, 4, none⟩ (.bool ((rd_T29 l1 x7_2).f4))) g262 t258 x263001_2 x263002_2 x263003_2 from by repeat (first | (with_reducible first | exact HI262.out | apply i81a_ | apply i81n_ | apply i81d_ | refine IsS81.far ?_ NB262_263.out _ | refine IsS81.far ?_ NB262_265.out _) | exact HI262.out)) hb); have n2_ := ak_ (blk_below (g := gb265) (o := .cells #[.int .i64 ((rd_T29 l1 x7_2).f0), .int .i64 ((rd_T29 l1 x7_2).f1), .int .i64 ((rd_T29 l1 x7_2).f2), .string ((rd_T29 l1 x7_2).f3), .bool ((rd_T29 l1 x7_2).f4)] 29 (0, 0)) (by (with_reducible repeat (first | apply zn_ | apply zd_ | apply za_)); refine zp_ (cs := #[.int .i64 ((rd_T29 l1 x7_2).f0), .int .i64 ((rd_T29 l1 x7_2).f1), .int .i64 ((rd_T29 l1 x7_2).f2), .string ((rd_T29 l1 x7_2).f3), .bool false]) ?_ 4 _ rfl; (with_reducible repeat (first | apply zn_ | apply zd_ | apply za_)); refine zp_ (cs := #[.int .i64 ((rd_T29 l1 x7_2).f0), .int .i64 ((rd_T29 l1 x7_2).f1), .int .i64 ((rd_T29 l1 x7_2).f2), .string ⟨#[]⟩, .bool false]) ?_ 3 _ rfl; (with_reducible repeat (first | apply zn_ | apply zd_ | apply za_)); refine zp_ (cs := #[.int .i64 ((rd_T29 l1 x7_2).f0), .int .i64 ((rd_T29 l1 x7_2).f1), .int .i64 0, .string ⟨#[]⟩, .bool false]) ?_ 2 _ rfl; (with_reducible repeat (first | apply zn_ | apply zd_ | apply za_)); refine zp_ (cs := #[.int .i64 ((rd_T29 l1 x7_2).f0), .int .i64 0, .int .i64 0, .string ⟨#[]⟩, .bool false]) ?_ 1 _ rfl; (with_reducible repeat (first | apply zn_ | apply zd_ | apply za_)); refine zp_ (cs := #[.int .i64 0, .int .i64 0, .int .i64 0, .string ⟨#[]⟩, .bool false]) ?_ 0 _ rfl; (with_reducible repeat (first | apply zn_ | apply zd_ | apply za_)); exact BK265.out) hb); have n3_ := ak_ (ps_ (by repeat (first | (with_reducible first | exact HB.out | apply pa_ | apply pd_ | apply p1_ | refine zs_ ?_ (IsS81.ge HI262.out) | refine zs_ ?_ GE263.out | refine zs_ ?_ GE265.out) | exact HB.out)) hb); clear BK263; clear HI262; clear BK265; clear HB; have BK263 := n0_; have HI262 := n1_; have BK265 := n2_; have HB := n3_; clear n0_ n1_ n2_ n3_; (try clear hb hk hi); have hcz146_0 : w145.cell? ⟨gb263, 0, none⟩ = some (.string x264000_2) := (zc_ BK263.out 0).trans rfl; have hcz146_1 : w145.cell? ⟨gb263, 1, none⟩ = some (.int .i64 x264001_2) := (zc_ BK263.out 1).trans rfl; have hcz146_2 : w145.cell? ⟨gb263, 2, none⟩ = some (.int .i64 x264002_2) := (zc_ BK263.out 2).trans rfl; have hcz146_3 : w145.cell? ⟨gb263, 3, none⟩ = some (.int .i64 x264003_2) := (zc_ BK263.out 3).trans rfl; have hcz146_4 : w145.cell? ⟨gb263, 4, none⟩ = some (.int .i64 x264004_2) := (zc_ BK263.out 4).trans rfl; have hcz146_5 : w145.cell? ⟨gb263, 5, none⟩ = some (.string x264005_2) := (zc_ BK263.out 5).trans rfl; have hcz146_6 : w145.cell? ⟨gb263, 6, none⟩ = some (.bool x264006_2) := (zc_ BK263.out 6).trans rfl; have hfz146_0 := zf_ BK263.out 0; have hfz146_1 := zf_ BK263.out 1; have hfz146_2 := zf_ BK263.out 2; have hfz146_3 := zf_ BK263.out 3; have hfz146_4 := zf_ BK263.out 4; have hfz146_5 := zf_ BK263.out 5; have hfz146_6 := zf_ BK263.out 6))
                                have n0_ : Aside0 ((((((((w145.setCell ⟨gb263, 0, none⟩ (.string t318)).setCell ⟨gb263, 1, none⟩ (.int .i64 t319)).setCell ⟨gb263, 2, none⟩ (.int .i64 t320)).setCell ⟨gb263, 3, none⟩ (.int .i64 t321)).setCell ⟨gb263, 4, none⟩ (.int .i64 t322)).setCell ⟨gb263, 5, none⟩ (.string t323)).setCell ⟨gb263, 6, none⟩ (.bool t324)).heap[gb263]? = some (.cells #[.string t318, .int .i64 t319, .int .i64 t320, .int .i64 t321, .int .i64 t322, .string t323, .bool t324] 40 (0, 0))) := ⟨by (with_reducible repeat (first | apply zn_ | apply zd_ | apply za_)); refine zp_ (cs := #[.string t318, .int .i64 t319, .int .i64 t320, .int .i64 t321, .int .i64 t322, .string t323, .bool x264006_2]) ?_ 6 _ rfl; (with_reducible repeat (first | apply zn_ | apply zd_ | apply za_)); refine zp_ (cs := #[.string t318, .int .i64 t319, .int .i64 t320, .int .i64 t321, .int .i64 t322, .string x264005_2, .bool x264006_2]) ?_ 5 _ rfl; (with_reducible repeat (first | apply zn_ | apply zd_ | apply za_)); refine zp_ (cs := #[.string t318, .int .i64 t319, .int .i64 t320, .int .i64 t321, .int .i64 x264004_2, .string x264005_2, .bool x264006_2]) ?_ 4 _ rfl; (with_reducible repeat (first | apply zn_ | apply zd_ | apply za_)); refine zp_ (cs := #[.string t318, .int .i64 t319, .int .i64 t320, .int .i64 x264003_2, .int .i64 x264004_2, .string x264005_2, .bool x264006_2]) ?_ 3 _ rfl; (with_reducible repeat (first | apply zn_ | apply zd_ | apply za_)); refine zp_ (cs := #[.string t318, .int .i64 t319, .int .i64 x264002_2, .int .i64 x264003_2, .int .i64 x264004_2, .string x264005_2, .bool x264006_2]) ?_ 2 _ rfl; (with_reducible repeat (first | apply zn_ | apply zd_ | apply za_)); refine zp_ (cs := #[.string t318, .int .i64 x264001_2, .int .i64 x264002_2, .int .i64 x264003_2, .int .i64 x264004_2, .string x264005_2, .bool x264006_2]) ?_ 1 _ rfl; (with_reducible repeat (first | apply zn_ | apply zd_ | apply za_)); refine zp_ (cs := #[.string x264000_2, .int .i64 x264001_2, .int .i64 x264002_2, .int .i64 x264003_2, .int .i64 x264004_2, .string x264005_2, .bool x264006_2]) ?_ 0 _ rfl; (with_reducible repeat (first | apply zn_ | apply zd_ | apply za_)); exact BK263.out⟩
                                have n1_ : Aside0 ((((((((w145.setCell ⟨gb263, 0, none⟩ (.string t318)).setCell ⟨gb263, 1, none⟩ (.int .i64 t319)).setCell ⟨gb263, 2, none⟩ (.int .i64 t320)).setCell ⟨gb263, 3, none⟩ (.int .i64 t321)).setCell ⟨gb263, 4, none⟩ (.int .i64 t322)).setCell ⟨gb263, 5, none⟩ (.string t323)).setCell ⟨gb263, 6, none⟩ (.bool t324)).heap[gb265]? = some (.cells #[.int .i64 ((rd_T29 l1 x7_2).f0), .int .i64 ((rd_T29 l1 x7_2).f1), .int .i64 ((rd_T29 l1 x7_2).f2), .string ((rd_T29 l1 x7_2).f3), .bool ((rd_T29 l1 x7_2).f4)] 29 (0, 0))) := ⟨by (with_reducible repeat (first | apply zn_ | apply zd_ | apply za_)); refine zr_ ?_ NB265_263.out _; (with_reducible repeat (first | apply zn_ | apply zd_ | apply za_)); refine zr_ ?_ NB265_263.out _; (with_reducible repeat (first | apply zn_ | apply zd_ | apply za_)); refine zr_ ?_ NB265_263.out _; (with_reducible repeat (first | apply zn_ | apply zd_ | apply za_)); refine zr_ ?_ NB265_263.out _; (with_reducible repeat (first | apply zn_ | apply zd_ | apply za_)); refine zr_ ?_ NB265_263.out _; (with_reducible repeat (first | apply zn_ | apply zd_ | apply za_)); refine zr_ ?_ NB265_263.out _; (with_reducible repeat (first | apply zn_ | apply zd_ | apply za_)); refine zr_ ?_ NB265_263.out _; (with_reducible repeat (first | apply zn_ | apply zd_ | apply za_)); exact BK265.out⟩
                                have n2_ : Aside0 (IsS81 w (((((((w145.setCell ⟨gb263, 0, none⟩ (.string t318)).setCell ⟨gb263, 1, none⟩ (.int .i64 t319)).setCell ⟨gb263, 2, none⟩ (.int .i64 t320)).setCell ⟨gb263, 3, none⟩ (.int .i64 t321)).setCell ⟨gb263, 4, none⟩ (.int .i64 t322)).setCell ⟨gb263, 5, none⟩ (.string t323)).setCell ⟨gb263, 6, none⟩ (.bool t324)) g262 t258 x263001_2 x263002_2 x263003_2) := ⟨by repeat (first | (with_reducible first | exact HI262.out | apply i81a_ | apply i81n_ | apply i81d_ | refine IsS81.far ?_ NB262_263.out _ | refine IsS81.far ?_ NB262_265.out _) | exact HI262.out)⟩
                                have n3_ : Aside0 (Below w.heap.size w (((((((w145.setCell ⟨gb263, 0, none⟩ (.string t318)).setCell ⟨gb263, 1, none⟩ (.int .i64 t319)).setCell ⟨gb263, 2, none⟩ (.int .i64 t320)).setCell ⟨gb263, 3, none⟩ (.int .i64 t321)).setCell ⟨gb263, 4, none⟩ (.int .i64 t322)).setCell ⟨gb263, 5, none⟩ (.string t323)).setCell ⟨gb263, 6, none⟩ (.bool t324))) := ⟨by repeat (first | (with_reducible first | exact HB.out | apply pa_ | apply pd_ | apply p1_ | refine zs_ ?_ (IsS81.ge HI262.out) | refine zs_ ?_ GE263.out | refine zs_ ?_ GE265.out) | exact HB.out)⟩
                                (try clear BK263); (try clear BK265); (try clear HI262); (try clear HB)
                                generalize (((((((w145.setCell ⟨gb263, 0, none⟩ (.string t318)).setCell ⟨gb263, 1, none⟩ (.int .i64 t319)).setCell ⟨gb263, 2, none⟩ (.int .i64 t320)).setCell ⟨gb263, 3, none⟩ (.int .i64 t321)).setCell ⟨gb263, 4, none⟩ (.int .i64 t322)).setCell ⟨gb263, 5, none⟩ (.string t323)).setCell ⟨gb263, 6, none⟩ (.bool t324)) = w147 at n0_ n1_ n2_ n3_ ⊢
                                have BK263 := n0_
                                have BK265 := n1_
                                have HI262 := n2_
                                have HB := n3_
                                clear n0_ n1_ n2_ n3_
                                have n0_ := ak_ (zd_ BK263.out)
                                have n1_ := ak_ (zd_ BK265.out)
                                have n2_ := ak_ (i81d_ HI262.out)
                                have n3_ := ak_ (p1_ HB.out)
                                clear BK263
                                clear BK265
                                clear HI262
                                clear HB
                                have BK263 := n0_
                                have BK265 := n1_
                                have HI262 := n2_
                                have HB := n3_
                                clear n0_ n1_ n2_ n3_
                                refine start_ (n := 6) (S := fun w' => w'.cell? ⟨gb263, 0, none⟩ = some (.string t318) ∧ w'.cell? ⟨gb263, 1, none⟩ = some (.int .i64 t319) ∧ w'.cell? ⟨gb263, 2, none⟩ = some (.int .i64 t320) ∧ w'.cell? ⟨gb263, 3, none⟩ = some (.int .i64 t321) ∧ w'.cell? ⟨gb263, 4, none⟩ = some (.int .i64 t322) ∧ w'.cell? ⟨gb263, 5, none⟩ = some (.string t323) ∧ w'.cell? ⟨gb263, 6, none⟩ = some (.bool t324)) (ds := []) #[false, false, false, false, false, false] (by kernel_rfl) rfl rfl ⟨(zc_ BK263.out 0).trans rfl, (zc_ BK263.out 1).trans rfl, (zc_ BK263.out 2).trans rfl, (zc_ BK263.out 3).trans rfl, (zc_ BK263.out 4).trans rfl, (zc_ BK263.out 5).trans rfl, (zc_ BK263.out 6).trans rfl⟩ (fun hHeld => ?_)
                                generalize w147.drew = w148 at BK263 BK265 HI262 HB hHeld ⊢
                                refine pure_ (i := 0) (N := some 110) (v := ?_) (a' := ?_) (b_ 6 1) rfl rfl (by kernel_rfl) (fun _ _ _ h => h) (Or.inl ⟨by rfl, ?_⟩) ?_ ?_; rotate_left; (· intro w'; go_simp; with_reducible rfl); rotate_left; (· simp only [Act.put, sa_, sz_, ss_, i64_w, i32_w]; rfl)
                                refine pure_ (i := 2) (N := some 112) (v := ?_) (a' := ?_) (b_ 6 5) rfl rfl (by kernel_rfl) (fun _ _ _ h => h) (Or.inl ⟨by rfl, ?_⟩) ?_ ?_; rotate_left; (· intro w'; go_simp; with_reducible rfl); rotate_left; (· simp only [Act.put, sa_, sz_, ss_, i64_w, i32_w]; rfl)
                                refine take_ (i := 3) (N := some 113) (v := ?_) (a' := ?_) (b_ 6 13) rfl rfl (by kernel_rfl) (fun _ _ _ h => h) (Or.inl ⟨by rfl, ?_⟩) hHeld ?_ ?_
                                rotate_left
                                · rintro w' ⟨s0, s1, s2, s3, s4, s5, s6⟩
                                  go_simp
                                  with_reducible rfl
                                rotate_left
                                · simp only [Act.put, sa_, sz_, ss_, i64_w, i32_w]
                                  rfl
                                refine pure_ (i := 4) (N := some 114) (v := ?_) (a' := ?_) (b_ 6 29) rfl rfl (by kernel_rfl) (fun _ _ _ h => h) (Or.inl ⟨by rfl, ?_⟩) ?_ ?_; rotate_left; (· intro w'; go_simp; with_reducible rfl); rotate_left; (· simp only [Act.put, sa_, sz_, ss_, i64_w, i32_w]; rfl)
                                refine one_ (i := 1) (N := some 111) (b_ 6 31) rfl rfl (by kernel_rfl) (by decide) (fun K hK => ?_)
                                refine goes_ Try.func20 (by kernel_rfl) rfl #[.pointer (some ⟨g262, 0, none⟩)] (by rfl) rfl rfl (by (try simp only [List.map_toArray, List.map_cons, List.map_nil]); first | done | rfl | (simp only [List.length_drop, List.length_take]; rfl)) ?_
                                with_reducible refine (field_Reader_End.calls k2 g262 t258 x263001_2 x263002_2 x263003_2 t325 t326 t327 t328 w _ ?side1 ?side2 A140.out).mono ?_
                                (case side1 => repeat (first | (with_reducible first | exact HI262.out | apply i81a_ | apply i81n_ | apply i81d_ | refine IsS81.far ?_ NB262_263.out _ | refine IsS81.far ?_ NB262_265.out _) | exact HI262.out))
                                (case side2 => repeat (first | (with_reducible first | exact HB.out | apply pa_ | apply pd_ | apply p1_ | refine zs_ ?_ (IsS81.ge HI262.out) | refine zs_ ?_ GE263.out | refine zs_ ?_ GE265.out) | exact HB.out))
                                rintro e w149 ⟨rfl, hi, hb, hk⟩
                                refine ⟨_, rfl, ?_⟩
                                have n0_ := ak_ (KeepBut.blk hk (g' := gb263) (o := .cells #[.string t318, .int .i64 t319, .int .i64 t320, .int .i64 t321, .int .i64 t322, .string t323, .bool t324] 40 (0, 0)) (by (with_reducible repeat (first | apply zn_ | apply zd_ | apply za_)); exact BK263.out) NB263_262.out (by simp))
                                have n1_ := ak_ (KeepBut.blk hk (g' := gb265) (o := .cells #[.int .i64 ((rd_T29 l1 x7_2).f0), .int .i64 ((rd_T29 l1 x7_2).f1), .int .i64 ((rd_T29 l1 x7_2).f2), .string ((rd_T29 l1 x7_2).f3), .bool ((rd_T29 l1 x7_2).f4)] 29 (0, 0)) (by (with_reducible repeat (first | apply zn_ | apply zd_ | apply za_)); exact BK265.out) NB265_262.out (by simp))
                                have n2_ := ak_ (hb)
                                have n3_ := ak_ (hi)
                                clear BK263
                                clear BK265
                                clear HB
                                clear HI262
                                have BK263 := n0_
                                have BK265 := n1_
                                have HB := n2_
                                have HI262 := n3_
                                clear n0_ n1_ n2_ n3_
                                (try clear hb hk hi)
                                refine hK.out _ _ ⟨(zc_ BK263.out 0).trans rfl, (zc_ BK263.out 1).trans rfl, (zc_ BK263.out 2).trans rfl, (zc_ BK263.out 3).trans rfl, (zc_ BK263.out 4).trans rfl, (zc_ BK263.out 5).trans rfl, (zc_ BK263.out 6).trans rfl⟩ (fun hHeld => ?_)
                                clear hK K
                                refine norm_ (a' := ?_) ?_ ?_
                                rotate_left
                                · show Act.put _ (some 111) _ = _
                                  simp only [Act.put, sa_, sz_, ss_, i64_w, i32_w]
                                  rfl
                                refine pure_ (i := 5) (N := some 115) (v := ?_) (a' := ?_) (b_ 6 63) rfl rfl (by kernel_rfl) (fun _ _ _ h => h) (Or.inl ⟨by rfl, ?_⟩) ?_ ?_; rotate_left; (· intro w'; go_simp; with_reducible rfl); rotate_left; (· simp only [Act.put, sa_, sz_, ss_, i64_w, i32_w]; rfl)
                                refine done_ (by kernel_rfl) ?_
                                try go_wp2
                                go_ret
                                exact ⟨by first | rfl | (simp [errW_none, errW_some] <;> rfl) | (simp [*, errW_none, errW_some] <;> rfl), by first | (refine ps_ HBW0.out ?_; (repeat (first | (with_reducible first | exact HB.out | apply pa_ | apply pd_ | apply p1_ | refine zs_ ?_ (IsS81.ge HI262.out) | refine zs_ ?_ GE263.out | refine zs_ ?_ GE265.out) | exact HB.out)); done) | (repeat (first | (with_reducible first | exact HB.out | apply pa_ | apply pd_ | apply p1_ | refine zs_ ?_ (IsS81.ge HI262.out) | refine zs_ ?_ GE263.out | refine zs_ ?_ GE265.out) | exact HB.out))⟩
                              · rw [if_neg c141] at H
                                have c141b0 : (t325 != (t320 == 0)) = false := by simpa using c141
                                (try (have c141b1 : decide (t325 = (t320 == 0)) = true := by simpa using c141))
                                (try (have c141b2 : (t325 == (t320 == 0)) = true := by simpa using c141))
                                clear c141
                                have H' := ak_ H
                                clear H
                                have hnb150 := NB263_265.out
                                have hnc150 := NB265_263.out
                                have hnb151 := NB263_262.out
                                have hnc151 := NB262_263.out
                                have hcz152_0 : w18.cell? ⟨gb263, 0, none⟩ = some (.string x264000_2) := (zc_ BK263.out 0).trans rfl
                                have hcz152_1 : w18.cell? ⟨gb263, 1, none⟩ = some (.int .i64 x264001_2) := (zc_ BK263.out 1).trans rfl
                                have hcz152_2 : w18.cell? ⟨gb263, 2, none⟩ = some (.int .i64 x264002_2) := (zc_ BK263.out 2).trans rfl
                                have hcz152_3 : w18.cell? ⟨gb263, 3, none⟩ = some (.int .i64 x264003_2) := (zc_ BK263.out 3).trans rfl
                                have hcz152_4 : w18.cell? ⟨gb263, 4, none⟩ = some (.int .i64 x264004_2) := (zc_ BK263.out 4).trans rfl
                                have hcz152_5 : w18.cell? ⟨gb263, 5, none⟩ = some (.string x264005_2) := (zc_ BK263.out 5).trans rfl
                                have hcz152_6 : w18.cell? ⟨gb263, 6, none⟩ = some (.bool x264006_2) := (zc_ BK263.out 6).trans rfl
                                have hfz152_0 := zf_ BK263.out 0
                                have hfz152_1 := zf_ BK263.out 1
                                have hfz152_2 := zf_ BK263.out 2
                                have hfz152_3 := zf_ BK263.out 3
                                have hfz152_4 := zf_ BK263.out 4
                                have hfz152_5 := zf_ BK263.out 5
                                have hfz152_6 := zf_ BK263.out 6
                                try go_wp2_with (first | ((with_reducible refine gate_callee (f := 26) rfl ?_); refine goesL_ (some 109) rfl rfl Try.func26 (by kernel_rfl) rfl #[.agg #[.string x264000_2, .int .i64 x264001_2, .int .i64 x264002_2, .int .i64 x264003_2, .int .i64 x264004_2, .string x264005_2, .bool x264006_2]] rfl (by (try simp only [List.map_toArray, List.map_cons, List.map_nil]); first | done | rfl | (simp only [List.length_drop, List.length_take]; rfl)) ?_; (with_reducible refine (usufructref04_End.calls x264000_2 x264001_2 x264002_2 x264003_2 x264004_2 x264005_2 x264006_2 t318 t319 t320 t321 t322 t323 t324 _ A139.out).mono ?_); rintro e w153 ⟨rfl, hb⟩; refine ⟨_, rfl, ?_⟩; have n0_ := ak_ (blk_below (g := gb263) (o := .cells #[.string x264000_2, .int .i64 x264001_2, .int .i64 x264002_2, .int .i64 x264003_2, .int .i64 x264004_2, .string x264005_2, .bool x264006_2] 40 (0, 0)) (by (with_reducible repeat (first | apply zn_ | apply zd_ | apply za_)); refine zr_ ?_ NB263_265.out _; (with_reducible repeat (first | apply zn_ | apply zd_ | apply za_)); refine zr_ ?_ NB263_265.out _; (with_reducible repeat (first | apply zn_ | apply zd_ | apply za_)); refine zr_ ?_ NB263_265.out _; (with_reducible repeat (first | apply zn_ | apply zd_ | apply za_)); refine zr_ ?_ NB263_265.out _; (with_reducible repeat (first | apply zn_ | apply zd_ | apply za_)); refine zr_ ?_ NB263_265.out _; (with_reducible repeat (first | apply zn_ | apply zd_ | apply za_)); exact BK263.out) hb); have n1_ := ak_ (IsS81.below (show IsS81 w (((((w18.setCell ⟨gb265, 0, none⟩ (.int .i64 ((rd_T29 l1 x7_2).f0))).setCell ⟨gb265, 1, none⟩ (.int .i64 ((rd_T29 l1 x7_2).f1))).setCell ⟨gb265, 2, none⟩ (.int .i64 ((rd_T29 l1 x7_2).f2))).setCell ⟨gb265, 3, none⟩ (.string ((rd_T29 l1 x7_2).f3))).setCell ⟨gb265, 4, none⟩ (.bool ((rd_T29 l1 x7_2).f4))) g262 t258 x263001_2 x263002_2 x263003_2 from by repeat (first | (with_reducible first | exact HI262.out | apply i81a_ | apply i81n_ | apply i81d_ | refine IsS81.far ?_ NB262_263.out _ | refine IsS81.far ?_ NB262_265.out _) | exact HI262.out)) hb); have n2_ := ak_ (blk_below (g := gb265) (o := .cells #[.int .i64 ((rd_T29 l1 x7_2).f0), .int .i64 ((rd_T29 l1 x7_2).f1), .int .i64 ((rd_T29 l1 x7_2).f2), .string ((rd_T29 l1 x7_2).f3), .bool ((rd_T29 l1 x7_2).f4)] 29 (0, 0)) (by (with_reducible repeat (first | apply zn_ | apply zd_ | apply za_)); refine zp_ (cs := #[.int .i64 ((rd_T29 l1 x7_2).f0), .int .i64 ((rd_T29 l1 x7_2).f1), .int .i64 ((rd_T29 l1 x7_2).f2), .string ((rd_T29 l1 x7_2).f3), .bool false]) ?_ 4 _ rfl; (with_reducible repeat (first | apply zn_ | apply zd_ | apply za_)); refine zp_ (cs := #[.int .i64 ((rd_T29 l1 x7_2).f0), .int .i64 ((rd_T29 l1 x7_2).f1), .int .i64 ((rd_T29 l1 x7_2).f2), .string ⟨#[]⟩, .bool false]) ?_ 3 _ rfl; (with_reducible repeat (first | apply zn_ | apply zd_ | apply za_)); refine zp_ (cs := #[.int .i64 ((rd_T29 l1 x7_2).f0), .int .i64 ((rd_T29 l1 x7_2).f1), .int .i64 0, .string ⟨#[]⟩, .bool false]) ?_ 2 _ rfl; (with_reducible repeat (first | apply zn_ | apply zd_ | apply za_)); refine zp_ (cs := #[.int .i64 ((rd_T29 l1 x7_2).f0), .int .i64 0, .int .i64 0, .string ⟨#[]⟩, .bool false]) ?_ 1 _ rfl; (with_reducible repeat (first | apply zn_ | apply zd_ | apply za_)); refine zp_ (cs := #[.int .i64 0, .int .i64 0, .int .i64 0, .string ⟨#[]⟩, .bool false]) ?_ 0 _ rfl; (with_reducible repeat (first | apply zn_ | apply zd_ | apply za_)); exact BK265.out) hb); have n3_ := ak_ (ps_ (by repeat (first | (with_reducible first | exact HB.out | apply pa_ | apply pd_ | apply p1_ | refine zs_ ?_ (IsS81.ge HI262.out) | refine zs_ ?_ GE263.out | refine zs_ ?_ GE265.out) | exact HB.out)) hb); clear BK263; clear HI262; clear BK265; clear HB; have BK263 := n0_; have HI262 := n1_; have BK265 := n2_; have HB := n3_; clear n0_ n1_ n2_ n3_; (try clear hb hk hi); have hcz154_0 : w153.cell? ⟨gb263, 0, none⟩ = some (.string x264000_2) := (zc_ BK263.out 0).trans rfl; have hcz154_1 : w153.cell? ⟨gb263, 1, none⟩ = some (.int .i64 x264001_2) := (zc_ BK263.out 1).trans rfl; have hcz154_2 : w153.cell? ⟨gb263, 2, none⟩ = some (.int .i64 x264002_2) := (zc_ BK263.out 2).trans rfl; have hcz154_3 : w153.cell? ⟨gb263, 3, none⟩ = some (.int .i64 x264003_2) := (zc_ BK263.out 3).trans rfl; have hcz154_4 : w153.cell? ⟨gb263, 4, none⟩ = some (.int .i64 x264004_2) := (zc_ BK263.out 4).trans rfl; have hcz154_5 : w153.cell? ⟨gb263, 5, none⟩ = some (.string x264005_2) := (zc_ BK263.out 5).trans rfl; have hcz154_6 : w153.cell? ⟨gb263, 6, none⟩ = some (.bool x264006_2) := (zc_ BK263.out 6).trans rfl; have hfz154_0 := zf_ BK263.out 0; have hfz154_1 := zf_ BK263.out 1; have hfz154_2 := zf_ BK263.out 2; have hfz154_3 := zf_ BK263.out 3; have hfz154_4 := zf_ BK263.out 4; have hfz154_5 := zf_ BK263.out 5; have hfz154_6 := zf_ BK263.out 6))
                                have n0_ : Aside0 ((((((((w153.setCell ⟨gb263, 0, none⟩ (.string t318)).setCell ⟨gb263, 1, none⟩ (.int .i64 t319)).setCell ⟨gb263, 2, none⟩ (.int .i64 t320)).setCell ⟨gb263, 3, none⟩ (.int .i64 t321)).setCell ⟨gb263, 4, none⟩ (.int .i64 t322)).setCell ⟨gb263, 5, none⟩ (.string t323)).setCell ⟨gb263, 6, none⟩ (.bool t324)).heap[gb263]? = some (.cells #[.string t318, .int .i64 t319, .int .i64 t320, .int .i64 t321, .int .i64 t322, .string t323, .bool t324] 40 (0, 0))) := ⟨by (with_reducible repeat (first | apply zn_ | apply zd_ | apply za_)); refine zp_ (cs := #[.string t318, .int .i64 t319, .int .i64 t320, .int .i64 t321, .int .i64 t322, .string t323, .bool x264006_2]) ?_ 6 _ rfl; (with_reducible repeat (first | apply zn_ | apply zd_ | apply za_)); refine zp_ (cs := #[.string t318, .int .i64 t319, .int .i64 t320, .int .i64 t321, .int .i64 t322, .string x264005_2, .bool x264006_2]) ?_ 5 _ rfl; (with_reducible repeat (first | apply zn_ | apply zd_ | apply za_)); refine zp_ (cs := #[.string t318, .int .i64 t319, .int .i64 t320, .int .i64 t321, .int .i64 x264004_2, .string x264005_2, .bool x264006_2]) ?_ 4 _ rfl; (with_reducible repeat (first | apply zn_ | apply zd_ | apply za_)); refine zp_ (cs := #[.string t318, .int .i64 t319, .int .i64 t320, .int .i64 x264003_2, .int .i64 x264004_2, .string x264005_2, .bool x264006_2]) ?_ 3 _ rfl; (with_reducible repeat (first | apply zn_ | apply zd_ | apply za_)); refine zp_ (cs := #[.string t318, .int .i64 t319, .int .i64 x264002_2, .int .i64 x264003_2, .int .i64 x264004_2, .string x264005_2, .bool x264006_2]) ?_ 2 _ rfl; (with_reducible repeat (first | apply zn_ | apply zd_ | apply za_)); refine zp_ (cs := #[.string t318, .int .i64 x264001_2, .int .i64 x264002_2, .int .i64 x264003_2, .int .i64 x264004_2, .string x264005_2, .bool x264006_2]) ?_ 1 _ rfl; (with_reducible repeat (first | apply zn_ | apply zd_ | apply za_)); refine zp_ (cs := #[.string x264000_2, .int .i64 x264001_2, .int .i64 x264002_2, .int .i64 x264003_2, .int .i64 x264004_2, .string x264005_2, .bool x264006_2]) ?_ 0 _ rfl; (with_reducible repeat (first | apply zn_ | apply zd_ | apply za_)); exact BK263.out⟩
                                have n1_ : Aside0 ((((((((w153.setCell ⟨gb263, 0, none⟩ (.string t318)).setCell ⟨gb263, 1, none⟩ (.int .i64 t319)).setCell ⟨gb263, 2, none⟩ (.int .i64 t320)).setCell ⟨gb263, 3, none⟩ (.int .i64 t321)).setCell ⟨gb263, 4, none⟩ (.int .i64 t322)).setCell ⟨gb263, 5, none⟩ (.string t323)).setCell ⟨gb263, 6, none⟩ (.bool t324)).heap[gb265]? = some (.cells #[.int .i64 ((rd_T29 l1 x7_2).f0), .int .i64 ((rd_T29 l1 x7_2).f1), .int .i64 ((rd_T29 l1 x7_2).f2), .string ((rd_T29 l1 x7_2).f3), .bool ((rd_T29 l1 x7_2).f4)] 29 (0, 0))) := ⟨by (with_reducible repeat (first | apply zn_ | apply zd_ | apply za_)); refine zr_ ?_ NB265_263.out _; (with_reducible repeat (first | apply zn_ | apply zd_ | apply za_)); refine zr_ ?_ NB265_263.out _; (with_reducible repeat (first | apply zn_ | apply zd_ | apply za_)); refine zr_ ?_ NB265_263.out _; (with_reducible repeat (first | apply zn_ | apply zd_ | apply za_)); refine zr_ ?_ NB265_263.out _; (with_reducible repeat (first | apply zn_ | apply zd_ | apply za_)); refine zr_ ?_ NB265_263.out _; (with_reducible repeat (first | apply zn_ | apply zd_ | apply za_)); refine zr_ ?_ NB265_263.out _; (with_reducible repeat (first | apply zn_ | apply zd_ | apply za_)); refine zr_ ?_ NB265_263.out _; (with_reducible repeat (first | apply zn_ | apply zd_ | apply za_)); exact BK265.out⟩
                                have n2_ : Aside0 (IsS81 w (((((((w153.setCell ⟨gb263, 0, none⟩ (.string t318)).setCell ⟨gb263, 1, none⟩ (.int .i64 t319)).setCell ⟨gb263, 2, none⟩ (.int .i64 t320)).setCell ⟨gb263, 3, none⟩ (.int .i64 t321)).setCell ⟨gb263, 4, none⟩ (.int .i64 t322)).setCell ⟨gb263, 5, none⟩ (.string t323)).setCell ⟨gb263, 6, none⟩ (.bool t324)) g262 t258 x263001_2 x263002_2 x263003_2) := ⟨by repeat (first | (with_reducible first | exact HI262.out | apply i81a_ | apply i81n_ | apply i81d_ | refine IsS81.far ?_ NB262_263.out _ | refine IsS81.far ?_ NB262_265.out _) | exact HI262.out)⟩
                                have n3_ : Aside0 (Below w.heap.size w (((((((w153.setCell ⟨gb263, 0, none⟩ (.string t318)).setCell ⟨gb263, 1, none⟩ (.int .i64 t319)).setCell ⟨gb263, 2, none⟩ (.int .i64 t320)).setCell ⟨gb263, 3, none⟩ (.int .i64 t321)).setCell ⟨gb263, 4, none⟩ (.int .i64 t322)).setCell ⟨gb263, 5, none⟩ (.string t323)).setCell ⟨gb263, 6, none⟩ (.bool t324))) := ⟨by repeat (first | (with_reducible first | exact HB.out | apply pa_ | apply pd_ | apply p1_ | refine zs_ ?_ (IsS81.ge HI262.out) | refine zs_ ?_ GE263.out | refine zs_ ?_ GE265.out) | exact HB.out)⟩
                                (try clear BK263); (try clear BK265); (try clear HI262); (try clear HB)
                                generalize (((((((w153.setCell ⟨gb263, 0, none⟩ (.string t318)).setCell ⟨gb263, 1, none⟩ (.int .i64 t319)).setCell ⟨gb263, 2, none⟩ (.int .i64 t320)).setCell ⟨gb263, 3, none⟩ (.int .i64 t321)).setCell ⟨gb263, 4, none⟩ (.int .i64 t322)).setCell ⟨gb263, 5, none⟩ (.string t323)).setCell ⟨gb263, 6, none⟩ (.bool t324)) = w155 at n0_ n1_ n2_ n3_ ⊢
                                have BK263 := n0_
                                have BK265 := n1_
                                have HI262 := n2_
                                have HB := n3_
                                clear n0_ n1_ n2_ n3_
                                have n0_ := ak_ (zd_ BK263.out)
                                have n1_ := ak_ (zd_ BK265.out)
                                have n2_ := ak_ (i81d_ HI262.out)
                                have n3_ := ak_ (p1_ HB.out)
                                clear BK263
                                clear BK265
                                clear HI262
                                clear HB
                                have BK263 := n0_
                                have BK265 := n1_
                                have HI262 := n2_
                                have HB := n3_
                                clear n0_ n1_ n2_ n3_
                                refine start_ (n := 6) (S := fun w' => w'.cell? ⟨gb263, 0, none⟩ = some (.string t318) ∧ w'.cell? ⟨gb263, 1, none⟩ = some (.int .i64 t319) ∧ w'.cell? ⟨gb263, 2, none⟩ = some (.int .i64 t320) ∧ w'.cell? ⟨gb263, 3, none⟩ = some (.int .i64 t321) ∧ w'.cell? ⟨gb263, 4, none⟩ = some (.int .i64 t322) ∧ w'.cell? ⟨gb263, 5, none⟩ = some (.string t323) ∧ w'.cell? ⟨gb263, 6, none⟩ = some (.bool t324)) (ds := []) #[false, false, false, false, false, false] (by kernel_rfl) rfl rfl ⟨(zc_ BK263.out 0).trans rfl, (zc_ BK263.out 1).trans rfl, (zc_ BK263.out 2).trans rfl, (zc_ BK263.out 3).trans rfl, (zc_ BK263.out 4).trans rfl, (zc_ BK263.out 5).trans rfl, (zc_ BK263.out 6).trans rfl⟩ (fun hHeld => ?_)
                                generalize w155.drew = w156 at BK263 BK265 HI262 HB hHeld ⊢
                                refine pure_ (i := 0) (N := some 110) (v := ?_) (a' := ?_) (b_ 6 1) rfl rfl (by kernel_rfl) (fun _ _ _ h => h) (Or.inl ⟨by rfl, ?_⟩) ?_ ?_; rotate_left; (· intro w'; go_simp; with_reducible rfl); rotate_left; (· simp only [Act.put, sa_, sz_, ss_, i64_w, i32_w]; rfl)
                                refine pure_ (i := 2) (N := some 112) (v := ?_) (a' := ?_) (b_ 6 5) rfl rfl (by kernel_rfl) (fun _ _ _ h => h) (Or.inl ⟨by rfl, ?_⟩) ?_ ?_; rotate_left; (· intro w'; go_simp; with_reducible rfl); rotate_left; (· simp only [Act.put, sa_, sz_, ss_, i64_w, i32_w]; rfl)
                                refine take_ (i := 3) (N := some 113) (v := ?_) (a' := ?_) (b_ 6 13) rfl rfl (by kernel_rfl) (fun _ _ _ h => h) (Or.inl ⟨by rfl, ?_⟩) hHeld ?_ ?_
                                rotate_left
                                · rintro w' ⟨s0, s1, s2, s3, s4, s5, s6⟩
                                  go_simp
                                  with_reducible rfl
                                rotate_left
                                · simp only [Act.put, sa_, sz_, ss_, i64_w, i32_w]
                                  rfl
                                refine pure_ (i := 4) (N := some 114) (v := ?_) (a' := ?_) (b_ 6 29) rfl rfl (by kernel_rfl) (fun _ _ _ h => h) (Or.inl ⟨by rfl, ?_⟩) ?_ ?_; rotate_left; (· intro w'; go_simp; with_reducible rfl); rotate_left; (· simp only [Act.put, sa_, sz_, ss_, i64_w, i32_w]; rfl)
                                refine one_ (i := 1) (N := some 111) (b_ 6 31) rfl rfl (by kernel_rfl) (by decide) (fun K hK => ?_)
                                refine goes_ Try.func20 (by kernel_rfl) rfl #[.pointer (some ⟨g262, 0, none⟩)] (by rfl) rfl rfl (by (try simp only [List.map_toArray, List.map_cons, List.map_nil]); first | done | rfl | (simp only [List.length_drop, List.length_take]; rfl)) ?_
                                with_reducible refine (field_Reader_End.calls k2 g262 t258 x263001_2 x263002_2 x263003_2 t325 t326 t327 t328 w _ ?side1 ?side2 A140.out).mono ?_
                                (case side1 => repeat (first | (with_reducible first | exact HI262.out | apply i81a_ | apply i81n_ | apply i81d_ | refine IsS81.far ?_ NB262_263.out _ | refine IsS81.far ?_ NB262_265.out _) | exact HI262.out))
                                (case side2 => repeat (first | (with_reducible first | exact HB.out | apply pa_ | apply pd_ | apply p1_ | refine zs_ ?_ (IsS81.ge HI262.out) | refine zs_ ?_ GE263.out | refine zs_ ?_ GE265.out) | exact HB.out))
                                rintro e w157 ⟨rfl, hi, hb, hk⟩
                                refine ⟨_, rfl, ?_⟩
                                have n0_ := ak_ (KeepBut.blk hk (g' := gb263) (o := .cells #[.string t318, .int .i64 t319, .int .i64 t320, .int .i64 t321, .int .i64 t322, .string t323, .bool t324] 40 (0, 0)) (by (with_reducible repeat (first | apply zn_ | apply zd_ | apply za_)); exact BK263.out) NB263_262.out (by simp))
                                have n1_ := ak_ (KeepBut.blk hk (g' := gb265) (o := .cells #[.int .i64 ((rd_T29 l1 x7_2).f0), .int .i64 ((rd_T29 l1 x7_2).f1), .int .i64 ((rd_T29 l1 x7_2).f2), .string ((rd_T29 l1 x7_2).f3), .bool ((rd_T29 l1 x7_2).f4)] 29 (0, 0)) (by (with_reducible repeat (first | apply zn_ | apply zd_ | apply za_)); exact BK265.out) NB265_262.out (by simp))
                                have n2_ := ak_ (hb)
                                have n3_ := ak_ (hi)
                                clear BK263
                                clear BK265
                                clear HB
                                clear HI262
                                have BK263 := n0_
                                have BK265 := n1_
                                have HB := n2_
                                have HI262 := n3_
                                clear n0_ n1_ n2_ n3_
                                (try clear hb hk hi)
                                refine hK.out _ _ ⟨(zc_ BK263.out 0).trans rfl, (zc_ BK263.out 1).trans rfl, (zc_ BK263.out 2).trans rfl, (zc_ BK263.out 3).trans rfl, (zc_ BK263.out 4).trans rfl, (zc_ BK263.out 5).trans rfl, (zc_ BK263.out 6).trans rfl⟩ (fun hHeld => ?_)
                                clear hK K
                                refine norm_ (a' := ?_) ?_ ?_
                                rotate_left
                                · show Act.put _ (some 111) _ = _
                                  simp only [Act.put, sa_, sz_, ss_, i64_w, i32_w]
                                  rfl
                                refine pure_ (i := 5) (N := some 115) (v := ?_) (a' := ?_) (b_ 6 63) rfl rfl (by kernel_rfl) (fun _ _ _ h => h) (Or.inl ⟨by rfl, ?_⟩) ?_ ?_; rotate_left; (· intro w'; go_simp; with_reducible rfl); rotate_left; (· simp only [Act.put, sa_, sz_, ss_, i64_w, i32_w]; rfl)
                                refine done_ (by kernel_rfl) ?_
                                try go_wp2
                                go_meet
                                case rel => exact ⟨_, (t326), (t327), (t328), (t318), (t319), (t320), (t321), (t322), (t323), (t324), H', ⟨by have := HJ4.out; have := HK2.out; first | omega | exact Nat.le_refl _⟩, ⟨by (with_reducible repeat (first | apply zn_ | apply zd_ | apply za_)); exact BK263.out⟩, ⟨by (with_reducible repeat (first | apply zn_ | apply zd_ | apply za_)); exact BK265.out⟩, ⟨by repeat (first | (with_reducible first | exact HI262.out | apply i81a_ | apply i81n_ | apply i81d_ | refine IsS81.far ?_ NB262_263.out _ | refine IsS81.far ?_ NB262_265.out _) | exact HI262.out)⟩, ⟨by repeat (first | (with_reducible first | exact HB.out | apply pa_ | apply pd_ | apply p1_ | refine zs_ ?_ (IsS81.ge HI262.out) | refine zs_ ?_ GE263.out | refine zs_ ?_ GE265.out) | exact HB.out)⟩⟩
                            · rw [if_neg c138] at H
                              have c138b0 : (((rd_T29 l1 x7_2).f0) == 4) = false := beq_eq_false_iff_ne.mpr c138
                              have c138b1 : (((rd_T29 l1 x7_2).f0) != 4) = true := bne_iff_ne.mpr c138
                              have H' := ak_ H
                              clear H
                              go_wp2
                              go_meet
                              case rel => exact ⟨_, (x263001_2), (x263002_2), (x263003_2), (x264000_2), (x264001_2), (x264002_2), (x264003_2), (x264004_2), (x264005_2), (x264006_2), H', ⟨by have := HJ4.out; have := HK2.out; first | omega | exact Nat.le_refl _⟩, ⟨by (with_reducible repeat (first | apply zn_ | apply zd_ | apply za_)); refine zr_ ?_ NB263_265.out _; (with_reducible repeat (first | apply zn_ | apply zd_ | apply za_)); refine zr_ ?_ NB263_265.out _; (with_reducible repeat (first | apply zn_ | apply zd_ | apply za_)); refine zr_ ?_ NB263_265.out _; (with_reducible repeat (first | apply zn_ | apply zd_ | apply za_)); refine zr_ ?_ NB263_265.out _; (with_reducible repeat (first | apply zn_ | apply zd_ | apply za_)); refine zr_ ?_ NB263_265.out _; (with_reducible repeat (first | apply zn_ | apply zd_ | apply za_)); exact BK263.out⟩, ⟨by (with_reducible repeat (first | apply zn_ | apply zd_ | apply za_)); refine zp_ (cs := #[.int .i64 ((rd_T29 l1 x7_2).f0), .int .i64 ((rd_T29 l1 x7_2).f1), .int .i64 ((rd_T29 l1 x7_2).f2), .string ((rd_T29 l1 x7_2).f3), .bool false]) ?_ 4 _ rfl; (with_reducible repeat (first | apply zn_ | apply zd_ | apply za_)); refine zp_ (cs := #[.int .i64 ((rd_T29 l1 x7_2).f0), .int .i64 ((rd_T29 l1 x7_2).f1), .int .i64 ((rd_T29 l1 x7_2).f2), .string ⟨#[]⟩, .bool false]) ?_ 3 _ rfl; (with_reducible repeat (first | apply zn_ | apply zd_ | apply za_)); refine zp_ (cs := #[.int .i64 ((rd_T29 l1 x7_2).f0), .int .i64 ((rd_T29 l1 x7_2).f1), .int .i64 0, .string ⟨#[]⟩, .bool false]) ?_ 2 _ rfl; (with_reducible repeat (first | apply zn_ | apply zd_ | apply za_)); refine zp_ (cs := #[.int .i64 ((rd_T29 l1 x7_2).f0), .int .i64 0, .int .i64 0, .string ⟨#[]⟩, .bool false]) ?_ 1 _ rfl; (with_reducible repeat (first | apply zn_ | apply zd_ | apply za_)); refine zp_ (cs := #[.int .i64 0, .int .i64 0, .int .i64 0, .string ⟨#[]⟩, .bool false]) ?_ 0 _ rfl; (with_reducible repeat (first | apply zn_ | apply zd_ | apply za_)); exact BK265.out⟩, ⟨by repeat (first | (with_reducible first | exact HI262.out | apply i81a_ | apply i81n_ | apply i81d_ | refine IsS81.far ?_ NB262_263.out _ | refine IsS81.far ?_ NB262_265.out _) | exact HI262.out)⟩, ⟨by repeat (first | (with_reducible first | exact HB.out | apply pa_ | apply pd_ | apply p1_ | refine zs_ ?_ (IsS81.ge HI262.out) | refine zs_ ?_ GE263.out | refine zs_ ?_ GE265.out) | exact HB.out)⟩⟩
                  case rest =>
                    clear HC17
                    try clear c1
                    try clear c2
                    try clear p2
                    try clear c3
                    try clear c4
                    try clear c5
                    try clear c6
                    try clear c7
                    try clear c8
                    try clear c9
                    try clear c10
                    try clear c11
                    try clear c12
                    try clear c13
                    try clear c14
                    try clear c15
                    try clear c17
                    try clear c18
                    try clear c19
                    try clear c20
                    try clear c21
                    try clear c22
                    try clear c22b0
                    try clear c22b1
                    try clear c23
                    try clear c24
                    try clear c25
                    try clear c25b0
                    try clear c25b1
                    try clear c26
                    try clear c27
                    try clear c31
                    try clear c32
                    try clear c33
                    try clear c37
                    try clear c38
                    try clear c42
                    try clear c43
                    try clear c44
                    try clear c48
                    try clear c48b0
                    try clear c48b1
                    try clear c51
                    try clear c51b0
                    try clear c51b1
                    try clear c52
                    try clear c53
                    try clear c55
                    try clear c59
                    try clear c60
                    try clear c61
                    try clear c66
                    try clear c67
                    try clear c69
                    try clear c73
                    try clear c74
                    try clear c75
                    try clear c80
                    try clear c80b0
                    try clear c80b1
                    try clear c83
                    try clear c83b0
                    try clear c83b1
                    try clear c83b2
                    try clear c84
                    try clear c85
                    try clear c89
                    try clear c90
                    try clear c91
                    try clear c95
                    try clear c96
                    try clear c100
                    try clear c101
                    try clear c102
                    try clear c106
                    try clear c106b0
                    try clear c106b1
                    try clear c109
                    try clear c109b0
                    try clear c109b1
                    try clear c110
                    try clear c111
                    try clear c113
                    try clear c117
                    try clear c118
                    try clear c119
                    try clear c124
                    try clear c125
                    try clear c127
                    try clear c131
                    try clear c132
                    try clear c133
                    try clear c138
                    try clear c138b0
                    try clear c138b1
                    try clear c141
                    try clear c141b0
                    try clear c141b1
                    try clear c141b2
                    try clear c142
                    try clear c143
                    try clear c150
                    try clear c151
                    try clear hcz103_0
                    try clear hcz103_1
                    try clear hcz103_2
                    try clear hcz103_3
                    try clear hcz103_4
                    try clear hcz103_5
                    try clear hcz103_6
                    try clear hcz104_0
                    try clear hcz104_1
                    try clear hcz104_2
                    try clear hcz104_3
                    try clear hcz104_4
                    try clear hcz104_5
                    try clear hcz104_6
                    try clear hcz112_0
                    try clear hcz112_1
                    try clear hcz112_2
                    try clear hcz112_3
                    try clear hcz112_4
                    try clear hcz112_5
                    try clear hcz112_6
                    try clear hcz114_0
                    try clear hcz114_1
                    try clear hcz114_2
                    try clear hcz114_3
                    try clear hcz114_4
                    try clear hcz120_0
                    try clear hcz120_1
                    try clear hcz120_2
                    try clear hcz120_3
                    try clear hcz120_4
                    try clear hcz120_5
                    try clear hcz120_6
                    try clear hcz121_0
                    try clear hcz121_1
                    try clear hcz121_2
                    try clear hcz121_3
                    try clear hcz121_4
                    try clear hcz121_5
                    try clear hcz121_6
                    try clear hcz122_0
                    try clear hcz122_1
                    try clear hcz122_2
                    try clear hcz122_3
                    try clear hcz122_4
                    try clear hcz126_0
                    try clear hcz126_1
                    try clear hcz126_2
                    try clear hcz126_3
                    try clear hcz126_4
                    try clear hcz126_5
                    try clear hcz126_6
                    try clear hcz128_0
                    try clear hcz128_1
                    try clear hcz128_2
                    try clear hcz128_3
                    try clear hcz128_4
                    try clear hcz134_0
                    try clear hcz134_1
                    try clear hcz134_2
                    try clear hcz134_3
                    try clear hcz134_4
                    try clear hcz134_5
                    try clear hcz134_6
                    try clear hcz135_0
                    try clear hcz135_1
                    try clear hcz135_2
                    try clear hcz135_3
                    try clear hcz135_4
                    try clear hcz135_5
                    try clear hcz135_6
                    try clear hcz136_0
                    try clear hcz136_1
                    try clear hcz136_2
                    try clear hcz136_3
                    try clear hcz136_4
                    try clear hcz144_0
                    try clear hcz144_1
                    try clear hcz144_2
                    try clear hcz144_3
                    try clear hcz144_4
                    try clear hcz144_5
                    try clear hcz144_6
                    try clear hcz146_0
                    try clear hcz146_1
                    try clear hcz146_2
                    try clear hcz146_3
                    try clear hcz146_4
                    try clear hcz146_5
                    try clear hcz146_6
                    try clear hcz152_0
                    try clear hcz152_1
                    try clear hcz152_2
                    try clear hcz152_3
                    try clear hcz152_4
                    try clear hcz152_5
                    try clear hcz152_6
                    try clear hcz154_0
                    try clear hcz154_1
                    try clear hcz154_2
                    try clear hcz154_3
                    try clear hcz154_4
                    try clear hcz154_5
                    try clear hcz154_6
                    try clear hcz28_0
                    try clear hcz28_1
                    try clear hcz28_2
                    try clear hcz28_3
                    try clear hcz28_4
                    try clear hcz28_5
                    try clear hcz28_6
                    try clear hcz34_0
                    try clear hcz34_1
                    try clear hcz34_2
                    try clear hcz34_3
                    try clear hcz34_4
                    try clear hcz34_5
                    try clear hcz34_6
                    try clear hcz35_0
                    try clear hcz35_1
                    try clear hcz35_2
                    try clear hcz35_3
                    try clear hcz35_4
                    try clear hcz35_5
                    try clear hcz35_6
                    try clear hcz39_0
                    try clear hcz39_1
                    try clear hcz39_2
                    try clear hcz39_3
                    try clear hcz39_4
                    try clear hcz39_5
                    try clear hcz39_6
                    try clear hcz45_0
                    try clear hcz45_1
                    try clear hcz45_2
                    try clear hcz45_3
                    try clear hcz45_4
                    try clear hcz45_5
                    try clear hcz45_6
                    try clear hcz46_0
                    try clear hcz46_1
                    try clear hcz46_2
                    try clear hcz46_3
                    try clear hcz46_4
                    try clear hcz46_5
                    try clear hcz46_6
                    try clear hcz54_0
                    try clear hcz54_1
                    try clear hcz54_2
                    try clear hcz54_3
                    try clear hcz54_4
                    try clear hcz54_5
                    try clear hcz54_6
                    try clear hcz56_0
                    try clear hcz56_1
                    try clear hcz56_2
                    try clear hcz56_3
                    try clear hcz56_4
                    try clear hcz62_0
                    try clear hcz62_1
                    try clear hcz62_2
                    try clear hcz62_3
                    try clear hcz62_4
                    try clear hcz62_5
                    try clear hcz62_6
                    try clear hcz63_0
                    try clear hcz63_1
                    try clear hcz63_2
                    try clear hcz63_3
                    try clear hcz63_4
                    try clear hcz63_5
                    try clear hcz63_6
                    try clear hcz64_0
                    try clear hcz64_1
                    try clear hcz64_2
                    try clear hcz64_3
                    try clear hcz64_4
                    try clear hcz68_0
                    try clear hcz68_1
                    try clear hcz68_2
                    try clear hcz68_3
                    try clear hcz68_4
                    try clear hcz68_5
                    try clear hcz68_6
                    try clear hcz70_0
                    try clear hcz70_1
                    try clear hcz70_2
                    try clear hcz70_3
                    try clear hcz70_4
                    try clear hcz76_0
                    try clear hcz76_1
                    try clear hcz76_2
                    try clear hcz76_3
                    try clear hcz76_4
                    try clear hcz76_5
                    try clear hcz76_6
                    try clear hcz77_0
                    try clear hcz77_1
                    try clear hcz77_2
                    try clear hcz77_3
                    try clear hcz77_4
                    try clear hcz77_5
                    try clear hcz77_6
                    try clear hcz78_0
                    try clear hcz78_1
                    try clear hcz78_2
                    try clear hcz78_3
                    try clear hcz78_4
                    try clear hcz86_0
                    try clear hcz86_1
                    try clear hcz86_2
                    try clear hcz86_3
                    try clear hcz86_4
                    try clear hcz86_5
                    try clear hcz86_6
                    try clear hcz92_0
                    try clear hcz92_1
                    try clear hcz92_2
                    try clear hcz92_3
                    try clear hcz92_4
                    try clear hcz92_5
                    try clear hcz92_6
                    try clear hcz93_0
                    try clear hcz93_1
                    try clear hcz93_2
                    try clear hcz93_3
                    try clear hcz93_4
                    try clear hcz93_5
                    try clear hcz93_6
                    try clear hcz97_0
                    try clear hcz97_1
                    try clear hcz97_2
                    try clear hcz97_3
                    try clear hcz97_4
                    try clear hcz97_5
                    try clear hcz97_6
                    try clear hfz103_0
                    try clear hfz103_1
                    try clear hfz103_2
                    try clear hfz103_3
                    try clear hfz103_4
                    try clear hfz103_5
                    try clear hfz103_6
                    try clear hfz104_0
                    try clear hfz104_1
                    try clear hfz104_2
                    try clear hfz104_3
                    try clear hfz104_4
                    try clear hfz104_5
                    try clear hfz104_6
                    try clear hfz112_0
                    try clear hfz112_1
                    try clear hfz112_2
                    try clear hfz112_3
                    try clear hfz112_4
                    try clear hfz112_5
                    try clear hfz112_6
                    try clear hfz114_0
                    try clear hfz114_1
                    try clear hfz114_2
                    try clear hfz114_3
                    try clear hfz114_4
                    try clear hfz120_0
                    try clear hfz120_1
                    try clear hfz120_2
                    try clear hfz120_3
                    try clear hfz120_4
                    try clear hfz120_5
                    try clear hfz120_6
                    try clear hfz121_0
                    try clear hfz121_1
                    try clear hfz121_2
                    try clear hfz121_3
                    try clear hfz121_4
                    try clear hfz121_5
                    try clear hfz121_6
                    try clear hfz122_0
                    try clear hfz122_1
                    try clear hfz122_2
                    try clear hfz122_3
                    try clear hfz122_4
                    try clear hfz126_0
                    try clear hfz126_1
                    try clear hfz126_2
                    try clear hfz126_3
                    try clear hfz126_4
                    try clear hfz126_5
                    try clear hfz126_6
                    try clear hfz128_0
                    try clear hfz128_1
                    try clear hfz128_2
                    try clear hfz128_3
                    try clear hfz128_4
                    try clear hfz134_0
                    try clear hfz134_1
                    try clear hfz134_2
                    try clear hfz134_3
                    try clear hfz134_4
                    try clear hfz134_5
                    try clear hfz134_6
                    try clear hfz135_0
                    try clear hfz135_1
                    try clear hfz135_2
                    try clear hfz135_3
                    try clear hfz135_4
                    try clear hfz135_5
                    try clear hfz135_6
                    try clear hfz136_0
                    try clear hfz136_1
                    try clear hfz136_2
                    try clear hfz136_3
                    try clear hfz136_4
                    try clear hfz144_0
                    try clear hfz144_1
                    try clear hfz144_2
                    try clear hfz144_3
                    try clear hfz144_4
                    try clear hfz144_5
                    try clear hfz144_6
                    try clear hfz146_0
                    try clear hfz146_1
                    try clear hfz146_2
                    try clear hfz146_3
                    try clear hfz146_4
                    try clear hfz146_5
                    try clear hfz146_6
                    try clear hfz152_0
                    try clear hfz152_1
                    try clear hfz152_2
                    try clear hfz152_3
                    try clear hfz152_4
                    try clear hfz152_5
                    try clear hfz152_6
                    try clear hfz154_0
                    try clear hfz154_1
                    try clear hfz154_2
                    try clear hfz154_3
                    try clear hfz154_4
                    try clear hfz154_5
                    try clear hfz154_6
                    try clear hfz28_0
                    try clear hfz28_1
                    try clear hfz28_2
                    try clear hfz28_3
                    try clear hfz28_4
                    try clear hfz28_5
                    try clear hfz28_6
                    try clear hfz34_0
                    try clear hfz34_1
                    try clear hfz34_2
                    try clear hfz34_3
                    try clear hfz34_4
                    try clear hfz34_5
                    try clear hfz34_6
                    try clear hfz35_0
                    try clear hfz35_1
                    try clear hfz35_2
                    try clear hfz35_3
                    try clear hfz35_4
                    try clear hfz35_5
                    try clear hfz35_6
                    try clear hfz39_0
                    try clear hfz39_1
                    try clear hfz39_2
                    try clear hfz39_3
                    try clear hfz39_4
                    try clear hfz39_5
                    try clear hfz39_6
                    try clear hfz45_0
                    try clear hfz45_1
                    try clear hfz45_2
                    try clear hfz45_3
                    try clear hfz45_4
                    try clear hfz45_5
                    try clear hfz45_6
                    try clear hfz46_0
                    try clear hfz46_1
                    try clear hfz46_2
                    try clear hfz46_3
                    try clear hfz46_4
                    try clear hfz46_5
                    try clear hfz46_6
                    try clear hfz54_0
                    try clear hfz54_1
                    try clear hfz54_2
                    try clear hfz54_3
                    try clear hfz54_4
                    try clear hfz54_5
                    try clear hfz54_6
                    try clear hfz56_0
                    try clear hfz56_1
                    try clear hfz56_2
                    try clear hfz56_3
                    try clear hfz56_4
                    try clear hfz62_0
                    try clear hfz62_1
                    try clear hfz62_2
                    try clear hfz62_3
                    try clear hfz62_4
                    try clear hfz62_5
                    try clear hfz62_6
                    try clear hfz63_0
                    try clear hfz63_1
                    try clear hfz63_2
                    try clear hfz63_3
                    try clear hfz63_4
                    try clear hfz63_5
                    try clear hfz63_6
                    try clear hfz64_0
                    try clear hfz64_1
                    try clear hfz64_2
                    try clear hfz64_3
                    try clear hfz64_4
                    try clear hfz68_0
                    try clear hfz68_1
                    try clear hfz68_2
                    try clear hfz68_3
                    try clear hfz68_4
                    try clear hfz68_5
                    try clear hfz68_6
                    try clear hfz70_0
                    try clear hfz70_1
                    try clear hfz70_2
                    try clear hfz70_3
                    try clear hfz70_4
                    try clear hfz76_0
                    try clear hfz76_1
                    try clear hfz76_2
                    try clear hfz76_3
                    try clear hfz76_4
                    try clear hfz76_5
                    try clear hfz76_6
                    try clear hfz77_0
                    try clear hfz77_1
                    try clear hfz77_2
                    try clear hfz77_3
                    try clear hfz77_4
                    try clear hfz77_5
                    try clear hfz77_6
                    try clear hfz78_0
                    try clear hfz78_1
                    try clear hfz78_2
                    try clear hfz78_3
                    try clear hfz78_4
                    try clear hfz86_0
                    try clear hfz86_1
                    try clear hfz86_2
                    try clear hfz86_3
                    try clear hfz86_4
                    try clear hfz86_5
                    try clear hfz86_6
                    try clear hfz92_0
                    try clear hfz92_1
                    try clear hfz92_2
                    try clear hfz92_3
                    try clear hfz92_4
                    try clear hfz92_5
                    try clear hfz92_6
                    try clear hfz93_0
                    try clear hfz93_1
                    try clear hfz93_2
                    try clear hfz93_3
                    try clear hfz93_4
                    try clear hfz93_5
                    try clear hfz93_6
                    try clear hfz97_0
                    try clear hfz97_1
                    try clear hfz97_2
                    try clear hfz97_3
                    try clear hfz97_4
                    try clear hfz97_5
                    try clear hfz97_6
                    obtain ⟨kq, x263001_16, x263002_16, x263003_16, x264000_16, x264001_16, x264002_16, x264003_16, x264004_16, x264005_16, x264006_16, HA, HJ16, BK263, BK265, HI262, HB⟩ := hcut
                    cases kq with
                    | zero => exact absurd HA.out (by simp [usufructlaw04_FieldTakes.j2])
                    | succ kj16 =>
                      have H := HA.out
                      clear HA
                      simp only [usufructlaw04_FieldTakes.j2] at H
                      replace H := Option.bind_eq_some_iff.mp H
                      obtain ⟨⟨t329, t330, t331, t332, t333⟩, A1580, H⟩ := H
                      replace H : (if t329 = x264003_16 then (if t330 = x264002_16 then (usufructlaw04_FieldTakes.l0 kj16 l1 (wrap64 (x7_2 + 1)) t258 t331 t332 t333 x264000_16 x264001_16 x264002_16 x264003_16 x264004_16 x264005_16 x264006_16) else (some false)) else (some false)) = some r := H
                      have A158 := ak_ A1580
                      clear A1580
                      by_cases c159 : t329 = x264003_16
                      · rw [if_pos c159] at H
                        have c159b0 : (t329 == x264003_16) = true := beq_iff_eq.mpr c159
                        have c159b1 : (t329 != x264003_16) = false := bne_eq_false_iff_eq.mpr c159
                        clear c159
                        by_cases c160 : t330 = x264002_16
                        · rw [if_pos c160] at H
                          have c160b0 : (t330 == x264002_16) = true := beq_iff_eq.mpr c160
                          have c160b1 : (t330 != x264002_16) = false := bne_eq_false_iff_eq.mpr c160
                          clear c160
                          have H' := ak_ H
                          clear H
                          go_wp2_with (first | ((with_reducible refine gate_callee (f := 27) rfl ?_); refine goesL_ (some 118) rfl rfl Try.func27 (by kernel_rfl) rfl #[.pointer (some ⟨g262, 0, none⟩)] rfl (by simp only [mt_, mc_, mn_] <;> rfl) ?_; (with_reducible refine (field_Reader_Err.calls g262 t258 x263001_16 x263002_16 x263003_16 t329 t330 t331 t332 t333 w _ ?side1 ?side2 A158.out).mono ?_); (case side1 => repeat (first | (with_reducible first | exact HI262.out | apply i81a_ | apply i81n_ | apply i81d_ | refine IsS81.far ?_ NB262_263.out _ | refine IsS81.far ?_ NB262_265.out _) | exact HI262.out)); (case side2 => repeat (first | (with_reducible first | exact HB.out | apply pa_ | apply pd_ | apply p1_ | refine zs_ ?_ (IsS81.ge HI262.out) | refine zs_ ?_ GE263.out | refine zs_ ?_ GE265.out) | exact HB.out)); rintro e w161 ⟨rfl, hi, hb, hk⟩; refine ⟨_, rfl, ?_⟩; have n0_ := ak_ (KeepBut.blk hk (g' := gb263) (o := .cells #[.string x264000_16, .int .i64 x264001_16, .int .i64 x264002_16, .int .i64 x264003_16, .int .i64 x264004_16, .string x264005_16, .bool x264006_16] 40 (0, 0)) (by (with_reducible repeat (first | apply zn_ | apply zd_ | apply za_)); exact BK263.out) NB263_262.out (by simp)); have n1_ := ak_ (KeepBut.blk hk (g' := gb265) (o := .cells #[.int .i64 ((rd_T29 l1 x7_2).f0), .int .i64 ((rd_T29 l1 x7_2).f1), .int .i64 ((rd_T29 l1 x7_2).f2), .string ((rd_T29 l1 x7_2).f3), .bool ((rd_T29 l1 x7_2).f4)] 29 (0, 0)) (by (with_reducible repeat (first | apply zn_ | apply zd_ | apply za_)); exact BK265.out) NB265_262.out (by simp)); have n2_ := ak_ (hb); have n3_ := ak_ (hi); clear BK263; clear BK265; clear HB; clear HI262; have BK263 := n0_; have BK265 := n1_; have HB := n2_; have HI262 := n3_; clear n0_ n1_ n2_ n3_; (try clear hb hk hi); have hnb162 := NB263_265.out; have hnc162 := NB265_263.out; have hnb163 := NB263_262.out; have hnc163 := NB262_263.out; have hcz164_0 : w161.cell? ⟨gb263, 0, none⟩ = some (.string x264000_16) := (zc_ BK263.out 0).trans rfl; have hcz164_1 : w161.cell? ⟨gb263, 1, none⟩ = some (.int .i64 x264001_16) := (zc_ BK263.out 1).trans rfl; have hcz164_2 : w161.cell? ⟨gb263, 2, none⟩ = some (.int .i64 x264002_16) := (zc_ BK263.out 2).trans rfl; have hcz164_3 : w161.cell? ⟨gb263, 3, none⟩ = some (.int .i64 x264003_16) := (zc_ BK263.out 3).trans rfl; have hcz164_4 : w161.cell? ⟨gb263, 4, none⟩ = some (.int .i64 x264004_16) := (zc_ BK263.out 4).trans rfl; have hcz164_5 : w161.cell? ⟨gb263, 5, none⟩ = some (.string x264005_16) := (zc_ BK263.out 5).trans rfl; have hcz164_6 : w161.cell? ⟨gb263, 6, none⟩ = some (.bool x264006_16) := (zc_ BK263.out 6).trans rfl; have hfz164_0 := zf_ BK263.out 0; have hfz164_1 := zf_ BK263.out 1; have hfz164_2 := zf_ BK263.out 2; have hfz164_3 := zf_ BK263.out 3; have hfz164_4 := zf_ BK263.out 4; have hfz164_5 := zf_ BK263.out 5; have hfz164_6 := zf_ BK263.out 6))
                          go_roundg kj16
                          case measure => have := HJ4.out; have := HK2.out; have := HJ16.out; omega
                          case rel => exact ⟨(wrap64 (x7_2 + 1)), (t331), (t332), (t333), (x264000_16), (x264001_16), (x264002_16), (x264003_16), (x264004_16), (x264005_16), (x264006_16), (by first | rfl | (simp; done) | (simp [*]; done)), H', ⟨by have := HJ4.out; have := HK2.out; have := HJ16.out; omega⟩, ⟨by (with_reducible repeat (first | apply zn_ | apply zd_ | apply za_)); exact BK263.out⟩, ⟨by repeat (first | (with_reducible first | exact HI262.out | apply i81a_ | apply i81n_ | apply i81d_ | refine IsS81.far ?_ NB262_263.out _ | refine IsS81.far ?_ NB262_265.out _) | exact HI262.out)⟩, ⟨by repeat (first | (with_reducible first | exact HB.out | apply pa_ | apply pd_ | apply p1_ | refine zs_ ?_ (IsS81.ge HI262.out) | refine zs_ ?_ GE263.out | refine zs_ ?_ GE265.out) | exact HB.out)⟩⟩
                        · rw [if_neg c160] at H
                          have c160b0 : (t330 == x264002_16) = false := beq_eq_false_iff_ne.mpr c160
                          have c160b1 : (t330 != x264002_16) = true := bne_iff_ne.mpr c160
                          obtain rfl := Option.some.inj H
                          go_wp2_with (first | ((with_reducible refine gate_callee (f := 27) rfl ?_); refine goesL_ (some 118) rfl rfl Try.func27 (by kernel_rfl) rfl #[.pointer (some ⟨g262, 0, none⟩)] rfl (by simp only [mt_, mc_, mn_] <;> rfl) ?_; (with_reducible refine (field_Reader_Err.calls g262 t258 x263001_16 x263002_16 x263003_16 t329 t330 t331 t332 t333 w _ ?side1 ?side2 A158.out).mono ?_); (case side1 => repeat (first | (with_reducible first | exact HI262.out | apply i81a_ | apply i81n_ | apply i81d_ | refine IsS81.far ?_ NB262_263.out _ | refine IsS81.far ?_ NB262_265.out _) | exact HI262.out)); (case side2 => repeat (first | (with_reducible first | exact HB.out | apply pa_ | apply pd_ | apply p1_ | refine zs_ ?_ (IsS81.ge HI262.out) | refine zs_ ?_ GE263.out | refine zs_ ?_ GE265.out) | exact HB.out)); rintro e w165 ⟨rfl, hi, hb, hk⟩; refine ⟨_, rfl, ?_⟩; have n0_ := ak_ (KeepBut.blk hk (g' := gb263) (o := .cells #[.string x264000_16, .int .i64 x264001_16, .int .i64 x264002_16, .int .i64 x264003_16, .int .i64 x264004_16, .string x264005_16, .bool x264006_16] 40 (0, 0)) (by (with_reducible repeat (first | apply zn_ | apply zd_ | apply za_)); exact BK263.out) NB263_262.out (by simp)); have n1_ := ak_ (KeepBut.blk hk (g' := gb265) (o := .cells #[.int .i64 ((rd_T29 l1 x7_2).f0), .int .i64 ((rd_T29 l1 x7_2).f1), .int .i64 ((rd_T29 l1 x7_2).f2), .string ((rd_T29 l1 x7_2).f3), .bool ((rd_T29 l1 x7_2).f4)] 29 (0, 0)) (by (with_reducible repeat (first | apply zn_ | apply zd_ | apply za_)); exact BK265.out) NB265_262.out (by simp)); have n2_ := ak_ (hb); have n3_ := ak_ (hi); clear BK263; clear BK265; clear HB; clear HI262; have BK263 := n0_; have BK265 := n1_; have HB := n2_; have HI262 := n3_; clear n0_ n1_ n2_ n3_; (try clear hb hk hi); have hnb166 := NB263_265.out; have hnc166 := NB265_263.out; have hnb167 := NB263_262.out; have hnc167 := NB262_263.out; have hcz168_0 : w165.cell? ⟨gb263, 0, none⟩ = some (.string x264000_16) := (zc_ BK263.out 0).trans rfl; have hcz168_1 : w165.cell? ⟨gb263, 1, none⟩ = some (.int .i64 x264001_16) := (zc_ BK263.out 1).trans rfl; have hcz168_2 : w165.cell? ⟨gb263, 2, none⟩ = some (.int .i64 x264002_16) := (zc_ BK263.out 2).trans rfl; have hcz168_3 : w165.cell? ⟨gb263, 3, none⟩ = some (.int .i64 x264003_16) := (zc_ BK263.out 3).trans rfl; have hcz168_4 : w165.cell? ⟨gb263, 4, none⟩ = some (.int .i64 x264004_16) := (zc_ BK263.out 4).trans rfl; have hcz168_5 : w165.cell? ⟨gb263, 5, none⟩ = some (.string x264005_16) := (zc_ BK263.out 5).trans rfl; have hcz168_6 : w165.cell? ⟨gb263, 6, none⟩ = some (.bool x264006_16) := (zc_ BK263.out 6).trans rfl; have hfz168_0 := zf_ BK263.out 0; have hfz168_1 := zf_ BK263.out 1; have hfz168_2 := zf_ BK263.out 2; have hfz168_3 := zf_ BK263.out 3; have hfz168_4 := zf_ BK263.out 4; have hfz168_5 := zf_ BK263.out 5; have hfz168_6 := zf_ BK263.out 6))
                          go_ret
                          exact ⟨by first | rfl | (simp [errW_none, errW_some] <;> rfl) | (simp [*, errW_none, errW_some] <;> rfl), by first | (refine ps_ HBW0.out ?_; (repeat (first | (with_reducible first | exact HB.out | apply pa_ | apply pd_ | apply p1_ | refine zs_ ?_ (IsS81.ge HI262.out) | refine zs_ ?_ GE263.out | refine zs_ ?_ GE265.out) | exact HB.out)); done) | (repeat (first | (with_reducible first | exact HB.out | apply pa_ | apply pd_ | apply p1_ | refine zs_ ?_ (IsS81.ge HI262.out) | refine zs_ ?_ GE263.out | refine zs_ ?_ GE265.out) | exact HB.out))⟩
                      · rw [if_neg c159] at H
                        have c159b0 : (t329 == x264003_16) = false := beq_eq_false_iff_ne.mpr c159
                        have c159b1 : (t329 != x264003_16) = true := bne_iff_ne.mpr c159
                        obtain rfl := Option.some.inj H
                        go_wp2_with (first | ((with_reducible refine gate_callee (f := 27) rfl ?_); refine goesL_ (some 118) rfl rfl Try.func27 (by kernel_rfl) rfl #[.pointer (some ⟨g262, 0, none⟩)] rfl (by simp only [mt_, mc_, mn_] <;> rfl) ?_; (with_reducible refine (field_Reader_Err.calls g262 t258 x263001_16 x263002_16 x263003_16 t329 t330 t331 t332 t333 w _ ?side1 ?side2 A158.out).mono ?_); (case side1 => repeat (first | (with_reducible first | exact HI262.out | apply i81a_ | apply i81n_ | apply i81d_ | refine IsS81.far ?_ NB262_263.out _ | refine IsS81.far ?_ NB262_265.out _) | exact HI262.out)); (case side2 => repeat (first | (with_reducible first | exact HB.out | apply pa_ | apply pd_ | apply p1_ | refine zs_ ?_ (IsS81.ge HI262.out) | refine zs_ ?_ GE263.out | refine zs_ ?_ GE265.out) | exact HB.out)); rintro e w169 ⟨rfl, hi, hb, hk⟩; refine ⟨_, rfl, ?_⟩; have n0_ := ak_ (KeepBut.blk hk (g' := gb263) (o := .cells #[.string x264000_16, .int .i64 x264001_16, .int .i64 x264002_16, .int .i64 x264003_16, .int .i64 x264004_16, .string x264005_16, .bool x264006_16] 40 (0, 0)) (by (with_reducible repeat (first | apply zn_ | apply zd_ | apply za_)); exact BK263.out) NB263_262.out (by simp)); have n1_ := ak_ (KeepBut.blk hk (g' := gb265) (o := .cells #[.int .i64 ((rd_T29 l1 x7_2).f0), .int .i64 ((rd_T29 l1 x7_2).f1), .int .i64 ((rd_T29 l1 x7_2).f2), .string ((rd_T29 l1 x7_2).f3), .bool ((rd_T29 l1 x7_2).f4)] 29 (0, 0)) (by (with_reducible repeat (first | apply zn_ | apply zd_ | apply za_)); exact BK265.out) NB265_262.out (by simp)); have n2_ := ak_ (hb); have n3_ := ak_ (hi); clear BK263; clear BK265; clear HB; clear HI262; have BK263 := n0_; have BK265 := n1_; have HB := n2_; have HI262 := n3_; clear n0_ n1_ n2_ n3_; (try clear hb hk hi); have hnb170 := NB263_265.out; have hnc170 := NB265_263.out; have hnb171 := NB263_262.out; have hnc171 := NB262_263.out; have hcz172_0 : w169.cell? ⟨gb263, 0, none⟩ = some (.string x264000_16) := (zc_ BK263.out 0).trans rfl; have hcz172_1 : w169.cell? ⟨gb263, 1, none⟩ = some (.int .i64 x264001_16) := (zc_ BK263.out 1).trans rfl; have hcz172_2 : w169.cell? ⟨gb263, 2, none⟩ = some (.int .i64 x264002_16) := (zc_ BK263.out 2).trans rfl; have hcz172_3 : w169.cell? ⟨gb263, 3, none⟩ = some (.int .i64 x264003_16) := (zc_ BK263.out 3).trans rfl; have hcz172_4 : w169.cell? ⟨gb263, 4, none⟩ = some (.int .i64 x264004_16) := (zc_ BK263.out 4).trans rfl; have hcz172_5 : w169.cell? ⟨gb263, 5, none⟩ = some (.string x264005_16) := (zc_ BK263.out 5).trans rfl; have hcz172_6 : w169.cell? ⟨gb263, 6, none⟩ = some (.bool x264006_16) := (zc_ BK263.out 6).trans rfl; have hfz172_0 := zf_ BK263.out 0; have hfz172_1 := zf_ BK263.out 1; have hfz172_2 := zf_ BK263.out 2; have hfz172_3 := zf_ BK263.out 3; have hfz172_4 := zf_ BK263.out 4; have hfz172_5 := zf_ BK263.out 5; have hfz172_6 := zf_ BK263.out 6))
                        go_ret
                        exact ⟨by first | rfl | (simp [errW_none, errW_some] <;> rfl) | (simp [*, errW_none, errW_some] <;> rfl), by first | (refine ps_ HBW0.out ?_; (repeat (first | (with_reducible first | exact HB.out | apply pa_ | apply pd_ | apply p1_ | refine zs_ ?_ (IsS81.ge HI262.out) | refine zs_ ?_ GE263.out | refine zs_ ?_ GE265.out) | exact HB.out)); done) | (repeat (first | (with_reducible first | exact HB.out | apply pa_ | apply pd_ | apply p1_ | refine zs_ ?_ (IsS81.ge HI262.out) | refine zs_ ?_ GE263.out | refine zs_ ?_ GE265.out) | exact HB.out))⟩
                · rw [if_neg c16] at H
                  exact absurd H (by simp)
              · rw [if_neg c15] at H
                have c15b0 : decide (x7_2 < (l1.length : Int)) = false := decide_eq_false c15
                clear c15
                obtain rfl := Option.some.inj H
                go_wp2
                go_ret
                exact ⟨by first | rfl | (simp [errW_none, errW_some] <;> rfl) | (simp [*, errW_none, errW_some] <;> rfl), by first | (refine ps_ HBW0.out ?_; (repeat (first | (with_reducible first | exact HB.out | apply pa_ | apply pd_ | apply p1_ | refine zs_ ?_ (IsS81.ge HI262.out) | refine zs_ ?_ GE263.out) | exact HB.out)); done) | (repeat (first | (with_reducible first | exact HB.out | apply pa_ | apply pd_ | apply p1_ | refine zs_ ?_ (IsS81.ge HI262.out) | refine zs_ ?_ GE263.out) | exact HB.out))⟩
  · replace c4 := Bool.eq_false_iff.mpr c4
    subst c4
    have H1 : (some false) = some r := by rw [if_neg (show ¬ (false = true) by decide)] at H; exact H
    clear H
    have H := H1
    clear H1
    obtain rfl := Option.some.inj H
    go_enter Try.func4, Try.ntmps4
    go_wp2_with (first | ((with_reducible refine gate_callee (f := 10) rfl ?_); refine goesL_ (some 19) rfl rfl Try.func10 (by kernel_rfl) rfl #[] rfl (by simp only [mt_, mc_, mn_] <;> rfl) ?_; (with_reducible refine (usufructlaw04_awake.calls  false _ A3.out).mono ?_); rintro e w173 ⟨rfl, hb⟩; refine ⟨_, rfl, ?_⟩; have n0_ := ak_ (ps_ (by repeat (first | (with_reducible first | exact HB.out | apply pa_ | apply pd_ | apply p1_) | exact HB.out)) hb); clear HB; have HB := n0_; clear n0_; (try clear hb hk hi)))
    go_ret
    exact ⟨by first | rfl | (simp [errW_none, errW_some] <;> rfl) | (simp [*, errW_none, errW_some] <;> rfl), by first | (refine ps_ HBW0.out ?_; (repeat (first | (with_reducible first | exact HB.out | apply pa_ | apply pd_ | apply p1_) | exact HB.out)); done) | (repeat (first | (with_reducible first | exact HB.out | apply pa_ | apply pd_ | apply p1_) | exact HB.out))⟩

end Go.Proofs.Ytdamiipeijnpnaa.Q
