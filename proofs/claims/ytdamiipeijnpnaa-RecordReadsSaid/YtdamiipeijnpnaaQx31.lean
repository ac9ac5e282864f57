-- written for this claim by a program of the session
import Derived.Test.YtdamiipeijnpnaaQx0
import Derived.Test.YtdamiipeijnpnaaQx23
import Derived.Test.YtdamiipeijnpnaaQx29
import Derived.Test.YtdamiipeijnpnaaQx30
import Derived.Test.YtdamiipeijnpnaaGAwakeRec
import Derived.Test.YtdamiipeijnpnaaGRecAll
import Derived.Test.YtdamiipeijnpnaaGRefGet
namespace Go.Proofs.Ytdamiipeijnpnaa.Q
open Go.RowKit Go.Proofs.YtdamiipeijnpnaaW.PrintWords Go.Proofs.YtdamiipeijnpnaaW.PrintLast Go.Proofs.YtdamiipeijnpnaaW.PrintMore
attribute [local go_sem] max2_int min2_int max_two min_two max_three min_three max_four min_four   -- for this text's walks alone
set_option linter.unusedVariables false
set_option linter.unusedSimpArgs false

/-! ### usufructlaw06_RecordReads: function 7 -/
mutual
def usufructlaw06_RecordReads.j0 : Nat → List Int → Int → List Int → Int → Int → Bool → ByteArray → Int → Int → Option (Bool)
  | 0, _, _, _, _, _, _, _, _, _ => none
  | k + 1, x0, x1, x5, x6, x7, x35, x448000, x448001, x448002 => if x35 = true then (if 0 ≤ x1 then (if x1 ≤ (x0.length : Int) then ((usufructref06_Get.f k (strOfNums (x0.drop (x1 : Int).toNat))).bind fun bt449 => (usufructlaw06_RecordReads.j1 k x0 x5 x6 x7 bt449.1 bt449.2.1 bt449.2.2)) else (none)) else (none)) else (usufructlaw06_RecordReads.j1 k x0 x5 x6 x7 x448000 x448001 x448002)
def usufructlaw06_RecordReads.j1 : Nat → List Int → List Int → Int → Int → ByteArray → Int → Int → Option (Bool)
  | 0, _, _, _, _, _, _, _ => none
  | k + 1, x0, x5, x6, x7, x448000, x448001, x448002 => (record_All.f k x0).bind fun bt452 => ((usufructref06_All.f k (strOfNums x0)).bind fun bt457 => (if (strOfNums x5).toList = x448000.toList then (if x6 = x448001 then (if x7 = x448002 then ((usufructlaw06_same.f k bt452.1 bt457.1).bind fun t462 => (if t462 = true then (if bt452.2.1 = bt457.2.1 then (some (bt452.2.2 == bt457.2.2)) else (some false)) else (some false))) else (some false)) else (some false)) else (some false)))
end
def usufructlaw06_RecordReads.f (k : Nat) (l0 : List Int) (a1 : Int) : Option (Bool) := (usufructlaw06_awake.f).bind fun t441 => (if t441 = true then (if (l0.length : Int) > 300 then (some true) else ((record_Get.f k l0 a1).bind fun bt442 => (if a1 ≥ 0 then (usufructlaw06_RecordReads.j0 k l0 a1 bt442.1 bt442.2.1 bt442.2.2 (decide (a1 ≤ (l0.length : Int))) (⟨#[]⟩ : ByteArray) 0 1) else (usufructlaw06_RecordReads.j0 k l0 a1 bt442.1 bt442.2.1 bt442.2.2 false (⟨#[]⟩ : ByteArray) 0 1)))) else (some false))
theorem usufructlaw06_RecordReads.mono_l : ∀ k, (∀ y0 y1 y2 y3 y4 y5 y6 y7 y8, LeO (usufructlaw06_RecordReads.j0 k y0 y1 y2 y3 y4 y5 y6 y7 y8) (usufructlaw06_RecordReads.j0 (k + 1) y0 y1 y2 y3 y4 y5 y6 y7 y8)) ∧ (∀ y0 y1 y2 y3 y4 y5 y6, LeO (usufructlaw06_RecordReads.j1 k y0 y1 y2 y3 y4 y5 y6) (usufructlaw06_RecordReads.j1 (k + 1) y0 y1 y2 y3 y4 y5 y6))
  | 0 => ⟨fun _ _ _ _ _ _ _ _ _ r h => by simp [usufructlaw06_RecordReads.j0] at h, fun _ _ _ _ _ _ _ r h => by simp [usufructlaw06_RecordReads.j1] at h⟩
  | k + 1 => by
    obtain ⟨ih0, ih1⟩ := usufructlaw06_RecordReads.mono_l k
    refine ⟨?_, ?_⟩
    · intro y0 y1 y2 y3 y4 y5 y6 y7 y8
      unfold usufructlaw06_RecordReads.j0
      repeat' first
      | (with_reducible exact ih0 _ _ _ _ _ _ _ _ _)
      | (with_reducible exact ih1 _ _ _ _ _ _ _)
      | (with_reducible exact record_All.mono _ _)
      | (with_reducible exact record_Get.mono _ _ _)
      | (with_reducible exact usufructlaw06_same.mono _ _ _)
      | (with_reducible exact usufructref06_All.mono _ _)
      | (with_reducible exact usufructref06_Get.mono _ _)
      | (with_reducible exact LeO.refl _)
      | (with_reducible exact LeO.none _)
      | (with_reducible refine LeO.ite ?_ ?_)
      | (with_reducible refine LeO.bind ?_ (fun _ => ?_))
      | exact ih0 _ _ _ _ _ _ _ _ _
      | exact ih1 _ _ _ _ _ _ _
      | exact record_All.mono _ _
      | exact record_Get.mono _ _ _
      | exact usufructlaw06_same.mono _ _ _
      | exact usufructref06_All.mono _ _
      | exact usufructref06_Get.mono _ _
      | exact LeO.none _
      | refine LeO.ite ?_ ?_
      | refine LeO.bind ?_ (fun _ => ?_)
    · intro y0 y1 y2 y3 y4 y5 y6
      unfold usufructlaw06_RecordReads.j1
      repeat' first
      | (with_reducible exact ih0 _ _ _ _ _ _ _ _ _)
      | (with_reducible exact ih1 _ _ _ _ _ _ _)
      | (with_reducible exact record_All.mono _ _)
      | (with_reducible exact record_Get.mono _ _ _)
      | (with_reducible exact usufructlaw06_same.mono _ _ _)
      | (with_reducible exact usufructref06_All.mono _ _)
      | (with_reducible exact usufructref06_Get.mono _ _)
      | (with_reducible exact LeO.refl _)
      | (with_reducible exact LeO.none _)
      | (with_reducible refine LeO.ite ?_ ?_)
      | (with_reducible refine LeO.bind ?_ (fun _ => ?_))
      | exact ih0 _ _ _ _ _ _ _ _ _
      | exact ih1 _ _ _ _ _ _ _
      | exact record_All.mono _ _
      | exact record_Get.mono _ _ _
      | exact usufructlaw06_same.mono _ _ _
      | exact usufructref06_All.mono _ _
      | exact usufructref06_Get.mono _ _
      | exact LeO.none _
      | refine LeO.ite ?_ ?_
      | refine LeO.bind ?_ (fun _ => ?_)
theorem usufructlaw06_RecordReads.mono : ∀ a0 a1 k, LeO (usufructlaw06_RecordReads.f k a0 a1) (usufructlaw06_RecordReads.f (k + 1) a0 a1) := by
  intro a0 a1 k
  obtain ⟨ih0, ih1⟩ := usufructlaw06_RecordReads.mono_l k
  unfold usufructlaw06_RecordReads.f
  repeat' first
      | (with_reducible exact ih0 _ _ _ _ _ _ _ _ _)
      | (with_reducible exact ih1 _ _ _ _ _ _ _)
      | (with_reducible exact record_All.mono _ _)
      | (with_reducible exact record_Get.mono _ _ _)
      | (with_reducible exact usufructlaw06_same.mono _ _ _)
      | (with_reducible exact usufructref06_All.mono _ _)
      | (with_reducible exact usufructref06_Get.mono _ _)
      | (with_reducible exact LeO.refl _)
      | (with_reducible exact LeO.none _)
      | (with_reducible refine LeO.ite ?_ ?_)
      | (with_reducible refine LeO.bind ?_ (fun _ => ?_))
      | exact ih0 _ _ _ _ _ _ _ _ _
      | exact ih1 _ _ _ _ _ _ _
      | exact record_All.mono _ _
      | exact record_Get.mono _ _ _
      | exact usufructlaw06_same.mono _ _ _
      | exact usufructref06_All.mono _ _
      | exact usufructref06_Get.mono _ _
      | exact LeO.none _
      | refine LeO.ite ?_ ?_
      | refine LeO.bind ?_ (fun _ => ?_)
namespace usufructlaw06_RecordReads
theorem mt_ {α β : Type} {f : α → β} {l : List α} : l.toArray.map f = (l.map f).toArray := List.map_toArray
theorem mc_ {α β : Type} {f : α → β} {a : α} {l : List α} : (a :: l).map f = f a :: l.map f := rfl
theorem mn_ {α β : Type} {f : α → β} : ([] : List α).map f = [] := rfl
abbrev zn_ := @blk_drewN
abbrev zd_ := @blk_drew
abbrev za_ := @blk_alloc
abbrev zf_ := @blk_frozen
abbrev zc_ := @blk_cell
abbrev zs_ := @below_set
abbrev zr_ := @blk_far
abbrev zp_ := @blk_put
abbrev pd_ := @pw_below_drewN
abbrev p1_ := @below_drew1
abbrev pa_ := @below_alloc
abbrev ak_ := @Aside0.mk
abbrev bl_ := @World.block_lt_of_cell?
abbrev ps_ := @below_step
def b_ (n k : Nat) : Array Bool := ((List.range n).map fun i => k.testBit i).toArray
theorem sa_ {α : Type} {l : List α} {i : Nat} {a : α} : l.toArray.setIfInBounds i a = (l.set i a).toArray := List.setIfInBounds_toArray l i a
theorem sz_ {α : Type} {a b : α} {l : List α} : (a :: l).set 0 b = b :: l := rfl
theorem ss_ {α : Type} {a b : α} {l : List α} {n : Nat} : (a :: l).set (n + 1) b = a :: l.set n b := rfl
end usufructlaw06_RecordReads
open usufructlaw06_RecordReads in
set_option maxHeartbeats 8000000 in
set_option maxRecDepth 100000 in
theorem usufructlaw06_RecordReads.calls (k : Nat) (A0 : Option Addr) (c0 : Nat) (l0 : List Int) (a1 : Int) (r : Bool) (w : World) (hr0 : Kd.C (Kd.int .u8) w A0 l0.length l0) (hc0 : l0.length ≤ c0) (h : usufructlaw06_RecordReads.f k l0 a1 = some r) (hT_ : r = true) :
    Calls Try.prog 7 #[.slice A0 l0.length c0, .int .i64 a1] w fun e w' => e = .returned (.bool r) ∧ Below w.heap.size w w' := by
  have HTR_ := ak_ hT_
  clear hT_
  have hu61 := Try.underlying61
  have HR0 := ak_ hr0
  have HC0 := ak_ hc0
  clear hr0 hc0
  have HB := ak_ (Below.refl w.heap.size w)
  have H : ((usufructlaw06_awake.f).bind fun t441 => (if t441 = true then (if (l0.length : Int) > 300 then (some true) else ((record_Get.f k l0 a1).bind fun bt442 => (if a1 ≥ 0 then (usufructlaw06_RecordReads.j0 k l0 a1 bt442.1 bt442.2.1 bt442.2.2 (decide (a1 ≤ (l0.length : Int))) (⟨#[]⟩ : ByteArray) 0 1) else (usufructlaw06_RecordReads.j0 k l0 a1 bt442.1 bt442.2.1 bt442.2.2 false (⟨#[]⟩ : ByteArray) 0 1)))) else (some false))) = some r := h
  clear h
  replace H := Option.bind_eq_some_iff.mp H
  obtain ⟨t441, A30, H⟩ := H
  replace H : (if t441 = true then (if (l0.length : Int) > 300 then (some true) else ((record_Get.f k l0 a1).bind fun bt442 => (if a1 ≥ 0 then (usufructlaw06_RecordReads.j0 k l0 a1 bt442.1 bt442.2.1 bt442.2.2 (decide (a1 ≤ (l0.length : Int))) (⟨#[]⟩ : ByteArray) 0 1) else (usufructlaw06_RecordReads.j0 k l0 a1 bt442.1 bt442.2.1 bt442.2.2 false (⟨#[]⟩ : ByteArray) 0 1)))) else (some false)) = some r := H
  have A3 := ak_ A30
  clear A30
  by_cases c4 : t441 = true
  · subst c4
    have H1 : (if (l0.length : Int) > 300 then (some true) else ((record_Get.f k l0 a1).bind fun bt442 => (if a1 ≥ 0 then (usufructlaw06_RecordReads.j0 k l0 a1 bt442.1 bt442.2.1 bt442.2.2 (decide (a1 ≤ (l0.length : Int))) (⟨#[]⟩ : ByteArray) 0 1) else (usufructlaw06_RecordReads.j0 k l0 a1 bt442.1 bt442.2.1 bt442.2.2 false (⟨#[]⟩ : ByteArray) 0 1)))) = some r := by rw [if_pos rfl] at H; exact H
    clear H
    have H := H1
    clear H1
    by_cases c5 : (l0.length : Int) > 300
    · rw [if_pos c5] at H
      have c5b0 : decide (300 < (l0.length : Int)) = true := decide_eq_true c5
      have c5b1 : decide (300 < l0.length) = true := decide_eq_true (by omega)
      clear c5
      obtain rfl := Option.some.inj H
      go_enter Try.func7, Try.ntmps7
      go_wp2_with (first | ((with_reducible refine gate_callee (f := 28) rfl ?_); refine goesL_ (some 15) rfl rfl Try.func28 (by kernel_rfl) rfl #[] rfl (by simp only [mt_, mc_, mn_] <;> rfl) ?_; (with_reducible refine (usufructlaw06_awake.calls  true _ A3.out).mono ?_); rintro e w6 ⟨rfl, hb⟩; refine ⟨_, rfl, ?_⟩; have n0_ := ak_ (ps_ (by repeat (first | (with_reducible first | exact HB.out | apply pa_ | apply pd_ | apply p1_) | exact HB.out)) hb); clear HB; have HB := n0_; clear n0_; (try clear hb hk hi)))
      go_ret
      exact ⟨by first | rfl | (simp [errW_none, errW_some] <;> rfl) | (simp [*, errW_none, errW_some] <;> rfl), by repeat (first | (with_reducible first | exact HB.out | apply pa_ | apply pd_ | apply p1_) | exact HB.out)⟩
    rw [if_neg c5] at H
    have c5b0 : decide (300 < (l0.length : Int)) = false := decide_eq_false c5
    have c5b1 : decide (300 < l0.length) = false := decide_eq_false (by omega)
    clear c5
    replace H := Option.bind_eq_some_iff.mp H
    obtain ⟨⟨t442, t443, t444⟩, A70, H⟩ := H
    replace H : (if a1 ≥ 0 then (usufructlaw06_RecordReads.j0 k l0 a1 t442 t443 t444 (decide (a1 ≤ (l0.length : Int))) (⟨#[]⟩ : ByteArray) 0 1) else (usufructlaw06_RecordReads.j0 k l0 a1 t442 t443 t444 false (⟨#[]⟩ : ByteArray) 0 1)) = some r := H
    have A7 := ak_ A70
    clear A70
    have HC8 := ak_ H
    clear H
    go_enter Try.func7, Try.ntmps7
    go_upto_region 7 with (first | ((with_reducible refine gate_callee (f := 28) rfl ?_); refine goesL_ (some 15) rfl rfl Try.func28 (by kernel_rfl) rfl #[] rfl (by simp only [mt_, mc_, mn_] <;> rfl) ?_; (with_reducible refine (usufructlaw06_awake.calls  true _ A3.out).mono ?_); rintro e w9 ⟨rfl, hb⟩; refine ⟨_, rfl, ?_⟩; have n0_ := ak_ (ps_ (by repeat (first | (with_reducible first | exact HB.out | apply pa_ | apply pd_ | apply p1_) | exact HB.out)) hb); clear HB; have HB := n0_; clear n0_; (try clear hb hk hi)) | ((with_reducible refine gate_callee (f := 31) rfl ?_); refine goesL_ (some 23) rfl rfl Try.func31 (by kernel_rfl) rfl #[.slice A0 l0.length c0, .int .i64 a1] rfl (by (try simp only [List.map_toArray, List.map_cons, List.map_nil]); first | done | rfl | (simp only [List.length_drop, List.length_take]; rfl)) ?_; (with_reducible refine (record_Get.calls k _ _ l0 a1 t442 t443 t444 _ ?side1 ?side2 A7.out).mono ?_); (case side1 => repeat (first | exact (Kd.C_below HR0.out HB.out) | (with_reducible refine Kd.C_alloc ?_ _) | (with_reducible refine Kd.C_drewN ?_ _) | (with_reducible refine Kd.C_drew ?_))); (case side2 => exact HC0.out); rintro e w10 ⟨v445, rfl, ho0, hb⟩; refine ⟨_, rfl, ?_⟩; have n0_ := ak_ (Kd.R_lower ho0 (below_size (by repeat (first | (with_reducible first | exact HB.out | apply pa_ | apply pd_ | apply p1_) | exact HB.out)))); have n1_ := ak_ (ps_ (by repeat (first | (with_reducible first | exact HB.out | apply pa_ | apply pd_ | apply p1_) | exact HB.out)) hb); clear HB; have HO446 := n0_; have HB := n1_; clear n0_ n1_; (try clear hb hk hi); (try clear ho0)) | ((with_reducible refine gate_dst (N := 8) rfl ?_); (try (refine gate_guard (by rfl) ?_; dsimp only)); refine box_event ?hg (N := 8) ?hd (cs := #[.string ⟨#[]⟩, .int .i64 0, .int .i64 0]) (t := 61) ?hr ?_; (case hd => rfl); (case hg => rfl); (case hr => first | (go_simp; done) | (go_simp; rfl)); intro gb447 hg w11 hbox hb; have n0_ := ak_ (Kd.R_below (by (with_reducible repeat (first | apply Kd.R_alloc | apply Kd.R_drewN | apply Kd.R_drew)); exact HO446.out) hb); have n1_ := ak_ (ps_ (by repeat (first | (with_reducible first | exact HB.out | apply pa_ | apply pd_ | apply p1_) | exact HB.out)) hb); have n2_ := ak_ (hbox); have n3_ := ak_ ((by rw [hg]; exact (below_size (by repeat (first | (with_reducible first | exact HB.out | apply pa_ | apply pd_ | apply p1_) | exact HB.out))) : w.heap.size ≤ gb447)); have n4_ := ak_ ((by rw [hg]; exact (below_size (by repeat (first | (with_reducible first | exact HB.out | apply pa_ | apply pd_ | apply p1_) | exact HB.out))) : w.heap.size ≤ gb447)); clear HO446; clear HB; have HO446 := n0_; have HB := n1_; have BK447 := n2_; have GW447 := n3_; have GE447 := n4_; clear n0_ n1_ n2_ n3_ n4_; clear hb hbox hg; have hcz12_0 : w11.cell? ⟨gb447, 0, none⟩ = some (.string ⟨#[]⟩) := (zc_ BK447.out 0).trans rfl; have hcz12_1 : w11.cell? ⟨gb447, 1, none⟩ = some (.int .i64 0) := (zc_ BK447.out 1).trans rfl; have hcz12_2 : w11.cell? ⟨gb447, 2, none⟩ = some (.int .i64 0) := (zc_ BK447.out 2).trans rfl; have hfz12_0 := zf_ BK447.out 0; have hfz12_1 := zf_ BK447.out 1; have hfz12_2 := zf_ BK447.out 2))
    (try simp only [Act.put, sa_, sz_, ss_])
    go_cut [35] (fun v35 wc => ∃ (kq : Nat) (x35_7 : Bool), v35 = .bool x35_7 ∧ Aside0 (usufructlaw06_RecordReads.j0 kq l0 a1 t442 t443 t444 x35_7 (⟨#[]⟩ : ByteArray) 0 1 = some r) ∧ Aside0 (kq ≤ k) ∧ Aside0 (Kd.R (Kd.int .u8) 5 wc w.heap.size (fun _ => True) v445 t442) ∧ Aside0 (wc.heap[gb447]? = some (.cells #[.string ⟨#[]⟩, .int .i64 0, .int .i64 1] 61 (0, 0))) ∧ Aside0 (Below w.heap.size w wc))
    case first =>
      have H := HC8.out
      clear HC8
      by_cases c13 : a1 ≥ 0
      · rw [if_pos c13] at H
        have c13b0 : decide (0 ≤ a1) = true := decide_eq_true c13
        clear c13
        (first | rw [c13b0] | (simp only [i64_w, i32_w]; rw [c13b0]) | skip)
        have H' := ak_ H
        clear H
        go_wp2
        go_meet
        case rel => exact ⟨_, (decide (a1 ≤ (l0.length : Int))), (by first | rfl | (simp; done) | (simp [*]; done)), H', ⟨by first | omega | exact Nat.le_refl _⟩, ⟨by (with_reducible repeat (first | apply Kd.R_alloc | apply Kd.R_drewN | apply Kd.R_drew)); exact Kd.R_mono (Kd.R_far (p := ⟨gb447, 2, none⟩) (Kd.R_far (p := ⟨gb447, 1, none⟩) (Kd.R_far (p := ⟨gb447, 0, none⟩) (Kd.R_types HO446.out BK447.out (by decide)) (fun _ hk => hk.2) (.string ⟨#[]⟩)) (fun _ hk => hk.2) (.int .i64 0)) (fun _ hk => hk.2) (.int .i64 1)) (fun _ hk => trivial)⟩, ⟨by (with_reducible repeat (first | apply zn_ | apply zd_ | apply za_)); refine zp_ (cs := #[.string ⟨#[]⟩, .int .i64 0, .int .i64 0]) ?_ 2 _ rfl; (with_reducible repeat (first | apply zn_ | apply zd_ | apply za_)); refine zp_ (cs := #[.string ⟨#[]⟩, .int .i64 0, .int .i64 0]) ?_ 1 _ rfl; (with_reducible repeat (first | apply zn_ | apply zd_ | apply za_)); refine zp_ (cs := #[.string ⟨#[]⟩, .int .i64 0, .int .i64 0]) ?_ 0 _ rfl; (with_reducible repeat (first | apply zn_ | apply zd_ | apply za_)); exact BK447.out⟩, ⟨by repeat (first | (with_reducible first | exact HB.out | apply pa_ | apply pd_ | apply p1_ | refine zs_ ?_ GE447.out) | exact HB.out)⟩⟩
      rw [if_neg c13] at H
      have c13b0 : decide (0 ≤ a1) = false := decide_eq_false c13
      clear c13
      (first | rw [c13b0] | (simp only [i64_w, i32_w]; rw [c13b0]) | skip)
      have H' := ak_ H
      clear H
      go_wp2
      go_meet
      case rel => exact ⟨_, (false), (by first | rfl | (simp; done) | (simp [*]; done)), H', ⟨by first | omega | exact Nat.le_refl _⟩, ⟨by (with_reducible repeat (first | apply Kd.R_alloc | apply Kd.R_drewN | apply Kd.R_drew)); exact Kd.R_mono (Kd.R_far (p := ⟨gb447, 2, none⟩) (Kd.R_far (p := ⟨gb447, 1, none⟩) (Kd.R_far (p := ⟨gb447, 0, none⟩) (Kd.R_types HO446.out BK447.out (by decide)) (fun _ hk => hk.2) (.string ⟨#[]⟩)) (fun _ hk => hk.2) (.int .i64 0)) (fun _ hk => hk.2) (.int .i64 1)) (fun _ hk => trivial)⟩, ⟨by (with_reducible repeat (first | apply zn_ | apply zd_ | apply za_)); refine zp_ (cs := #[.string ⟨#[]⟩, .int .i64 0, .int .i64 0]) ?_ 2 _ rfl; (with_reducible repeat (first | apply zn_ | apply zd_ | apply za_)); refine zp_ (cs := #[.string ⟨#[]⟩, .int .i64 0, .int .i64 0]) ?_ 1 _ rfl; (with_reducible repeat (first | apply zn_ | apply zd_ | apply za_)); refine zp_ (cs := #[.string ⟨#[]⟩, .int .i64 0, .int .i64 0]) ?_ 0 _ rfl; (with_reducible repeat (first | apply zn_ | apply zd_ | apply za_)); exact BK447.out⟩, ⟨by repeat (first | (with_reducible first | exact HB.out | apply pa_ | apply pd_ | apply p1_ | refine zs_ ?_ GE447.out) | exact HB.out)⟩⟩
    case rest =>
      clear HC8
      try clear c1
      try clear c2
      try clear p2
      try clear c3
      try clear c4
      try clear c5
      try clear c5b0
      try clear c5b1
      try clear c7
      try clear c13
      try clear c13b0
      try clear hcz12_0
      try clear hcz12_1
      try clear hcz12_2
      try clear hfz12_0
      try clear hfz12_1
      try clear hfz12_2
      obtain ⟨kq, x35_7, rfl, HA, HJ7, HO_5, BK447, HB⟩ := hcut
      cases kq with
      | zero => exact absurd HA.out (by simp [usufructlaw06_RecordReads.j0])
      | succ kj7 =>
        have H := HA.out
        clear HA
        simp only [usufructlaw06_RecordReads.j0] at H
        have HC14 := ak_ H
        clear H
        go_upto_if 35 with (fail)
        go_cut [] (fun wc => ∃ (kq : Nat) (x448000_13 : ByteArray) (x448001_13 : Int) (x448002_13 : Int), Aside0 (usufructlaw06_RecordReads.j1 kq l0 t442 t443 t444 x448000_13 x448001_13 x448002_13 = some r) ∧ Aside0 (kq ≤ kj7) ∧ Aside0 (Kd.R (Kd.int .u8) 5 wc w.heap.size (fun _ => True) v445 t442) ∧ Aside0 (wc.heap[gb447]? = some (.cells #[.string x448000_13, .int .i64 x448001_13, .int .i64 x448002_13] 61 (0, 0))) ∧ Aside0 (Below w.heap.size w wc))
        case first =>
          have H := HC14.out
          clear HC14
          by_cases c15 : x35_7 = true
          · subst c15
            have H1 : (if 0 ≤ a1 then (if a1 ≤ (l0.length : Int) then ((usufructref06_Get.f kj7 (strOfNums (l0.drop (a1 : Int).toNat))).bind fun bt449 => (usufructlaw06_RecordReads.j1 kj7 l0 t442 t443 t444 bt449.1 bt449.2.1 bt449.2.2)) else (none)) else (none)) = some r := by rw [if_pos rfl] at H; exact H
            clear H
            have H := H1
            clear H1
            by_cases c16 : 0 ≤ a1
            · rw [if_pos c16] at H
              have c16b0 := eq_true c16
              have c16b1 : decide (0 ≤ a1) = true := decide_eq_true c16
              clear c16
              by_cases c17 : a1 ≤ (l0.length : Int)
              · rw [if_pos c17] at H
                have c17b0 := eq_true c17
                have c17b1 : decide (a1 ≤ (l0.length : Int)) = true := decide_eq_true c17
                clear c17
                replace H := Option.bind_eq_some_iff.mp H
                obtain ⟨⟨t449, t450, t451⟩, A180, H⟩ := H
                replace H : (usufructlaw06_RecordReads.j1 kj7 l0 t442 t443 t444 t449 t450 t451) = some r := H
                have A18 := ak_ A180
                clear A180
                have H' := ak_ H
                clear H
                obtain ⟨i019, hi019, _, hsz19, _⟩ := info_parts info5
                obtain ⟨A19, hcut19, hA19, hC19⟩ := print_drop_of (P := Try.prog) (Value.int .u8) 0 25 5 .i64 Try.underlying25 hi019 hsz19 A0 c0 l0 a1 (of_decide_eq_true (by assumption)) (of_decide_eq_true (by assumption)) HC0.out
                have HR448 := ak_ (Kd.C_of_reads (h1 := fun _ => rfl) (hA19 _ (Kd.reads_of_C HR0.out)))
                have HC448 := ak_ hC19
                clear hA19 hC19 hi019 hsz19
                have hcv20 := Kd.C_string (P := Try.prog) (A := A19) (c := (c0 - a1.toNat)) Try.underlying25 Try.underlying5 Try.underlying9 (Kd.C_below HR448.out HB.out)
                simp only [List.length_drop] at hcv20
                go_wp2_with (first | ((with_reducible refine gate_callee (f := 32) rfl ?_); refine goesL_ (some 40) rfl rfl Try.func32 (by kernel_rfl) rfl #[.string (strOfNums (l0.drop (a1 : Int).toNat))] rfl (by simp only [mt_, mc_, mn_] <;> rfl) ?_; (with_reducible refine (usufructref06_Get.calls kj7 (strOfNums (l0.drop (a1 : Int).toNat)) t449 t450 t451 _ A18.out).mono ?_); rintro e w21 ⟨rfl, hb⟩; refine ⟨_, rfl, ?_⟩; have n0_ := ak_ (Kd.R_below (by (with_reducible repeat (first | apply Kd.R_alloc | apply Kd.R_drewN | apply Kd.R_drew)); exact HO_5.out) hb); have n1_ := ak_ (blk_below (g := gb447) (o := .cells #[.string ⟨#[]⟩, .int .i64 0, .int .i64 1] 61 (0, 0)) (by (with_reducible repeat (first | apply zn_ | apply zd_ | apply za_)); exact BK447.out) hb); have n2_ := ak_ (ps_ (by repeat (first | (with_reducible first | exact HB.out | apply pa_ | apply pd_ | apply p1_ | refine zs_ ?_ GE447.out) | exact HB.out)) hb); clear HO_5; clear BK447; clear HB; have HO_5 := n0_; have BK447 := n1_; have HB := n2_; clear n0_ n1_ n2_; (try clear hb hk hi); have hcz22_0 : w21.cell? ⟨gb447, 0, none⟩ = some (.string ⟨#[]⟩) := (zc_ BK447.out 0).trans rfl; have hcz22_1 : w21.cell? ⟨gb447, 1, none⟩ = some (.int .i64 0) := (zc_ BK447.out 1).trans rfl; have hcz22_2 : w21.cell? ⟨gb447, 2, none⟩ = some (.int .i64 1) := (zc_ BK447.out 2).trans rfl; have hfz22_0 := zf_ BK447.out 0; have hfz22_1 := zf_ BK447.out 1; have hfz22_2 := zf_ BK447.out 2))
                go_meet
                case rel => exact ⟨_, (t449), (t450), (t451), H', ⟨by have := HJ7.out; first | omega | exact Nat.le_refl _⟩, ⟨by (with_reducible repeat (first | apply Kd.R_alloc | apply Kd.R_drewN | apply Kd.R_drew)); exact Kd.R_mono (Kd.R_far (p := ⟨gb447, 2, none⟩) (Kd.R_far (p := ⟨gb447, 1, none⟩) (Kd.R_far (p := ⟨gb447, 0, none⟩) (Kd.R_types HO_5.out BK447.out (by decide)) (fun _ hk => hk.2) (.string t449)) (fun _ hk => hk.2) (.int .i64 t450)) (fun _ hk => hk.2) (.int .i64 t451)) (fun _ hk => trivial)⟩, ⟨by (with_reducible repeat (first | apply zn_ | apply zd_ | apply za_)); refine zp_ (cs := #[.string t449, .int .i64 t450, .int .i64 1]) ?_ 2 _ rfl; (with_reducible repeat (first | apply zn_ | apply zd_ | apply za_)); refine zp_ (cs := #[.string t449, .int .i64 0, .int .i64 1]) ?_ 1 _ rfl; (with_reducible repeat (first | apply zn_ | apply zd_ | apply za_)); refine zp_ (cs := #[.string ⟨#[]⟩, .int .i64 0, .int .i64 1]) ?_ 0 _ rfl; (with_reducible repeat (first | apply zn_ | apply zd_ | apply za_)); exact BK447.out⟩, ⟨by repeat (first | (with_reducible first | exact HB.out | apply pa_ | apply pd_ | apply p1_ | refine zs_ ?_ GE447.out) | exact HB.out)⟩⟩
              rw [if_neg c17] at H
              exact absurd H (by simp)
            rw [if_neg c16] at H
            exact absurd H (by simp)
          replace c15 := Bool.eq_false_iff.mpr c15
          subst c15
          have H1 : (usufructlaw06_RecordReads.j1 kj7 l0 t442 t443 t444 (⟨#[]⟩ : ByteArray) 0 1) = some r := by rw [if_neg (show ¬ (false = true) by decide)] at H; exact H
          clear H
          have H := H1
          clear H1
          have H' := ak_ H
          clear H
          go_wp2
          go_meet
          case rel => exact ⟨_, ((⟨#[]⟩ : ByteArray)), (0), (1), H', ⟨by have := HJ7.out; first | omega | exact Nat.le_refl _⟩, ⟨by (with_reducible repeat (first | apply Kd.R_alloc | apply Kd.R_drewN | apply Kd.R_drew)); exact HO_5.out⟩, ⟨by (with_reducible repeat (first | apply zn_ | apply zd_ | apply za_)); exact BK447.out⟩, ⟨by repeat (first | (with_reducible first | exact HB.out | apply pa_ | apply pd_ | apply p1_ | refine zs_ ?_ GE447.out) | exact HB.out)⟩⟩
        case rest =>
          clear HC14
          try clear c1
          try clear c2
          try clear p2
          try clear hcv2
          try clear c3
          try clear c4
          try clear c5
          try clear c5b0
          try clear c5b1
          try clear c7
          try clear c13
          try clear c13b0
          try clear c15
          try clear c16
          try clear c16b0
          try clear c16b1
          try clear c17
          try clear c17b0
          try clear c17b1
          try clear hcv20
          try clear hcz12_0
          try clear hcz12_1
          try clear hcz12_2
          try clear hcz22_0
          try clear hcz22_1
          try clear hcz22_2
          try clear hfz12_0
          try clear hfz12_1
          try clear hfz12_2
          try clear hfz22_0
          try clear hfz22_1
          try clear hfz22_2
          try clear p2
          obtain ⟨kq, x448000_13, x448001_13, x448002_13, HA, HJ13, HO_5, BK447, HB⟩ := hcut
          cases kq with
          | zero => exact absurd HA.out (by simp [usufructlaw06_RecordReads.j1])
          | succ kj13 =>
            have H := HA.out
            clear HA
            simp only [usufructlaw06_RecordReads.j1] at H
            replace H := Option.bind_eq_some_iff.mp H
            obtain ⟨⟨t452, t453, t454⟩, A230, H⟩ := H
            replace H : ((usufructref06_All.f kj13 (strOfNums l0)).bind fun bt457 => (if (strOfNums t442).toList = x448000_13.toList then (if t443 = x448001_13 then (if t444 = x448002_13 then ((usufructlaw06_same.f kj13 t452 bt457.1).bind fun t462 => (if t462 = true then (if t453 = bt457.2.1 then (some (t454 == bt457.2.2)) else (some false)) else (some false))) else (some false)) else (some false)) else (some false))) = some r := H
            have A23 := ak_ A230
            clear A230
            replace H := Option.bind_eq_some_iff.mp H
            obtain ⟨⟨t457, t458, t459⟩, A240, H⟩ := H
            replace H : (if (strOfNums t442).toList = x448000_13.toList then (if t443 = x448001_13 then (if t444 = x448002_13 then ((usufructlaw06_same.f kj13 t452 t457).bind fun t462 => (if t462 = true then (if t453 = t458 then (some (t454 == t459)) else (some false)) else (some false))) else (some false)) else (some false)) else (some false)) = some r := H
            have A24 := ak_ A240
            clear A240
            by_cases c25 : (strOfNums t442).toList = x448000_13.toList
            · rw [if_pos c25] at H
              have c25b0 : ((strOfNums t442).toList == x448000_13.toList) = true := beq_iff_eq.mpr c25
              have c25b1 : ((strOfNums t442).toList != x448000_13.toList) = false := bne_eq_false_iff_eq.mpr c25
              clear c25
              by_cases c26 : t443 = x448001_13
              · rw [if_pos c26] at H
                have c26b0 : (t443 == x448001_13) = true := beq_iff_eq.mpr c26
                have c26b1 : (t443 != x448001_13) = false := bne_eq_false_iff_eq.mpr c26
                clear c26
                by_cases c27 : t444 = x448002_13
                · rw [if_pos c27] at H
                  have c27b0 : (t444 == x448002_13) = true := beq_iff_eq.mpr c27
                  have c27b1 : (t444 != x448002_13) = false := bne_eq_false_iff_eq.mpr c27
                  clear c27
                  replace H := Option.bind_eq_some_iff.mp H
                  obtain ⟨t462, A280, H⟩ := H
                  replace H : (if t462 = true then (if t453 = t458 then (some (t454 == t459)) else (some false)) else (some false)) = some r := H
                  have A28 := ak_ A280
                  clear A280
                  by_cases c29 : t462 = true
                  · subst c29
                    have H1 : (if t453 = t458 then (some (t454 == t459)) else (some false)) = some r := by rw [if_pos rfl] at H; exact H
                    clear H
                    have H := H1
                    clear H1
                    by_cases c30 : t453 = t458
                    · rw [if_pos c30] at H
                      have c30b0 : (t453 == t458) = true := beq_iff_eq.mpr c30
                      have c30b1 : (t453 != t458) = false := bne_eq_false_iff_eq.mpr c30
                      clear c30
                      obtain rfl := Option.some.inj H
                      go_wp2_with (first | ((with_reducible refine gate_callee (f := 33) rfl ?_); refine goesL_ (some 43) rfl rfl Try.func33 (by kernel_rfl) rfl #[.slice A0 l0.length c0] rfl (by (try simp only [List.map_toArray, List.map_cons, List.map_nil]); first | done | rfl | (simp only [List.length_drop, List.length_take]; rfl)) ?_; (with_reducible refine (record_All.calls kj13 _ _ l0 t452 t453 t454 _ ?side1 ?side2 A23.out).mono ?_); (case side1 => repeat (first | exact (Kd.C_below HR0.out HB.out) | (with_reducible refine Kd.C_alloc ?_ _) | (with_reducible refine Kd.C_drewN ?_ _) | (with_reducible refine Kd.C_drew ?_))); (case side2 => exact HC0.out); rintro e w31 ⟨v455, rfl, ho0, hb⟩; refine ⟨_, rfl, ?_⟩; have n0_ := ak_ (Kd.R_below (by (with_reducible repeat (first | apply Kd.R_alloc | apply Kd.R_drewN | apply Kd.R_drew)); exact HO_5.out) hb); have n1_ := ak_ (Kd.S_lower (Kd.S_new' ho0 (Kd.R_lt (by (with_reducible repeat (first | apply Kd.R_alloc | apply Kd.R_drewN | apply Kd.R_drew)); exact HO_5.out))) (below_size (by repeat (first | (with_reducible first | exact HB.out | apply pa_ | apply pd_ | apply p1_ | refine zs_ ?_ GE447.out) | exact HB.out)))); have n2_ := ak_ (blk_below (g := gb447) (o := .cells #[.string x448000_13, .int .i64 x448001_13, .int .i64 x448002_13] 61 (0, 0)) (by (with_reducible repeat (first | apply zn_ | apply zd_ | apply za_)); exact BK447.out) hb); have n3_ := ak_ (ps_ (by repeat (first | (with_reducible first | exact HB.out | apply pa_ | apply pd_ | apply p1_ | refine zs_ ?_ GE447.out) | exact HB.out)) hb); clear HO_5; clear BK447; clear HB; have HO_5 := n0_; have HO456 := n1_; have BK447 := n2_; have HB := n3_; clear n0_ n1_ n2_ n3_; (try clear hb hk hi); (try clear ho0); have hcv32 := Kd.C_string (P := Try.prog) (A := A0) (c := c0) Try.underlying25 Try.underlying5 Try.underlying9 (Kd.C_below HR0.out HB.out)) | ((with_reducible refine gate_callee (f := 34) rfl ?_); refine goesL_ (some 50) rfl rfl Try.func34 (by kernel_rfl) rfl #[.string (strOfNums l0)] rfl (by simp only [mt_, mc_, mn_] <;> rfl) ?_; (with_reducible refine (usufructref06_All.calls kj13 (strOfNums l0) t457 t458 t459 _ A24.out).mono ?_); rintro e w33 ⟨v460, rfl, ho0, hb⟩; refine ⟨_, rfl, ?_⟩; have n0_ := ak_ (Kd.R_below (by (with_reducible repeat (first | apply Kd.R_alloc | apply Kd.R_drewN | apply Kd.R_drew)); exact HO_5.out) hb); have n1_ := ak_ (Kd.S_below (by (with_reducible repeat (first | apply Kd.S_alloc | apply Kd.S_drewN | apply Kd.S_drew)); exact HO456.out) hb); have n2_ := ak_ (Kd.R_lower ho0 (below_size (by repeat (first | (with_reducible first | exact HB.out | apply pa_ | apply pd_ | apply p1_ | refine zs_ ?_ GE447.out) | exact HB.out)))); have n3_ := ak_ (blk_below (g := gb447) (o := .cells #[.string x448000_13, .int .i64 x448001_13, .int .i64 x448002_13] 61 (0, 0)) (by (with_reducible repeat (first | apply zn_ | apply zd_ | apply za_)); exact BK447.out) hb); have n4_ := ak_ (ps_ (by repeat (first | (with_reducible first | exact HB.out | apply pa_ | apply pd_ | apply p1_ | refine zs_ ?_ GE447.out) | exact HB.out)) hb); clear HO_5; clear HO456; clear BK447; clear HB; have HO_5 := n0_; have HO456 := n1_; have HO461 := n2_; have BK447 := n3_; have HB := n4_; clear n0_ n1_ n2_ n3_ n4_; (try clear hb hk hi); (try clear ho0); have hcv34 := own_string (P := Try.prog) Try.underlying25 Try.underlying5 Try.underlying9 (Kd.own_of_R HO_5.out); have hcz35_0 : w33.cell? ⟨gb447, 0, none⟩ = some (.string x448000_13) := (zc_ BK447.out 0).trans rfl; have hcz35_1 : w33.cell? ⟨gb447, 1, none⟩ = some (.int .i64 x448001_13) := (zc_ BK447.out 1).trans rfl; have hcz35_2 : w33.cell? ⟨gb447, 2, none⟩ = some (.int .i64 x448002_13) := (zc_ BK447.out 2).trans rfl; have hfz35_0 := zf_ BK447.out 0; have hfz35_1 := zf_ BK447.out 1; have hfz35_2 := zf_ BK447.out 2; obtain ⟨Ao36, co36, eo36⟩ := Kd.S_slice HO456.out; subst eo36; obtain ⟨Ao37, co37, eo37⟩ := Kd.R_slice HO461.out; subst eo37) | (go_at_call 35; (with_reducible refine (usufructlaw06_same.calls kj13 _ _ t452 _ _ t457 true _ ?side1 ?side2 ?side3 ?side4 A28.out).mono ?_); (case side1 => repeat (first | exact (Kd.S_reads' HO456.out).2.2 | (with_reducible refine Kd.C_alloc ?_ _) | (with_reducible refine Kd.C_drewN ?_ _) | (with_reducible refine Kd.C_drew ?_))); (case side2 => exact (Kd.S_reads' HO456.out).2.1); (case side3 => repeat (first | exact (Kd.R_reads' HO461.out).2.2 | (with_reducible refine Kd.C_alloc ?_ _) | (with_reducible refine Kd.C_drewN ?_ _) | (with_reducible refine Kd.C_drew ?_))); (case side4 => exact (Kd.R_reads' HO461.out).2.1); rintro e w' ⟨rfl, ⟨nd, rfl⟩⟩))
                      go_ret
                      exact ⟨by first | rfl | (simp [errW_none, errW_some] <;> rfl) | (simp [*, errW_none, errW_some] <;> rfl), by repeat (first | (with_reducible first | exact HB.out | apply pa_ | apply pd_ | apply p1_ | refine zs_ ?_ GE447.out) | exact HB.out)⟩
                    rw [if_neg c30] at H
                    have c30b0 : (t453 == t458) = false := beq_eq_false_iff_ne.mpr c30
                    have c30b1 : (t453 != t458) = true := bne_iff_ne.mpr c30
                    exact absurd ((Option.some.inj H).trans HTR_.out) (by decide)
                  replace c29 := Bool.eq_false_iff.mpr c29
                  subst c29
                  have H1 : (some false) = some r := by rw [if_neg (show ¬ (false = true) by decide)] at H; exact H
                  clear H
                  have H := H1
                  clear H1
                  exact absurd ((Option.some.inj H).trans HTR_.out) (by decide)
                rw [if_neg c27] at H
                have c27b0 : (t444 == x448002_13) = false := beq_eq_false_iff_ne.mpr c27
                have c27b1 : (t444 != x448002_13) = true := bne_iff_ne.mpr c27
                exact absurd ((Option.some.inj H).trans HTR_.out) (by decide)
              rw [if_neg c26] at H
              have c26b0 : (t443 == x448001_13) = false := beq_eq_false_iff_ne.mpr c26
              have c26b1 : (t443 != x448001_13) = true := bne_iff_ne.mpr c26
              exact absurd ((Option.some.inj H).trans HTR_.out) (by decide)
            rw [if_neg c25] at H
            have c25b0 : ((strOfNums t442).toList == x448000_13.toList) = false := beq_eq_false_iff_ne.mpr c25
            have c25b1 : ((strOfNums t442).toList != x448000_13.toList) = true := bne_iff_ne.mpr c25
            exact absurd ((Option.some.inj H).trans HTR_.out) (by decide)
  replace c4 := Bool.eq_false_iff.mpr c4
  subst c4
  have H1 : (some false) = some r := by rw [if_neg (show ¬ (false = true) by decide)] at H; exact H
  clear H
  have H := H1
  clear H1
  exact absurd ((Option.some.inj H).trans HTR_.out) (by decide)

/-- THE ONE PURE STATEMENT of usufructlaw06_RecordReads: yours. -/
def usufructlaw06_RecordReads.Pure : Prop := ∀ (l0 : List Int) (a1 : Int), l0.length ≤ maxLen → l0.length * 1 ≤ 140737488351232 → (∀ x ∈ l0, (Lit.int .u8 x).wf = true) → (Lit.int .i64 a1).wf = true → ∃ k, usufructlaw06_RecordReads.f k l0 a1 = some true
theorem usufructlaw06_RecordReads.walk (P : usufructlaw06_RecordReads.Pure) (a0 : Option Addr) (len0 cap0 : Nat) (z0 : List Int) (a1 : Int) (w : World) (w0 : (a0 = none ∧ len0 = 0 ∧ cap0 = 0 ∧ z0 = []) ∨ ∃ x, a0 = some x ∧ len0 ≤ cap0 ∧ cap0 ≤ maxLen ∧ z0.length = cap0 ∧ (∀ i, i < z0.length → w.cell? (x.add i) = some (.int .u8 (z0.getD i 0))) ∧ ∀ n ∈ z0, (Lit.int .u8 n).wf = true) (y0 : len0 * 1 ≤ 140737488351232) (w1 : (Lit.int .i64 a1).wf = true) :
    Calls Try.prog 7 #[.slice a0 len0 cap0, .int .i64 a1] w fun e w' => e = .returned (.bool true) ∧ Below w.heap.size w w' := by
  obtain ⟨l0, rfl, hr0, hm0, hw0, hc0⟩ := ReadsInt.ofRowC w0
  obtain ⟨k, h⟩ := P l0 a1 hm0 y0 hw0 w1
  refine (usufructlaw06_RecordReads.calls k _ _ l0 a1 true w (Kd.C_of_reads (d := (0 : Int)) (h1 := fun _ => rfl) hr0) hc0 h rfl).mono ?_
  rintro e w' ⟨rfl, hd⟩
  exact ⟨rfl, hd⟩

end Go.Proofs.Ytdamiipeijnpnaa.Q
