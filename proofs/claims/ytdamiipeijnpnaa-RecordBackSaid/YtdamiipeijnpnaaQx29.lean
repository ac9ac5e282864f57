-- written for this claim by a program of the session
import Derived.Test.YtdamiipeijnpnaaQx0
import Derived.Test.YtdamiipeijnpnaaGRefGet
namespace Go.Proofs.Ytdamiipeijnpnaa.Q
open Go.RowKit Go.Proofs.YtdamiipeijnpnaaW.PrintWords Go.Proofs.YtdamiipeijnpnaaW.PrintLast Go.Proofs.YtdamiipeijnpnaaW.PrintMore
attribute [local go_sem] max2_int min2_int max_two min_two max_three min_three max_four min_four   -- for this text's walks alone
set_option linter.unusedVariables false
set_option linter.unusedSimpArgs false

/-! ### usufructref06_All: function 34 -/
def usufructref06_All.l0 : Nat → ByteArray → List ByteArray → Int → Option (List ByteArray × Int × Int)
  | 0, _, _, _ => none
  | k + 1, x0, x5, x6 => if x6 < (x0.size : Int) then (if 0 ≤ x6 then (if x6 ≤ (x0.size : Int) then ((usufructref06_Get.f k (x0.extract (x6 : Int).toNat x0.size)).bind fun bt432 => (if bt432.2.2 = 2 then (some (x5, x6, 2)) else (if bt432.2.2 = 0 then (if x5.length < 8796093022208 then (usufructref06_All.l0 k x0 (x5 ++ [bt432.1]) (wrap64 (x6 + bt432.2.1))) else (none)) else (some (x5, x6, 18))))) else (none)) else (none)) else (some (x5, x6, 0))
def usufructref06_All.f (k : Nat) (a0 : ByteArray) : Option (List ByteArray × Int × Int) := usufructref06_All.l0 k a0 ([] : List ByteArray) 0
theorem usufructref06_All.mono_l : ∀ k, (∀ y0 y1 y2, LeO (usufructref06_All.l0 k y0 y1 y2) (usufructref06_All.l0 (k + 1) y0 y1 y2))
  | 0 => fun _ _ _ r h => by simp [usufructref06_All.l0] at h
  | k + 1 => by
    have ih0 := usufructref06_All.mono_l k
    · intro y0 y1 y2
      unfold usufructref06_All.l0
      repeat' first
      | (with_reducible exact ih0 _ _ _)
      | (with_reducible exact usufructref06_Get.mono _ _)
      | (with_reducible exact LeO.refl _)
      | (with_reducible exact LeO.none _)
      | (with_reducible refine LeO.ite ?_ ?_)
      | (with_reducible refine LeO.bind ?_ (fun _ => ?_))
      | exact ih0 _ _ _
      | exact usufructref06_Get.mono _ _
      | exact LeO.none _
      | refine LeO.ite ?_ ?_
      | refine LeO.bind ?_ (fun _ => ?_)
theorem usufructref06_All.mono : ∀ a0 k, LeO (usufructref06_All.f k a0) (usufructref06_All.f (k + 1) a0) := by
  intro a0 k
  have ih0 := usufructref06_All.mono_l k
  unfold usufructref06_All.f
  repeat' first
      | (with_reducible exact ih0 _ _ _)
      | (with_reducible exact usufructref06_Get.mono _ _)
      | (with_reducible exact LeO.refl _)
      | (with_reducible exact LeO.none _)
      | (with_reducible refine LeO.ite ?_ ?_)
      | (with_reducible refine LeO.bind ?_ (fun _ => ?_))
      | exact ih0 _ _ _
      | exact usufructref06_Get.mono _ _
      | exact LeO.none _
      | refine LeO.ite ?_ ?_
      | refine LeO.bind ?_ (fun _ => ?_)
namespace usufructref06_All
theorem mt_ {α β : Type} {f : α → β} {l : List α} : l.toArray.map f = (l.map f).toArray := List.map_toArray
theorem mc_ {α β : Type} {f : α → β} {a : α} {l : List α} : (a :: l).map f = f a :: l.map f := rfl
theorem mn_ {α β : Type} {f : α → β} : ([] : List α).map f = [] := rfl
abbrev zn_ := @blk_drewN
abbrev zd_ := @blk_drew
abbrev za_ := @blk_alloc
abbrev zf_ := @blk_frozen
abbrev zc_ := @blk_cell
abbrev zs_ := @below_set
abbrev zr_ := @blk_far
abbrev zp_ := @blk_put
abbrev pd_ := @pw_below_drewN
abbrev p1_ := @below_drew1
abbrev pa_ := @below_alloc
abbrev ak_ := @Aside0.mk
abbrev bl_ := @World.block_lt_of_cell?
abbrev ps_ := @below_step
def b_ (n k : Nat) : Array Bool := ((List.range n).map fun i => k.testBit i).toArray
theorem sa_ {α : Type} {l : List α} {i : Nat} {a : α} : l.toArray.setIfInBounds i a = (l.set i a).toArray := List.setIfInBounds_toArray l i a
theorem sz_ {α : Type} {a b : α} {l : List α} : (a :: l).set 0 b = b :: l := rfl
theorem ss_ {α : Type} {a b : α} {l : List α} {n : Nat} : (a :: l).set (n + 1) b = a :: l.set n b := rfl
end usufructref06_All
open usufructref06_All in
set_option maxHeartbeats 8000000 in
set_option maxRecDepth 100000 in
theorem usufructref06_All.calls (k : Nat) (a0 : ByteArray) (r1 : List ByteArray) (r2 : Int) (r3 : Int) (w : World) (h : usufructref06_All.f k a0 = some (r1, r2, r3)) :
    Calls Try.prog 34 #[.string a0] w fun e w' => ∃ v0_ : Value, e = .returned (.tuple #[v0_, .int .i64 r2, .int .i64 r3]) ∧ Kd.R Kd.string 9 w' w.heap.size (fun _ => True) v0_ r1 ∧ Below w.heap.size w w' := by
  have hu61 := Try.underlying61
  have HB := ak_ (Below.refl w.heap.size w)
  have H : (usufructref06_All.l0 k a0 ([] : List ByteArray) 0) = some (r1, r2, r3) := h
  clear h
  have H' := ak_ H
  clear H
  go_enter Try.func34, Try.ntmps34
  go_wp2
  go_loopg [5, 6] k (fun kq v5 v6 w' => ∃ (x5_1 : List ByteArray) (x6_1 : Int), v6 = .int .i64 x6_1 ∧ Aside0 (usufructref06_All.l0 kq a0 x5_1 x6_1 = some (r1, r2, r3)) ∧ Aside0 (kq ≤ k) ∧ Aside0 (Kd.R Kd.string 9 w' w.heap.size (fun _ => True) v5 x5_1) ∧ Aside0 (Below w.heap.size w w'))
  case atStart => exact ⟨(([] : List ByteArray)), (0), (by first | rfl | (simp; done) | (simp [*]; done)), H', ⟨Nat.le_refl _⟩, ⟨by first | exact Kd.R_nil _ _ _ _ _ | exact Kd.N_nil _ _ _ _ _ | exact Kd.V_nil _ _ _ _ _ | exact Kd.Q_nil _ _ _ _ _ | exact Kd.S_nil _ _ _ _ _⟩, ⟨by repeat (first | (with_reducible first | exact HB.out | apply pa_ | apply pd_ | apply p1_) | exact HB.out)⟩⟩
  case round =>
    clear H'
    obtain ⟨x5_1, x6_1, rfl, HA, HK1, HO_5, HB⟩ := hrel
    cases gk with
    | zero => exact absurd HA.out (by simp [usufructref06_All.l0])
    | succ k1 =>
      have H := HA.out
      clear HA
      simp only [usufructref06_All.l0] at H
      by_cases c2 : x6_1 < (a0.size : Int)
      · rw [if_pos c2] at H
        have c2b0 : decide (x6_1 < (a0.size : Int)) = true := decide_eq_true c2
        clear c2
        by_cases c3 : 0 ≤ x6_1
        · rw [if_pos c3] at H
          have c3b0 := eq_true c3
          have c3b1 : decide (0 ≤ x6_1) = true := decide_eq_true c3
          clear c3
          by_cases c4 : x6_1 ≤ (a0.size : Int)
          · rw [if_pos c4] at H
            have c4b0 := eq_true c4
            have c4b1 : decide (x6_1 ≤ (a0.size : Int)) = true := decide_eq_true c4
            clear c4
            replace H := Option.bind_eq_some_iff.mp H
            obtain ⟨⟨t432, t433, t434⟩, A50, H⟩ := H
            replace H : (if t434 = 2 then (some (x5_1, x6_1, 2)) else (if t434 = 0 then (if x5_1.length < 8796093022208 then (usufructref06_All.l0 k1 a0 (x5_1 ++ [t432]) (wrap64 (x6_1 + t433))) else (none)) else (some (x5_1, x6_1, 18)))) = some (r1, r2, r3) := H
            have A5 := ak_ A50
            clear A50
            by_cases c6 : t434 = 2
            · rw [if_pos c6] at H
              have c6b0 : (t434 == 2) = true := beq_iff_eq.mpr c6
              have c6b1 : (t434 != 2) = false := bne_eq_false_iff_eq.mpr c6
              clear c6
              simp only [Option.some.injEq, Prod.mk.injEq] at H
              obtain ⟨rfl, rfl, rfl⟩ := H
              go_wp2_with (first | ((with_reducible refine gate_callee (f := 32) rfl ?_); refine goesL_ (some 15) rfl rfl Try.func32 (by kernel_rfl) rfl #[.string (a0.extract (x6_1 : Int).toNat a0.size)] rfl (by simp only [mt_, mc_, mn_] <;> rfl) ?_; (with_reducible refine (usufructref06_Get.calls k1 (a0.extract (x6_1 : Int).toNat a0.size) t432 t433 t434 _ A5.out).mono ?_); rintro e w7 ⟨rfl, hb⟩; refine ⟨_, rfl, ?_⟩; have n0_ := ak_ (Kd.R_below (by (with_reducible repeat (first | apply Kd.R_alloc | apply Kd.R_drewN | apply Kd.R_drew)); exact HO_5.out) hb); have n1_ := ak_ (ps_ (by repeat (first | (with_reducible first | exact HB.out | apply pa_ | apply pd_ | apply p1_) | exact HB.out)) hb); clear HO_5; clear HB; have HO_5 := n0_; have HB := n1_; clear n0_ n1_; (try clear hb hk hi)) | ((with_reducible refine gate_dst (N := 7) rfl ?_); refine box_event ?hg (N := 7) ?hd (cs := #[.string ⟨#[]⟩, .int .i64 0, .int .i64 0]) (t := 61) ?hr ?_; (case hd => rfl); (case hg => rfl); (case hr => first | (go_simp; done) | (go_simp; rfl)); intro gb435 hg w8 hbox hb; have n0_ := ak_ (Kd.R_below (by (with_reducible repeat (first | apply Kd.R_alloc | apply Kd.R_drewN | apply Kd.R_drew)); exact HO_5.out) hb); have n1_ := ak_ (ps_ (by repeat (first | (with_reducible first | exact HB.out | apply pa_ | apply pd_ | apply p1_) | exact HB.out)) hb); have n2_ := ak_ (hbox); have n3_ := ak_ ((by rw [hg]; exact (below_size (by repeat (first | (with_reducible first | exact HB.out | apply pa_ | apply pd_ | apply p1_) | exact HB.out))) : w.heap.size ≤ gb435)); have n4_ := ak_ ((by rw [hg]; exact (below_size (by repeat (first | (with_reducible first | exact HB.out | apply pa_ | apply pd_ | apply p1_) | exact HB.out))) : w.heap.size ≤ gb435)); clear HO_5; clear HB; have HO_5 := n0_; have HB := n1_; have BK435 := n2_; have GW435 := n3_; have GE435 := n4_; clear n0_ n1_ n2_ n3_ n4_; clear hb hbox hg; have hcz9_0 : w8.cell? ⟨gb435, 0, none⟩ = some (.string ⟨#[]⟩) := (zc_ BK435.out 0).trans rfl; have hcz9_1 : w8.cell? ⟨gb435, 1, none⟩ = some (.int .i64 0) := (zc_ BK435.out 1).trans rfl; have hcz9_2 : w8.cell? ⟨gb435, 2, none⟩ = some (.int .i64 0) := (zc_ BK435.out 2).trans rfl; have hfz9_0 := zf_ BK435.out 0; have hfz9_1 := zf_ BK435.out 1; have hfz9_2 := zf_ BK435.out 2))
              go_ret3
              exact ⟨_, by first | rfl | (simp [errW_none, errW_some] <;> rfl) | (simp [*, errW_none, errW_some] <;> rfl), by (with_reducible repeat (first | apply Kd.R_alloc | apply Kd.R_drewN | apply Kd.R_drew)); exact Kd.R_mono (Kd.R_far (p := ⟨gb435, 2, none⟩) (Kd.R_far (p := ⟨gb435, 1, none⟩) (Kd.R_far (p := ⟨gb435, 0, none⟩) (Kd.R_types HO_5.out BK435.out (by decide)) (fun _ hk => hk.2) (.string t432)) (fun _ hk => hk.2) (.int .i64 t433)) (fun _ hk => hk.2) (.int .i64 t434)) (fun _ hk => trivial), by repeat (first | (with_reducible first | exact HB.out | apply pa_ | apply pd_ | apply p1_ | refine zs_ ?_ GE435.out) | exact HB.out)⟩
            rw [if_neg c6] at H
            have c6b0 : (t434 == 2) = false := beq_eq_false_iff_ne.mpr c6
            have c6b1 : (t434 != 2) = true := bne_iff_ne.mpr c6
            by_cases c10 : t434 = 0
            · rw [if_pos c10] at H
              have c10b0 : (t434 == 0) = true := beq_iff_eq.mpr c10
              have c10b1 : (t434 != 0) = false := bne_eq_false_iff_eq.mpr c10
              clear c10
              by_cases c11 : x5_1.length < 8796093022208
              · rw [if_pos c11] at H
                have LMc11 := ak_ c11
                clear c11
                obtain ⟨y436, hy436⟩ : ∃ y_ : List ByteArray, y_ = (x5_1 ++ [t432]) := ⟨_, rfl⟩
                replace H : (usufructref06_All.l0 k1 a0 y436 (wrap64 (x6_1 + t433))) = some (r1, r2, r3) := by first | (rw [hy436]; with_reducible exact H) | (have H2_ := (Option.bind_some _ _).symm.trans H; rw [hy436]; with_reducible exact H2_) | (have H2_ := (Option.bind_some _ _).symm.trans H; with_reducible exact H2_) | with_reducible exact H | (rw [hy436]; exact H) | exact H
                have Ny436 := ak_ hy436
                clear hy436
                have H' := ak_ H
                clear H
                go_wp2_with (first | ((with_reducible refine gate_callee (f := 32) rfl ?_); refine goesL_ (some 15) rfl rfl Try.func32 (by kernel_rfl) rfl #[.string (a0.extract (x6_1 : Int).toNat a0.size)] rfl (by simp only [mt_, mc_, mn_] <;> rfl) ?_; (with_reducible refine (usufructref06_Get.calls k1 (a0.extract (x6_1 : Int).toNat a0.size) t432 t433 t434 _ A5.out).mono ?_); rintro e w12 ⟨rfl, hb⟩; refine ⟨_, rfl, ?_⟩; have n0_ := ak_ (Kd.R_below (by (with_reducible repeat (first | apply Kd.R_alloc | apply Kd.R_drewN | apply Kd.R_drew)); exact HO_5.out) hb); have n1_ := ak_ (ps_ (by repeat (first | (with_reducible first | exact HB.out | apply pa_ | apply pd_ | apply p1_) | exact HB.out)) hb); clear HO_5; clear HB; have HO_5 := n0_; have HB := n1_; clear n0_ n1_; (try clear hb hk hi)) | ((with_reducible refine gate_dst (N := 7) rfl ?_); refine box_event ?hg (N := 7) ?hd (cs := #[.string ⟨#[]⟩, .int .i64 0, .int .i64 0]) (t := 61) ?hr ?_; (case hd => rfl); (case hg => rfl); (case hr => first | (go_simp; done) | (go_simp; rfl)); intro gb435 hg w13 hbox hb; have n0_ := ak_ (Kd.R_below (by (with_reducible repeat (first | apply Kd.R_alloc | apply Kd.R_drewN | apply Kd.R_drew)); exact HO_5.out) hb); have n1_ := ak_ (ps_ (by repeat (first | (with_reducible first | exact HB.out | apply pa_ | apply pd_ | apply p1_) | exact HB.out)) hb); have n2_ := ak_ (hbox); have n3_ := ak_ ((by rw [hg]; exact (below_size (by repeat (first | (with_reducible first | exact HB.out | apply pa_ | apply pd_ | apply p1_) | exact HB.out))) : w.heap.size ≤ gb435)); have n4_ := ak_ ((by rw [hg]; exact (below_size (by repeat (first | (with_reducible first | exact HB.out | apply pa_ | apply pd_ | apply p1_) | exact HB.out))) : w.heap.size ≤ gb435)); clear HO_5; clear HB; have HO_5 := n0_; have HB := n1_; have BK435 := n2_; have GW435 := n3_; have GE435 := n4_; clear n0_ n1_ n2_ n3_ n4_; clear hb hbox hg; have hcz14_0 : w13.cell? ⟨gb435, 0, none⟩ = some (.string ⟨#[]⟩) := (zc_ BK435.out 0).trans rfl; have hcz14_1 : w13.cell? ⟨gb435, 1, none⟩ = some (.int .i64 0) := (zc_ BK435.out 1).trans rfl; have hcz14_2 : w13.cell? ⟨gb435, 2, none⟩ = some (.int .i64 0) := (zc_ BK435.out 2).trans rfl; have hfz14_0 := zf_ BK435.out 0; have hfz14_1 := zf_ BK435.out 1; have hfz14_2 := zf_ BK435.out 2) | ((with_reducible refine gate_builtin (b := .append) (xs := #[.tmp 26, .tmp 29]) rfl ?_); at_builtin; refine Kd.R_append Kd.string (w0 := w) w.heap.size rfl (.tmp 26) (.tmp 29) 66 9 (.string ⟨#[]⟩) 16 rfl Try.underlying66 info9 rfl (by decide) (by omega) u5 x5_1 t432 [.string t432] (fun _ => True) (fun _ => False) rfl (by first | (go_simp; done) | (go_simp; rfl)) ?aP (fun _ hk => hk.elim) ?aF ?aO ?aB ?aS ?aL ?_; (case aP => exact rfl); (case aB => exact (by repeat (first | (with_reducible first | exact HB.out | apply pa_ | apply pd_ | apply p1_ | refine zs_ ?_ GE435.out) | exact HB.out))); (case aF => exact (fun _ _ => trivial)); (case aO => exact (by (with_reducible repeat (first | apply Kd.R_alloc | apply Kd.R_drewN | apply Kd.R_drew)); exact Kd.R_mono (Kd.R_far (p := ⟨gb435, 2, none⟩) (Kd.R_far (p := ⟨gb435, 1, none⟩) (Kd.R_far (p := ⟨gb435, 0, none⟩) (Kd.R_types HO_5.out BK435.out (by decide)) (fun _ hk => hk.2) (.string t432)) (fun _ hk => hk.2) (.int .i64 t433)) (fun _ hk => hk.2) (.int .i64 t434)) (fun _ hk => trivial))); (case aS => exact (below_size (by repeat (first | (with_reducible first | exact HB.out | apply pa_ | apply pd_ | apply p1_ | refine zs_ ?_ GE435.out) | exact HB.out)))); (case aL => have := LMc11.out; omega); intro v437 w15 ho hb hg hat; rw [← Ny436.out] at ho; have n0_ := ak_ (blk_grown (g := gb435) (o := .cells #[.string t432, .int .i64 t433, .int .i64 t434] 61 (0, 0)) (by (with_reducible repeat (first | apply zn_ | apply zd_ | apply za_)); refine zp_ (cs := #[.string t432, .int .i64 t433, .int .i64 0]) ?_ 2 _ rfl; (with_reducible repeat (first | apply zn_ | apply zd_ | apply za_)); refine zp_ (cs := #[.string t432, .int .i64 0, .int .i64 0]) ?_ 1 _ rfl; (with_reducible repeat (first | apply zn_ | apply zd_ | apply za_)); refine zp_ (cs := #[.string ⟨#[]⟩, .int .i64 0, .int .i64 0]) ?_ 0 _ rfl; (with_reducible repeat (first | apply zn_ | apply zd_ | apply za_)); exact BK435.out) hg (Kd.R_ne HO_5.out BK435.out (by decide))); have n1_ := ak_ (hb); have n2_ := ak_ (ho); clear BK435; clear HB; clear HO_5; have BK435 := n0_; have HB := n1_; have HO438 := n2_; clear n0_ n1_ n2_; clear ho hb hg hat; have hcz16_0 : w15.cell? ⟨gb435, 0, none⟩ = some (.string t432) := (zc_ BK435.out 0).trans rfl; have hcz16_1 : w15.cell? ⟨gb435, 1, none⟩ = some (.int .i64 t433) := (zc_ BK435.out 1).trans rfl; have hcz16_2 : w15.cell? ⟨gb435, 2, none⟩ = some (.int .i64 t434) := (zc_ BK435.out 2).trans rfl; have hfz16_0 := zf_ BK435.out 0; have hfz16_1 := zf_ BK435.out 1; have hfz16_2 := zf_ BK435.out 2))
                go_roundg k1
                case measure => have := HK1.out; omega
                case rel => exact ⟨(y436), (wrap64 (x6_1 + t433)), (by first | rfl | (simp; done) | (simp [*]; done)), H', ⟨by have := HK1.out; omega⟩, ⟨by (with_reducible repeat (first | apply Kd.R_alloc | apply Kd.R_drewN | apply Kd.R_drew)); exact HO438.out⟩, ⟨by repeat (first | (with_reducible first | exact HB.out | apply pa_ | apply pd_ | apply p1_ | refine zs_ ?_ GE435.out) | exact HB.out)⟩⟩
              rw [if_neg c11] at H
              exact absurd H (by simp)
            rw [if_neg c10] at H
            have c10b0 : (t434 == 0) = false := beq_eq_false_iff_ne.mpr c10
            have c10b1 : (t434 != 0) = true := bne_iff_ne.mpr c10
            simp only [Option.some.injEq, Prod.mk.injEq] at H
            obtain ⟨rfl, rfl, rfl⟩ := H
            go_wp2_with (first | ((with_reducible refine gate_callee (f := 32) rfl ?_); refine goesL_ (some 15) rfl rfl Try.func32 (by kernel_rfl) rfl #[.string (a0.extract (x6_1 : Int).toNat a0.size)] rfl (by simp only [mt_, mc_, mn_] <;> rfl) ?_; (with_reducible refine (usufructref06_Get.calls k1 (a0.extract (x6_1 : Int).toNat a0.size) t432 t433 t434 _ A5.out).mono ?_); rintro e w17 ⟨rfl, hb⟩; refine ⟨_, rfl, ?_⟩; have n0_ := ak_ (Kd.R_below (by (with_reducible repeat (first | apply Kd.R_alloc | apply Kd.R_drewN | apply Kd.R_drew)); exact HO_5.out) hb); have n1_ := ak_ (ps_ (by repeat (first | (with_reducible first | exact HB.out | apply pa_ | apply pd_ | apply p1_) | exact HB.out)) hb); clear HO_5; clear HB; have HO_5 := n0_; have HB := n1_; clear n0_ n1_; (try clear hb hk hi)) | ((with_reducible refine gate_dst (N := 7) rfl ?_); refine box_event ?hg (N := 7) ?hd (cs := #[.string ⟨#[]⟩, .int .i64 0, .int .i64 0]) (t := 61) ?hr ?_; (case hd => rfl); (case hg => rfl); (case hr => first | (go_simp; done) | (go_simp; rfl)); intro gb435 hg w18 hbox hb; have n0_ := ak_ (Kd.R_below (by (with_reducible repeat (first | apply Kd.R_alloc | apply Kd.R_drewN | apply Kd.R_drew)); exact HO_5.out) hb); have n1_ := ak_ (ps_ (by repeat (first | (with_reducible first | exact HB.out | apply pa_ | apply pd_ | apply p1_) | exact HB.out)) hb); have n2_ := ak_ (hbox); have n3_ := ak_ ((by rw [hg]; exact (below_size (by repeat (first | (with_reducible first | exact HB.out | apply pa_ | apply pd_ | apply p1_) | exact HB.out))) : w.heap.size ≤ gb435)); have n4_ := ak_ ((by rw [hg]; exact (below_size (by repeat (first | (with_reducible first | exact HB.out | apply pa_ | apply pd_ | apply p1_) | exact HB.out))) : w.heap.size ≤ gb435)); clear HO_5; clear HB; have HO_5 := n0_; have HB := n1_; have BK435 := n2_; have GW435 := n3_; have GE435 := n4_; clear n0_ n1_ n2_ n3_ n4_; clear hb hbox hg; have hcz19_0 : w18.cell? ⟨gb435, 0, none⟩ = some (.string ⟨#[]⟩) := (zc_ BK435.out 0).trans rfl; have hcz19_1 : w18.cell? ⟨gb435, 1, none⟩ = some (.int .i64 0) := (zc_ BK435.out 1).trans rfl; have hcz19_2 : w18.cell? ⟨gb435, 2, none⟩ = some (.int .i64 0) := (zc_ BK435.out 2).trans rfl; have hfz19_0 := zf_ BK435.out 0; have hfz19_1 := zf_ BK435.out 1; have hfz19_2 := zf_ BK435.out 2))
            go_ret3
            exact ⟨_, by first | rfl | (simp [errW_none, errW_some] <;> rfl) | (simp [*, errW_none, errW_some] <;> rfl), by (with_reducible repeat (first | apply Kd.R_alloc | apply Kd.R_drewN | apply Kd.R_drew)); exact Kd.R_mono (Kd.R_far (p := ⟨gb435, 2, none⟩) (Kd.R_far (p := ⟨gb435, 1, none⟩) (Kd.R_far (p := ⟨gb435, 0, none⟩) (Kd.R_types HO_5.out BK435.out (by decide)) (fun _ hk => hk.2) (.string t432)) (fun _ hk => hk.2) (.int .i64 t433)) (fun _ hk => hk.2) (.int .i64 t434)) (fun _ hk => trivial), by repeat (first | (with_reducible first | exact HB.out | apply pa_ | apply pd_ | apply p1_ | refine zs_ ?_ GE435.out) | exact HB.out)⟩
          rw [if_neg c4] at H
          exact absurd H (by simp)
        rw [if_neg c3] at H
        exact absurd H (by simp)
      rw [if_neg c2] at H
      have c2b0 : decide (x6_1 < (a0.size : Int)) = false := decide_eq_false c2
      clear c2
      simp only [Option.some.injEq, Prod.mk.injEq] at H
      obtain ⟨rfl, rfl, rfl⟩ := H
      go_wp2
      go_ret3
      exact ⟨_, by first | rfl | (simp [errW_none, errW_some] <;> rfl) | (simp [*, errW_none, errW_some] <;> rfl), by (with_reducible repeat (first | apply Kd.R_alloc | apply Kd.R_drewN | apply Kd.R_drew)); exact HO_5.out, by repeat (first | (with_reducible first | exact HB.out | apply pa_ | apply pd_ | apply p1_) | exact HB.out)⟩

end Go.Proofs.Ytdamiipeijnpnaa.Q
