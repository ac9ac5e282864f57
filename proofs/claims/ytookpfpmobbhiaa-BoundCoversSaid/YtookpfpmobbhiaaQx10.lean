-- written for this claim by a program of the session
import Derived.Test.YtookpfpmobbhiaaQx0
import Derived.Test.YtookpfpmobbhiaaQx9
namespace Go.Proofs.Ytookpfpmobbhiaa.Q
open Go.RowKit Go.Proofs.YtookpfpmobbhiaaW.PrintWords Go.Proofs.YtookpfpmobbhiaaW.PrintLast Go.Proofs.YtookpfpmobbhiaaW.PrintMore
attribute [local go_sem] max2_int min2_int max_two min_two max_three min_three max_four min_four   -- for this text's walks alone
set_option linter.unusedVariables false
set_option linter.unusedSimpArgs false

/-! ### usufructref25_Longest: function 12 -/
mutual
def usufructref25_Longest.l0 : Nat → List (S28) → List (S51) → Int → Int → Option (Int)
  | 0, _, _, _, _ => none
  | k + 1, x0, x1, x5, x6 => if x6 < (x0.length : Int) then (usufructref25_Longest.l1 k x0 x1 x5 x6 0) else (usufructref25_Longest.l2 k x1 x5 0)
def usufructref25_Longest.l1 : Nat → List (S28) → List (S51) → Int → Int → Int → Option (Int)
  | 0, _, _, _, _, _ => none
  | k + 1, x0, x1, x5, x6, x7 => if 0 ≤ x6 then (if x6 < (x0.length : Int) then (if x7 < (((rd_T28 x0 x6).f2).length : Int) then (if 0 ≤ x7 then ((usufructref25_up.f x5 ((rd_T49 ((rd_T28 x0 x6).f2) x7).f2)).bind fun t142 => ((usufructref25_up.f t142 ((rd_T49 ((rd_T28 x0 x6).f2) x7).f3.f3)).bind fun t143 => ((usufructref25_up.f t143 ((rd_T49 ((rd_T28 x0 x6).f2) x7).f4.f3)).bind fun t144 => (usufructref25_Longest.l1 k x0 x1 t144 x6 (wrap64 (x7 + 1)))))) else (none)) else (usufructref25_Longest.l0 k x0 x1 x5 (wrap64 (x6 + 1)))) else (none)) else (none)
def usufructref25_Longest.l2 : Nat → List (S51) → Int → Int → Option (Int)
  | 0, _, _, _ => none
  | k + 1, x1, x5, x9 => if x9 < (x1.length : Int) then (if 0 ≤ x9 then ((usufructref25_up.f x5 ((rd_T51 x1 x9).f3)).bind fun t146 => (usufructref25_Longest.l2 k x1 t146 (wrap64 (x9 + 1)))) else (none)) else (some x5)
end
def usufructref25_Longest.f (k : Nat) (l0 : List (S28)) (l1 : List (S51)) : Option (Int) := usufructref25_Longest.l0 k l0 l1 0 0
theorem usufructref25_Longest.mono_l : ∀ k, (∀ y0 y1 y2 y3, LeO (usufructref25_Longest.l0 k y0 y1 y2 y3) (usufructref25_Longest.l0 (k + 1) y0 y1 y2 y3)) ∧ (∀ y0 y1 y2 y3 y4, LeO (usufructref25_Longest.l1 k y0 y1 y2 y3 y4) (usufructref25_Longest.l1 (k + 1) y0 y1 y2 y3 y4)) ∧ (∀ y0 y1 y2, LeO (usufructref25_Longest.l2 k y0 y1 y2) (usufructref25_Longest.l2 (k + 1) y0 y1 y2))
  | 0 => ⟨fun _ _ _ _ r h => by simp [usufructref25_Longest.l0] at h, fun _ _ _ _ _ r h => by simp [usufructref25_Longest.l1] at h, fun _ _ _ r h => by simp [usufructref25_Longest.l2] at h⟩
  | k + 1 => by
    obtain ⟨ih0, ih1, ih2⟩ := usufructref25_Longest.mono_l k
    refine ⟨?_, ?_, ?_⟩
    · intro y0 y1 y2 y3
      unfold usufructref25_Longest.l0
      repeat' first
      | (with_reducible exact ih0 _ _ _ _)
      | (with_reducible exact ih1 _ _ _ _ _)
      | (with_reducible exact ih2 _ _ _)
      | (with_reducible exact LeO.refl _)
      | (with_reducible exact LeO.none _)
      | (with_reducible refine LeO.ite ?_ ?_)
      | (with_reducible refine LeO.bind ?_ (fun _ => ?_))
      | exact ih0 _ _ _ _
      | exact ih1 _ _ _ _ _
      | exact ih2 _ _ _
      | exact LeO.none _
      | refine LeO.ite ?_ ?_
      | refine LeO.bind ?_ (fun _ => ?_)
    · intro y0 y1 y2 y3 y4
      unfold usufructref25_Longest.l1
      repeat' first
      | (with_reducible exact ih0 _ _ _ _)
      | (with_reducible exact ih1 _ _ _ _ _)
      | (with_reducible exact ih2 _ _ _)
      | (with_reducible exact LeO.refl _)
      | (with_reducible exact LeO.none _)
      | (with_reducible refine LeO.ite ?_ ?_)
      | (with_reducible refine LeO.bind ?_ (fun _ => ?_))
      | exact ih0 _ _ _ _
      | exact ih1 _ _ _ _ _
      | exact ih2 _ _ _
      | exact LeO.none _
      | refine LeO.ite ?_ ?_
      | refine LeO.bind ?_ (fun _ => ?_)
    · intro y0 y1 y2
      unfold usufructref25_Longest.l2
      repeat' first
      | (with_reducible exact ih0 _ _ _ _)
      | (with_reducible exact ih1 _ _ _ _ _)
      | (with_reducible exact ih2 _ _ _)
      | (with_reducible exact LeO.refl _)
      | (with_reducible exact LeO.none _)
      | (with_reducible refine LeO.ite ?_ ?_)
      | (with_reducible refine LeO.bind ?_ (fun _ => ?_))
      | exact ih0 _ _ _ _
      | exact ih1 _ _ _ _ _
      | exact ih2 _ _ _
      | exact LeO.none _
      | refine LeO.ite ?_ ?_
      | refine LeO.bind ?_ (fun _ => ?_)
theorem usufructref25_Longest.mono : ∀ a0 a1 k, LeO (usufructref25_Longest.f k a0 a1) (usufructref25_Longest.f (k + 1) a0 a1) := by
  intro a0 a1 k
  obtain ⟨ih0, ih1, ih2⟩ := usufructref25_Longest.mono_l k
  unfold usufructref25_Longest.f
  repeat' first
      | (with_reducible exact ih0 _ _ _ _)
      | (with_reducible exact ih1 _ _ _ _ _)
      | (with_reducible exact ih2 _ _ _)
      | (with_reducible exact LeO.refl _)
      | (with_reducible exact LeO.none _)
      | (with_reducible refine LeO.ite ?_ ?_)
      | (with_reducible refine LeO.bind ?_ (fun _ => ?_))
      | exact ih0 _ _ _ _
      | exact ih1 _ _ _ _ _
      | exact ih2 _ _ _
      | exact LeO.none _
      | refine LeO.ite ?_ ?_
      | refine LeO.bind ?_ (fun _ => ?_)
namespace usufructref25_Longest
theorem mt_ {α β : Type} {f : α → β} {l : List α} : l.toArray.map f = (l.map f).toArray := List.map_toArray
theorem mc_ {α β : Type} {f : α → β} {a : α} {l : List α} : (a :: l).map f = f a :: l.map f := rfl
theorem mn_ {α β : Type} {f : α → β} : ([] : List α).map f = [] := rfl
abbrev zn_ := @blk_drewN
abbrev zd_ := @blk_drew
abbrev za_ := @blk_alloc
abbrev zf_ := @blk_frozen
abbrev zc_ := @blk_cell
abbrev zs_ := @below_set
abbrev zr_ := @blk_far
abbrev zp_ := @blk_put
abbrev pd_ := @pw_below_drewN
abbrev p1_ := @below_drew1
abbrev pa_ := @below_alloc
abbrev ak_ := @Aside0.mk
abbrev bl_ := @World.block_lt_of_cell?
abbrev ps_ := @below_step
def b_ (n k : Nat) : Array Bool := ((List.range n).map fun i => k.testBit i).toArray
theorem sa_ {α : Type} {l : List α} {i : Nat} {a : α} : l.toArray.setIfInBounds i a = (l.set i a).toArray := List.setIfInBounds_toArray l i a
theorem sz_ {α : Type} {a b : α} {l : List α} : (a :: l).set 0 b = b :: l := rfl
theorem ss_ {α : Type} {a b : α} {l : List α} {n : Nat} : (a :: l).set (n + 1) b = a :: l.set n b := rfl
end usufructref25_Longest
open usufructref25_Longest in
set_option maxHeartbeats 8000000 in
set_option maxRecDepth 100000 in
theorem usufructref25_Longest.calls (k : Nat) (A0 : Option Addr) (c0 : Nat) (l0 : List (S28)) (A1 : Option Addr) (c1 : Nat) (l1 : List (S51)) (r : Int) (w : World) (hr0 : Kd.C k28 w A0 l0.length l0) (hc0 : l0.length ≤ c0) (hr1 : Kd.C k51 w A1 l1.length l1) (hc1 : l1.length ≤ c1) (h : usufructref25_Longest.f k l0 l1 = some r) :
    Calls Try.prog 12 #[.slice A0 l0.length c0, .slice A1 l1.length c1] w fun e w' => e = .returned (.int .i64 r) ∧ Below w.heap.size w w' := by
  have hu49 := Try.underlying49
  have HR0 := ak_ hr0
  have HC0 := ak_ hc0
  clear hr0 hc0
  have HR1 := ak_ hr1
  have HC1 := ak_ hc1
  clear hr1 hc1
  have HB := ak_ (Below.refl w.heap.size w)
  have H : (usufructref25_Longest.l0 k l0 l1 0 0) = some r := h
  clear h
  have H' := ak_ H
  clear H
  go_enter Try.func12, Try.ntmps12
  go_wp2
  repeat (go_quiet (fail); try go_wp2)
  go_loopg [5, 6] k (fun kq v5 v6 w' => ∃ (x5_1 : Int) (x6_1 : Int), v5 = .int .i64 x5_1 ∧ v6 = .int .i64 x6_1 ∧ Aside0 (usufructref25_Longest.l0 kq l0 l1 x5_1 x6_1 = some r) ∧ Aside0 (kq ≤ k) ∧ Aside0 (Below w.heap.size w w'))
  case atStart => exact ⟨(0), (0), (by first | rfl | (simp; done) | (simp [*]; done)), (by first | rfl | (simp; done) | (simp [*]; done)), H', ⟨Nat.le_refl _⟩, ⟨by repeat (first | (with_reducible first | exact HB.out | apply pa_ | apply pd_ | apply p1_) | exact HB.out)⟩⟩
  case round =>
    clear H'
    try clear c1
    try clear p2
    obtain ⟨x5_1, x6_1, rfl, rfl, HA, HK1, HB⟩ := hrel
    cases gk with
    | zero => exact absurd HA.out (by simp [usufructref25_Longest.l0])
    | succ k1 =>
      have H := HA.out
      clear HA
      simp only [usufructref25_Longest.l0] at H
      by_cases c3 : x6_1 < (l0.length : Int)
      · rw [if_pos c3] at H
        have c3b0 : decide (x6_1 < (l0.length : Int)) = true := decide_eq_true c3
        clear c3
        have H' := ak_ H
        clear H
        go_wp2
        repeat (go_quiet (fail); try go_wp2)
        go_loopg [5, 7] k1 (fun kq v5 v7 w' => ∃ (x5_2 : Int) (x7_2 : Int), v5 = .int .i64 x5_2 ∧ v7 = .int .i64 x7_2 ∧ Aside0 (usufructref25_Longest.l1 kq l0 l1 x5_2 x6_1 x7_2 = some r) ∧ Aside0 (kq ≤ k1) ∧ Aside0 (Below w.heap.size w w'))
        case atStart => exact ⟨(x5_1), (0), (by first | rfl | (simp; done) | (simp [*]; done)), (by first | rfl | (simp; done) | (simp [*]; done)), H', ⟨Nat.le_refl _⟩, ⟨by repeat (first | (with_reducible first | exact HB.out | apply pa_ | apply pd_ | apply p1_) | exact HB.out)⟩⟩
        case round =>
          clear H'
          try clear c1
          try clear p2
          try clear c3
          try clear c3b0
          try clear p2
          obtain ⟨x5_2, x7_2, rfl, rfl, HA, HK2, HB⟩ := hrel
          cases gk with
          | zero => exact absurd HA.out (by simp [usufructref25_Longest.l1])
          | succ k2 =>
            have H := HA.out
            clear HA
            simp only [usufructref25_Longest.l1] at H
            by_cases c4 : 0 ≤ x6_1
            · rw [if_pos c4] at H
              have c4b0 : decide (0 ≤ x6_1) = true := decide_eq_true c4
              clear c4
              by_cases c5 : x6_1 < (l0.length : Int)
              · rw [if_pos c5] at H
                have c5b0 : decide (x6_1 < (l0.length : Int)) = true := decide_eq_true c5
                clear c5
                by_cases c6 : x7_2 < (((rd_T28 l0 x6_1).f2).length : Int)
                · rw [if_pos c6] at H
                  have c6b0 : decide (x7_2 < (((rd_T28 l0 x6_1).f2).length : Int)) = true := decide_eq_true c6
                  clear c6
                  by_cases c7 : 0 ≤ x7_2
                  · rw [if_pos c7] at H
                    have c7b0 : decide (0 ≤ x7_2) = true := decide_eq_true c7
                    clear c7
                    replace H := Option.bind_eq_some_iff.mp H
                    obtain ⟨t142, A80, H⟩ := H
                    replace H : ((usufructref25_up.f t142 ((rd_T49 ((rd_T28 l0 x6_1).f2) x7_2).f3.f3)).bind fun t143 => ((usufructref25_up.f t143 ((rd_T49 ((rd_T28 l0 x6_1).f2) x7_2).f4.f3)).bind fun t144 => (usufructref25_Longest.l1 k2 l0 l1 t144 x6_1 (wrap64 (x7_2 + 1))))) = some r := H
                    have A8 := ak_ A80
                    clear A80
                    replace H := Option.bind_eq_some_iff.mp H
                    obtain ⟨t143, A90, H⟩ := H
                    replace H : ((usufructref25_up.f t143 ((rd_T49 ((rd_T28 l0 x6_1).f2) x7_2).f4.f3)).bind fun t144 => (usufructref25_Longest.l1 k2 l0 l1 t144 x6_1 (wrap64 (x7_2 + 1)))) = some r := H
                    have A9 := ak_ A90
                    clear A90
                    replace H := Option.bind_eq_some_iff.mp H
                    obtain ⟨t144, A100, H⟩ := H
                    replace H : (usufructref25_Longest.l1 k2 l0 l1 t144 x6_1 (wrap64 (x7_2 + 1))) = some r := H
                    have A10 := ak_ A100
                    clear A100
                    have H' := ak_ H
                    clear H
                    have p138 : 0 ≤ (x6_1 : Int) := of_decide_eq_true (by assumption)
                    have q138 : x6_1 < (l0.length : Int) := of_decide_eq_true (by assumption)
                    obtain ⟨ad138, A138_2, c138_2, e138, hx138_0, hx138_1, hx138_2, hl138_2, hi138_2⟩ := at_T28 HR0.out x6_1 p138 q138
                    cases e138
                    replace hx138_0 := (HB.out.cell (bl_ w _ hx138_0)).trans hx138_0
                    replace hx138_1 := (HB.out.cell (bl_ w _ hx138_1)).trans hx138_1
                    replace hx138_2 := (HB.out.cell (bl_ w _ hx138_2)).trans hx138_2
                    have HR138_2 := ak_ hi138_2
                    have HC138_2 := ak_ hl138_2
                    clear hi138_2 hl138_2
                    replace p138 := eq_true p138
                    replace q138 := eq_true q138
                    have p139 : 0 ≤ (x6_1 : Int) := of_decide_eq_true (by assumption)
                    have q139 : x6_1 < (l0.length : Int) := of_decide_eq_true (by assumption)
                    obtain ⟨ad139, A139_2, c139_2, e139, hx139_0, hx139_1, hx139_2, hl139_2, hi139_2⟩ := at_T28 HR0.out x6_1 p139 q139
                    obtain rfl : ad138 = ad139 := (by injection e139)
                    replace hx139_0 := (HB.out.cell (bl_ w _ hx139_0)).trans hx139_0
                    replace hx139_1 := (HB.out.cell (bl_ w _ hx139_1)).trans hx139_1
                    replace hx139_2 := (HB.out.cell (bl_ w _ hx139_2)).trans hx139_2
                    have HR139_2 := ak_ hi139_2
                    have HC139_2 := ak_ hl139_2
                    clear hi139_2 hl139_2
                    replace p139 := eq_true p139
                    replace q139 := eq_true q139
                    have ea_ := Option.some.inj (hx138_2.symm.trans hx139_2)
                    injection ea_ with ea_ en_ ec_
                    subst ea_
                    subst ec_
                    clear en_
                    have p140 : 0 ≤ (x7_2 : Int) := of_decide_eq_true (by assumption)
                    have q140 : x7_2 < (((rd_T28 l0 x6_1).f2).length : Int) := of_decide_eq_true (by assumption)
                    obtain ⟨ad140, e140, hx140_0, hx140_1, hx140_2, hx140_3, hx140_4, hx140_5, hx140_6, hx140_7, hx140_8, hx140_9, hx140_10, hx140_11⟩ := at_T49 HR139_2.out x7_2 p140 q140
                    cases e140
                    replace hx140_0 := (HB.out.cell (bl_ w _ hx140_0)).trans hx140_0
                    replace hx140_1 := (HB.out.cell (bl_ w _ hx140_1)).trans hx140_1
                    replace hx140_2 := (HB.out.cell (bl_ w _ hx140_2)).trans hx140_2
                    replace hx140_3 := (HB.out.cell (bl_ w _ hx140_3)).trans hx140_3
                    replace hx140_4 := (HB.out.cell (bl_ w _ hx140_4)).trans hx140_4
                    replace hx140_5 := (HB.out.cell (bl_ w _ hx140_5)).trans hx140_5
                    replace hx140_6 := (HB.out.cell (bl_ w _ hx140_6)).trans hx140_6
                    replace hx140_7 := (HB.out.cell (bl_ w _ hx140_7)).trans hx140_7
                    replace hx140_8 := (HB.out.cell (bl_ w _ hx140_8)).trans hx140_8
                    replace hx140_9 := (HB.out.cell (bl_ w _ hx140_9)).trans hx140_9
                    replace hx140_10 := (HB.out.cell (bl_ w _ hx140_10)).trans hx140_10
                    replace hx140_11 := (HB.out.cell (bl_ w _ hx140_11)).trans hx140_11
                    replace p140 := eq_true p140
                    replace q140 := eq_true q140
                    go_wp2_with (first | ((with_reducible refine gate_dst (N := 8) rfl ?_); refine box_event ?hg (N := 8) ?hd (cs := #[.string ⟨#[]⟩, .string ⟨#[]⟩, .int .i64 0, .int .i64 0, .int .i64 0, .int .i64 0, .int .i64 0, .int .i64 0, .int .i64 0, .int .i64 0, .int .i64 0, .int .i64 0]) (t := 49) ?hr ?_; (case hd => rfl); (case hg => rfl); (case hr => first | (go_simp; done) | (go_simp; rfl)); intro gb141 hg w11 hbox hb; have n0_ := ak_ (ps_ (by repeat (first | (with_reducible first | exact HB.out | apply pa_ | apply pd_ | apply p1_) | exact HB.out)) hb); have n1_ := ak_ (hbox); have n2_ := ak_ ((by rw [hg]; exact (below_size (by repeat (first | (with_reducible first | exact HB.out | apply pa_ | apply pd_ | apply p1_) | exact HB.out))) : w.heap.size ≤ gb141)); have n3_ := ak_ ((by rw [hg]; exact (below_size (by repeat (first | (with_reducible first | exact HB.out | apply pa_ | apply pd_ | apply p1_) | exact HB.out))) : w.heap.size ≤ gb141)); clear HB; have HB := n0_; have BK141 := n1_; have GW141 := n2_; have GE141 := n3_; clear n0_ n1_ n2_ n3_; clear hb hbox hg; have hcz12_0 : w11.cell? ⟨gb141, 0, none⟩ = some (.string ⟨#[]⟩) := (zc_ BK141.out 0).trans rfl; have hcz12_1 : w11.cell? ⟨gb141, 1, none⟩ = some (.string ⟨#[]⟩) := (zc_ BK141.out 1).trans rfl; have hcz12_2 : w11.cell? ⟨gb141, 2, none⟩ = some (.int .i64 0) := (zc_ BK141.out 2).trans rfl; have hcz12_3 : w11.cell? ⟨gb141, 3, none⟩ = some (.int .i64 0) := (zc_ BK141.out 3).trans rfl; have hcz12_4 : w11.cell? ⟨gb141, 4, none⟩ = some (.int .i64 0) := (zc_ BK141.out 4).trans rfl; have hcz12_5 : w11.cell? ⟨gb141, 5, none⟩ = some (.int .i64 0) := (zc_ BK141.out 5).trans rfl; have hcz12_6 : w11.cell? ⟨gb141, 6, none⟩ = some (.int .i64 0) := (zc_ BK141.out 6).trans rfl; have hcz12_7 : w11.cell? ⟨gb141, 7, none⟩ = some (.int .i64 0) := (zc_ BK141.out 7).trans rfl; have hcz12_8 : w11.cell? ⟨gb141, 8, none⟩ = some (.int .i64 0) := (zc_ BK141.out 8).trans rfl; have hcz12_9 : w11.cell? ⟨gb141, 9, none⟩ = some (.int .i64 0) := (zc_ BK141.out 9).trans rfl; have hcz12_10 : w11.cell? ⟨gb141, 10, none⟩ = some (.int .i64 0) := (zc_ BK141.out 10).trans rfl; have hcz12_11 : w11.cell? ⟨gb141, 11, none⟩ = some (.int .i64 0) := (zc_ BK141.out 11).trans rfl; have hfz12_0 := zf_ BK141.out 0; have hfz12_1 := zf_ BK141.out 1; have hfz12_2 := zf_ BK141.out 2; have hfz12_3 := zf_ BK141.out 3; have hfz12_4 := zf_ BK141.out 4; have hfz12_5 := zf_ BK141.out 5; have hfz12_6 := zf_ BK141.out 6; have hfz12_7 := zf_ BK141.out 7; have hfz12_8 := zf_ BK141.out 8; have hfz12_9 := zf_ BK141.out 9; have hfz12_10 := zf_ BK141.out 10; have hfz12_11 := zf_ BK141.out 11) | (go_at_call 22; (with_reducible refine (usufructref25_up.calls x5_2 ((rd_T49 ((rd_T28 l0 x6_1).f2) x7_2).f2) t142 _ A8.out).mono ?_); rintro e w' ⟨rfl, ⟨nd, rfl⟩⟩; (try first | exact ⟨rfl, _, World.drewN_drewN _ _ _⟩ | exact ⟨rfl, _, Eq.trans (World.drewN_drewN _ _ _) (congrArg (World.drewN _) (Nat.add_assoc _ _ _))⟩)) | (go_at_call 22; (with_reducible refine (usufructref25_up.calls t142 ((rd_T49 ((rd_T28 l0 x6_1).f2) x7_2).f3.f3) t143 _ A9.out).mono ?_); rintro e w' ⟨rfl, ⟨nd, rfl⟩⟩; (try first | exact ⟨rfl, _, World.drewN_drewN _ _ _⟩ | exact ⟨rfl, _, Eq.trans (World.drewN_drewN _ _ _) (congrArg (World.drewN _) (Nat.add_assoc _ _ _))⟩)) | (go_at_call 22; (with_reducible refine (usufructref25_up.calls t143 ((rd_T49 ((rd_T28 l0 x6_1).f2) x7_2).f4.f3) t144 _ A10.out).mono ?_); rintro e w' ⟨rfl, ⟨nd, rfl⟩⟩; (try first | exact ⟨rfl, _, World.drewN_drewN _ _ _⟩ | exact ⟨rfl, _, Eq.trans (World.drewN_drewN _ _ _) (congrArg (World.drewN _) (Nat.add_assoc _ _ _))⟩)))
                    repeat (go_quiet (first | ((with_reducible refine gate_dst (N := 8) rfl ?_); refine box_event ?hg (N := 8) ?hd (cs := #[.string ⟨#[]⟩, .string ⟨#[]⟩, .int .i64 0, .int .i64 0, .int .i64 0, .int .i64 0, .int .i64 0, .int .i64 0, .int .i64 0, .int .i64 0, .int .i64 0, .int .i64 0]) (t := 49) ?hr ?_; (case hd => rfl); (case hg => rfl); (case hr => first | (go_simp; done) | (go_simp; rfl)); intro gb141 hg w11 hbox hb; have n0_ := ak_ (ps_ (by repeat (first | (with_reducible first | exact HB.out | apply pa_ | apply pd_ | apply p1_) | exact HB.out)) hb); have n1_ := ak_ (hbox); have n2_ := ak_ ((by rw [hg]; exact (below_size (by repeat (first | (with_reducible first | exact HB.out | apply pa_ | apply pd_ | apply p1_) | exact HB.out))) : w.heap.size ≤ gb141)); have n3_ := ak_ ((by rw [hg]; exact (below_size (by repeat (first | (with_reducible first | exact HB.out | apply pa_ | apply pd_ | apply p1_) | exact HB.out))) : w.heap.size ≤ gb141)); clear HB; have HB := n0_; have BK141 := n1_; have GW141 := n2_; have GE141 := n3_; clear n0_ n1_ n2_ n3_; clear hb hbox hg; have hcz12_0 : w11.cell? ⟨gb141, 0, none⟩ = some (.string ⟨#[]⟩) := (zc_ BK141.out 0).trans rfl; have hcz12_1 : w11.cell? ⟨gb141, 1, none⟩ = some (.string ⟨#[]⟩) := (zc_ BK141.out 1).trans rfl; have hcz12_2 : w11.cell? ⟨gb141, 2, none⟩ = some (.int .i64 0) := (zc_ BK141.out 2).trans rfl; have hcz12_3 : w11.cell? ⟨gb141, 3, none⟩ = some (.int .i64 0) := (zc_ BK141.out 3).trans rfl; have hcz12_4 : w11.cell? ⟨gb141, 4, none⟩ = some (.int .i64 0) := (zc_ BK141.out 4).trans rfl; have hcz12_5 : w11.cell? ⟨gb141, 5, none⟩ = some (.int .i64 0) := (zc_ BK141.out 5).trans rfl; have hcz12_6 : w11.cell? ⟨gb141, 6, none⟩ = some (.int .i64 0) := (zc_ BK141.out 6).trans rfl; have hcz12_7 : w11.cell? ⟨gb141, 7, none⟩ = some (.int .i64 0) := (zc_ BK141.out 7).trans rfl; have hcz12_8 : w11.cell? ⟨gb141, 8, none⟩ = some (.int .i64 0) := (zc_ BK141.out 8).trans rfl; have hcz12_9 : w11.cell? ⟨gb141, 9, none⟩ = some (.int .i64 0) := (zc_ BK141.out 9).trans rfl; have hcz12_10 : w11.cell? ⟨gb141, 10, none⟩ = some (.int .i64 0) := (zc_ BK141.out 10).trans rfl; have hcz12_11 : w11.cell? ⟨gb141, 11, none⟩ = some (.int .i64 0) := (zc_ BK141.out 11).trans rfl; have hfz12_0 := zf_ BK141.out 0; have hfz12_1 := zf_ BK141.out 1; have hfz12_2 := zf_ BK141.out 2; have hfz12_3 := zf_ BK141.out 3; have hfz12_4 := zf_ BK141.out 4; have hfz12_5 := zf_ BK141.out 5; have hfz12_6 := zf_ BK141.out 6; have hfz12_7 := zf_ BK141.out 7; have hfz12_8 := zf_ BK141.out 8; have hfz12_9 := zf_ BK141.out 9; have hfz12_10 := zf_ BK141.out 10; have hfz12_11 := zf_ BK141.out 11) | (go_at_call 22; (with_reducible refine (usufructref25_up.calls x5_2 ((rd_T49 ((rd_T28 l0 x6_1).f2) x7_2).f2) t142 _ A8.out).mono ?_); rintro e w' ⟨rfl, ⟨nd, rfl⟩⟩; (try first | exact ⟨rfl, _, World.drewN_drewN _ _ _⟩ | exact ⟨rfl, _, Eq.trans (World.drewN_drewN _ _ _) (congrArg (World.drewN _) (Nat.add_assoc _ _ _))⟩)) | (go_at_call 22; (with_reducible refine (usufructref25_up.calls t142 ((rd_T49 ((rd_T28 l0 x6_1).f2) x7_2).f3.f3) t143 _ A9.out).mono ?_); rintro e w' ⟨rfl, ⟨nd, rfl⟩⟩; (try first | exact ⟨rfl, _, World.drewN_drewN _ _ _⟩ | exact ⟨rfl, _, Eq.trans (World.drewN_drewN _ _ _) (congrArg (World.drewN _) (Nat.add_assoc _ _ _))⟩)) | (go_at_call 22; (with_reducible refine (usufructref25_up.calls t143 ((rd_T49 ((rd_T28 l0 x6_1).f2) x7_2).f4.f3) t144 _ A10.out).mono ?_); rintro e w' ⟨rfl, ⟨nd, rfl⟩⟩; (try first | exact ⟨rfl, _, World.drewN_drewN _ _ _⟩ | exact ⟨rfl, _, Eq.trans (World.drewN_drewN _ _ _) (congrArg (World.drewN _) (Nat.add_assoc _ _ _))⟩))); try go_wp2_with (first | ((with_reducible refine gate_dst (N := 8) rfl ?_); refine box_event ?hg (N := 8) ?hd (cs := #[.string ⟨#[]⟩, .string ⟨#[]⟩, .int .i64 0, .int .i64 0, .int .i64 0, .int .i64 0, .int .i64 0, .int .i64 0, .int .i64 0, .int .i64 0, .int .i64 0, .int .i64 0]) (t := 49) ?hr ?_; (case hd => rfl); (case hg => rfl); (case hr => first | (go_simp; done) | (go_simp; rfl)); intro gb141 hg w11 hbox hb; have n0_ := ak_ (ps_ (by repeat (first | (with_reducible first | exact HB.out | apply pa_ | apply pd_ | apply p1_) | exact HB.out)) hb); have n1_ := ak_ (hbox); have n2_ := ak_ ((by rw [hg]; exact (below_size (by repeat (first | (with_reducible first | exact HB.out | apply pa_ | apply pd_ | apply p1_) | exact HB.out))) : w.heap.size ≤ gb141)); have n3_ := ak_ ((by rw [hg]; exact (below_size (by repeat (first | (with_reducible first | exact HB.out | apply pa_ | apply pd_ | apply p1_) | exact HB.out))) : w.heap.size ≤ gb141)); clear HB; have HB := n0_; have BK141 := n1_; have GW141 := n2_; have GE141 := n3_; clear n0_ n1_ n2_ n3_; clear hb hbox hg; have hcz12_0 : w11.cell? ⟨gb141, 0, none⟩ = some (.string ⟨#[]⟩) := (zc_ BK141.out 0).trans rfl; have hcz12_1 : w11.cell? ⟨gb141, 1, none⟩ = some (.string ⟨#[]⟩) := (zc_ BK141.out 1).trans rfl; have hcz12_2 : w11.cell? ⟨gb141, 2, none⟩ = some (.int .i64 0) := (zc_ BK141.out 2).trans rfl; have hcz12_3 : w11.cell? ⟨gb141, 3, none⟩ = some (.int .i64 0) := (zc_ BK141.out 3).trans rfl; have hcz12_4 : w11.cell? ⟨gb141, 4, none⟩ = some (.int .i64 0) := (zc_ BK141.out 4).trans rfl; have hcz12_5 : w11.cell? ⟨gb141, 5, none⟩ = some (.int .i64 0) := (zc_ BK141.out 5).trans rfl; have hcz12_6 : w11.cell? ⟨gb141, 6, none⟩ = some (.int .i64 0) := (zc_ BK141.out 6).trans rfl; have hcz12_7 : w11.cell? ⟨gb141, 7, none⟩ = some (.int .i64 0) := (zc_ BK141.out 7).trans rfl; have hcz12_8 : w11.cell? ⟨gb141, 8, none⟩ = some (.int .i64 0) := (zc_ BK141.out 8).trans rfl; have hcz12_9 : w11.cell? ⟨gb141, 9, none⟩ = some (.int .i64 0) := (zc_ BK141.out 9).trans rfl; have hcz12_10 : w11.cell? ⟨gb141, 10, none⟩ = some (.int .i64 0) := (zc_ BK141.out 10).trans rfl; have hcz12_11 : w11.cell? ⟨gb141, 11, none⟩ = some (.int .i64 0) := (zc_ BK141.out 11).trans rfl; have hfz12_0 := zf_ BK141.out 0; have hfz12_1 := zf_ BK141.out 1; have hfz12_2 := zf_ BK141.out 2; have hfz12_3 := zf_ BK141.out 3; have hfz12_4 := zf_ BK141.out 4; have hfz12_5 := zf_ BK141.out 5; have hfz12_6 := zf_ BK141.out 6; have hfz12_7 := zf_ BK141.out 7; have hfz12_8 := zf_ BK141.out 8; have hfz12_9 := zf_ BK141.out 9; have hfz12_10 := zf_ BK141.out 10; have hfz12_11 := zf_ BK141.out 11) | (go_at_call 22; (with_reducible refine (usufructref25_up.calls x5_2 ((rd_T49 ((rd_T28 l0 x6_1).f2) x7_2).f2) t142 _ A8.out).mono ?_); rintro e w' ⟨rfl, ⟨nd, rfl⟩⟩; (try first | exact ⟨rfl, _, World.drewN_drewN _ _ _⟩ | exact ⟨rfl, _, Eq.trans (World.drewN_drewN _ _ _) (congrArg (World.drewN _) (Nat.add_assoc _ _ _))⟩)) | (go_at_call 22; (with_reducible refine (usufructref25_up.calls t142 ((rd_T49 ((rd_T28 l0 x6_1).f2) x7_2).f3.f3) t143 _ A9.out).mono ?_); rintro e w' ⟨rfl, ⟨nd, rfl⟩⟩; (try first | exact ⟨rfl, _, World.drewN_drewN _ _ _⟩ | exact ⟨rfl, _, Eq.trans (World.drewN_drewN _ _ _) (congrArg (World.drewN _) (Nat.add_assoc _ _ _))⟩)) | (go_at_call 22; (with_reducible refine (usufructref25_up.calls t143 ((rd_T49 ((rd_T28 l0 x6_1).f2) x7_2).f4.f3) t144 _ A10.out).mono ?_); rintro e w' ⟨rfl, ⟨nd, rfl⟩⟩; (try first | exact ⟨rfl, _, World.drewN_drewN _ _ _⟩ | exact ⟨rfl, _, Eq.trans (World.drewN_drewN _ _ _) (congrArg (World.drewN _) (Nat.add_assoc _ _ _))⟩))))
                    go_roundg k2
                    case measure => have := HK1.out; have := HK2.out; omega
                    case rel => exact ⟨(t144), (wrap64 (x7_2 + 1)), (by first | rfl | (simp; done) | (simp [*]; done)), (by first | rfl | (simp; done) | (simp [*]; done)), H', ⟨by have := HK1.out; have := HK2.out; omega⟩, ⟨by repeat (first | (with_reducible first | exact HB.out | apply pa_ | apply pd_ | apply p1_ | refine zs_ ?_ GE141.out) | exact HB.out)⟩⟩
                  rw [if_neg c7] at H
                  exact absurd H (by simp)
                rw [if_neg c6] at H
                have c6b0 : decide (x7_2 < (((rd_T28 l0 x6_1).f2).length : Int)) = false := decide_eq_false c6
                clear c6
                have H' := ak_ H
                clear H
                have p138 : 0 ≤ (x6_1 : Int) := of_decide_eq_true (by assumption)
                have q138 : x6_1 < (l0.length : Int) := of_decide_eq_true (by assumption)
                obtain ⟨ad138, A138_2, c138_2, e138, hx138_0, hx138_1, hx138_2, hl138_2, hi138_2⟩ := at_T28 HR0.out x6_1 p138 q138
                cases e138
                replace hx138_0 := (HB.out.cell (bl_ w _ hx138_0)).trans hx138_0
                replace hx138_1 := (HB.out.cell (bl_ w _ hx138_1)).trans hx138_1
                replace hx138_2 := (HB.out.cell (bl_ w _ hx138_2)).trans hx138_2
                have HR138_2 := ak_ hi138_2
                have HC138_2 := ak_ hl138_2
                clear hi138_2 hl138_2
                replace p138 := eq_true p138
                replace q138 := eq_true q138
                go_wp2
                repeat (go_quiet (fail); try go_wp2)
                go_roundg k2
                case measure => have := HK1.out; have := HK2.out; omega
                case rel => exact ⟨(x5_2), (wrap64 (x6_1 + 1)), (by first | rfl | (simp; done) | (simp [*]; done)), (by first | rfl | (simp; done) | (simp [*]; done)), H', ⟨by have := HK1.out; have := HK2.out; omega⟩, ⟨by repeat (first | (with_reducible first | exact HB.out | apply pa_ | apply pd_ | apply p1_) | exact HB.out)⟩⟩
              rw [if_neg c5] at H
              exact absurd H (by simp)
            rw [if_neg c4] at H
            exact absurd H (by simp)
      rw [if_neg c3] at H
      have c3b0 : decide (x6_1 < (l0.length : Int)) = false := decide_eq_false c3
      clear c3
      have H' := ak_ H
      clear H
      go_wp2
      repeat (go_quiet (fail); try go_wp2)
      go_loopg [5, 9] k1 (fun kq v5 v9 w' => ∃ (x5_2 : Int) (x9_2 : Int), v5 = .int .i64 x5_2 ∧ v9 = .int .i64 x9_2 ∧ Aside0 (usufructref25_Longest.l2 kq l1 x5_2 x9_2 = some r) ∧ Aside0 (kq ≤ k1) ∧ Aside0 (Below w.heap.size w w'))
      case atStart => exact ⟨(x5_1), (0), (by first | rfl | (simp; done) | (simp [*]; done)), (by first | rfl | (simp; done) | (simp [*]; done)), H', ⟨Nat.le_refl _⟩, ⟨by repeat (first | (with_reducible first | exact HB.out | apply pa_ | apply pd_ | apply p1_) | exact HB.out)⟩⟩
      case round =>
        clear H'
        try clear c1
        try clear p1
        try clear q1
        try clear hx1
        try clear p2
        try clear c3
        try clear c3b0
        try clear c4
        try clear c4b0
        try clear c5
        try clear c5b0
        try clear c6
        try clear c6b0
        try clear p6
        try clear c7
        try clear c7b0
        try clear c12
        try clear hcz12_0
        try clear hcz12_1
        try clear hcz12_10
        try clear hcz12_11
        try clear hcz12_2
        try clear hcz12_3
        try clear hcz12_4
        try clear hcz12_5
        try clear hcz12_6
        try clear hcz12_7
        try clear hcz12_8
        try clear hcz12_9
        try clear hfz12_0
        try clear hfz12_1
        try clear hfz12_10
        try clear hfz12_11
        try clear hfz12_2
        try clear hfz12_3
        try clear hfz12_4
        try clear hfz12_5
        try clear hfz12_6
        try clear hfz12_7
        try clear hfz12_8
        try clear hfz12_9
        try clear hx138_0
        try clear hx138_1
        try clear hx138_2
        try clear hx139_0
        try clear hx139_1
        try clear hx139_2
        try clear hx140_0
        try clear hx140_1
        try clear hx140_10
        try clear hx140_11
        try clear hx140_2
        try clear hx140_3
        try clear hx140_4
        try clear hx140_5
        try clear hx140_6
        try clear hx140_7
        try clear hx140_8
        try clear hx140_9
        try clear p138
        try clear p139
        try clear p140
        try clear p2
        try clear q138
        try clear q139
        try clear q140
        obtain ⟨x5_2, x9_2, rfl, rfl, HA, HK2, HB⟩ := hrel
        cases gk with
        | zero => exact absurd HA.out (by simp [usufructref25_Longest.l2])
        | succ k2 =>
          have H := HA.out
          clear HA
          simp only [usufructref25_Longest.l2] at H
          by_cases c13 : x9_2 < (l1.length : Int)
          · rw [if_pos c13] at H
            have c13b0 : decide (x9_2 < (l1.length : Int)) = true := decide_eq_true c13
            clear c13
            by_cases c14 : 0 ≤ x9_2
            · rw [if_pos c14] at H
              have c14b0 : decide (0 ≤ x9_2) = true := decide_eq_true c14
              clear c14
              replace H := Option.bind_eq_some_iff.mp H
              obtain ⟨t146, A150, H⟩ := H
              replace H : (usufructref25_Longest.l2 k2 l1 t146 (wrap64 (x9_2 + 1))) = some r := H
              have A15 := ak_ A150
              clear A150
              have H' := ak_ H
              clear H
              have p145 : 0 ≤ (x9_2 : Int) := of_decide_eq_true (by assumption)
              have q145 : x9_2 < (l1.length : Int) := of_decide_eq_true (by assumption)
              obtain ⟨ad145, e145, hx145_0, hx145_1, hx145_2, hx145_3, hx145_4⟩ := at_T51 HR1.out x9_2 p145 q145
              cases e145
              replace hx145_0 := (HB.out.cell (bl_ w _ hx145_0)).trans hx145_0
              replace hx145_1 := (HB.out.cell (bl_ w _ hx145_1)).trans hx145_1
              replace hx145_2 := (HB.out.cell (bl_ w _ hx145_2)).trans hx145_2
              replace hx145_3 := (HB.out.cell (bl_ w _ hx145_3)).trans hx145_3
              replace hx145_4 := (HB.out.cell (bl_ w _ hx145_4)).trans hx145_4
              replace p145 := eq_true p145
              replace q145 := eq_true q145
              go_wp2_with (first | (go_at_call 22; (with_reducible refine (usufructref25_up.calls x5_2 ((rd_T51 l1 x9_2).f3) t146 _ A15.out).mono ?_); rintro e w' ⟨rfl, ⟨nd, rfl⟩⟩; (try first | exact ⟨rfl, _, World.drewN_drewN _ _ _⟩ | exact ⟨rfl, _, Eq.trans (World.drewN_drewN _ _ _) (congrArg (World.drewN _) (Nat.add_assoc _ _ _))⟩)))
              repeat (go_quiet (first | (go_at_call 22; (with_reducible refine (usufructref25_up.calls x5_2 ((rd_T51 l1 x9_2).f3) t146 _ A15.out).mono ?_); rintro e w' ⟨rfl, ⟨nd, rfl⟩⟩; (try first | exact ⟨rfl, _, World.drewN_drewN _ _ _⟩ | exact ⟨rfl, _, Eq.trans (World.drewN_drewN _ _ _) (congrArg (World.drewN _) (Nat.add_assoc _ _ _))⟩))); try go_wp2_with (first | (go_at_call 22; (with_reducible refine (usufructref25_up.calls x5_2 ((rd_T51 l1 x9_2).f3) t146 _ A15.out).mono ?_); rintro e w' ⟨rfl, ⟨nd, rfl⟩⟩; (try first | exact ⟨rfl, _, World.drewN_drewN _ _ _⟩ | exact ⟨rfl, _, Eq.trans (World.drewN_drewN _ _ _) (congrArg (World.drewN _) (Nat.add_assoc _ _ _))⟩))))
              go_roundg k2
              case measure => have := HK1.out; have := HK2.out; omega
              case rel => exact ⟨(t146), (wrap64 (x9_2 + 1)), (by first | rfl | (simp; done) | (simp [*]; done)), (by first | rfl | (simp; done) | (simp [*]; done)), H', ⟨by have := HK1.out; have := HK2.out; omega⟩, ⟨by repeat (first | (with_reducible first | exact HB.out | apply pa_ | apply pd_ | apply p1_) | exact HB.out)⟩⟩
            rw [if_neg c14] at H
            exact absurd H (by simp)
          rw [if_neg c13] at H
          have c13b0 : decide (x9_2 < (l1.length : Int)) = false := decide_eq_false c13
          clear c13
          obtain rfl := Option.some.inj H
          go_wp2
          repeat (go_quiet (fail); try go_wp2)
          go_ret
          exact ⟨by first | rfl | (simp [errW_none, errW_some] <;> rfl) | (simp [*, errW_none, errW_some] <;> rfl), by repeat (first | (with_reducible first | exact HB.out | apply pa_ | apply pd_ | apply p1_) | exact HB.out)⟩

end Go.Proofs.Ytookpfpmobbhiaa.Q
