-- written for this claim by a program of the session
import Derived.Test.YtookpfpmobbhiaaQx0
namespace Go.Proofs.Ytookpfpmobbhiaa.Q
open Go.RowKit Go.Proofs.YtookpfpmobbhiaaW.PrintWords Go.Proofs.YtookpfpmobbhiaaW.PrintLast Go.Proofs.YtookpfpmobbhiaaW.PrintMore
attribute [local go_sem] max2_int min2_int max_two min_two max_three min_three max_four min_four   -- for this text's walks alone
set_option linter.unusedVariables false
set_option linter.unusedSimpArgs false

/-! ### usufructlaw13_Small: function 7 -/
mutual
def usufructlaw13_Small.j0 : Nat → Bool → ByteArray → Int → List (S49) → Option (Int)
  | 0, _, _, _, _ => none
  | k + 1, x13, x112000, x112001, x112002 => if x13 = true then (some 1) else (usufructlaw13_Small.l0 k 0 x112000 x112001 x112002)
def usufructlaw13_Small.l0 : Nat → Int → ByteArray → Int → List (S49) → Option (Int)
  | 0, _, _, _, _ => none
  | k + 1, x3, x112000, x112001, x112002 => if x3 < (x112002.length : Int) then (if 0 ≤ x3 then (if (((rd_T49 x112002 x3).f0).size : Int) > 100 then (some 2) else (if (((rd_T49 x112002 x3).f1).size : Int) > 100 then (some 2) else (usufructlaw13_Small.l0 k (wrap64 (x3 + 1)) x112000 x112001 x112002))) else (none)) else (some 0)
end
def usufructlaw13_Small.f (k : Nat) (a0_0 : ByteArray) (a0_1 : Int) (l0_2 : List (S49)) : Option (Int) := if (l0_2.length : Int) > 40 then (usufructlaw13_Small.j0 k true a0_0 a0_1 l0_2) else (usufructlaw13_Small.j0 k (decide ((a0_0.size : Int) > 100)) a0_0 a0_1 l0_2)
theorem usufructlaw13_Small.mono_l : ∀ k, (∀ y0 y1 y2 y3, LeO (usufructlaw13_Small.j0 k y0 y1 y2 y3) (usufructlaw13_Small.j0 (k + 1) y0 y1 y2 y3)) ∧ (∀ y0 y1 y2 y3, LeO (usufructlaw13_Small.l0 k y0 y1 y2 y3) (usufructlaw13_Small.l0 (k + 1) y0 y1 y2 y3))
  | 0 => ⟨fun _ _ _ _ r h => by simp [usufructlaw13_Small.j0] at h, fun _ _ _ _ r h => by simp [usufructlaw13_Small.l0] at h⟩
  | k + 1 => by
    obtain ⟨ih0, ih1⟩ := usufructlaw13_Small.mono_l k
    refine ⟨?_, ?_⟩
    · intro y0 y1 y2 y3
      unfold usufructlaw13_Small.j0
      repeat' first
      | (with_reducible exact ih0 _ _ _ _)
      | (with_reducible exact ih1 _ _ _ _)
      | (with_reducible exact LeO.refl _)
      | (with_reducible exact LeO.none _)
      | (with_reducible refine LeO.ite ?_ ?_)
      | (with_reducible refine LeO.bind ?_ (fun _ => ?_))
      | exact ih0 _ _ _ _
      | exact ih1 _ _ _ _
      | exact LeO.none _
      | refine LeO.ite ?_ ?_
      | refine LeO.bind ?_ (fun _ => ?_)
    · intro y0 y1 y2 y3
      unfold usufructlaw13_Small.l0
      repeat' first
      | (with_reducible exact ih0 _ _ _ _)
      | (with_reducible exact ih1 _ _ _ _)
      | (with_reducible exact LeO.refl _)
      | (with_reducible exact LeO.none _)
      | (with_reducible refine LeO.ite ?_ ?_)
      | (with_reducible refine LeO.bind ?_ (fun _ => ?_))
      | exact ih0 _ _ _ _
      | exact ih1 _ _ _ _
      | exact LeO.none _
      | refine LeO.ite ?_ ?_
      | refine LeO.bind ?_ (fun _ => ?_)
theorem usufructlaw13_Small.mono : ∀ a0 a1 a2 k, LeO (usufructlaw13_Small.f k a0 a1 a2) (usufructlaw13_Small.f (k + 1) a0 a1 a2) := by
  intro a0 a1 a2 k
  obtain ⟨ih0, ih1⟩ := usufructlaw13_Small.mono_l k
  unfold usufructlaw13_Small.f
  repeat' first
      | (with_reducible exact ih0 _ _ _ _)
      | (with_reducible exact ih1 _ _ _ _)
      | (with_reducible exact LeO.refl _)
      | (with_reducible exact LeO.none _)
      | (with_reducible refine LeO.ite ?_ ?_)
      | (with_reducible refine LeO.bind ?_ (fun _ => ?_))
      | exact ih0 _ _ _ _
      | exact ih1 _ _ _ _
      | exact LeO.none _
      | refine LeO.ite ?_ ?_
      | refine LeO.bind ?_ (fun _ => ?_)
namespace usufructlaw13_Small
theorem mt_ {α β : Type} {f : α → β} {l : List α} : l.toArray.map f = (l.map f).toArray := List.map_toArray
theorem mc_ {α β : Type} {f : α → β} {a : α} {l : List α} : (a :: l).map f = f a :: l.map f := rfl
theorem mn_ {α β : Type} {f : α → β} : ([] : List α).map f = [] := rfl
abbrev zn_ := @blk_drewN
abbrev zd_ := @blk_drew
abbrev za_ := @blk_alloc
abbrev zf_ := @blk_frozen
abbrev zc_ := @blk_cell
abbrev zs_ := @below_set
abbrev zr_ := @blk_far
abbrev zp_ := @blk_put
abbrev pd_ := @pw_below_drewN
abbrev p1_ := @below_drew1
abbrev pa_ := @below_alloc
abbrev ak_ := @Aside0.mk
abbrev bl_ := @World.block_lt_of_cell?
abbrev ps_ := @below_step
def b_ (n k : Nat) : Array Bool := ((List.range n).map fun i => k.testBit i).toArray
theorem sa_ {α : Type} {l : List α} {i : Nat} {a : α} : l.toArray.setIfInBounds i a = (l.set i a).toArray := List.setIfInBounds_toArray l i a
theorem sz_ {α : Type} {a b : α} {l : List α} : (a :: l).set 0 b = b :: l := rfl
theorem ss_ {α : Type} {a b : α} {l : List α} {n : Nat} : (a :: l).set (n + 1) b = a :: l.set n b := rfl
end usufructlaw13_Small
open usufructlaw13_Small in
set_option maxHeartbeats 8000000 in
set_option maxRecDepth 100000 in
theorem usufructlaw13_Small.calls (k : Nat) (a0_0 : ByteArray) (a0_1 : Int) (A0_2 : Option Addr) (c0_2 : Nat) (l0_2 : List (S49)) (r : Int) (w : World) (hr0_2 : Kd.C k49 w A0_2 l0_2.length l0_2) (hc0_2 : l0_2.length ≤ c0_2) (h : usufructlaw13_Small.f k a0_0 a0_1 l0_2 = some r) :
    Calls Try.prog 7 #[.agg #[.string a0_0, .int .i64 a0_1, .slice A0_2 l0_2.length c0_2]] w fun e w' => e = .returned (.int .i64 r) ∧ Below w.heap.size w w' := by
  have hu28 := Try.underlying28
  have HR0_2 := ak_ hr0_2
  have HC0_2 := ak_ hc0_2
  clear hr0_2 hc0_2
  have HB := ak_ (Below.refl w.heap.size w)
  have H : (if (l0_2.length : Int) > 40 then (usufructlaw13_Small.j0 k true a0_0 a0_1 l0_2) else (usufructlaw13_Small.j0 k (decide ((a0_0.size : Int) > 100)) a0_0 a0_1 l0_2)) = some r := h
  clear h
  have HC2 := ak_ H
  clear H
  go_enter Try.func7, Try.ntmps7
  go_upto_region 1 with (first | ((with_reducible refine gate_dst (N := 1) rfl ?_); (try (refine gate_guard (by rfl) ?_; dsimp only)); refine box_event ?hg (N := 1) ?hd (cs := #[.string a0_0, .int .i64 a0_1, .slice A0_2 l0_2.length c0_2]) (t := 28) ?hr ?_; (case hd => rfl); (case hg => rfl); (case hr => first | (go_simp; done) | (go_simp; rfl)); intro gb111 hg w3 hbox hb; have n0_ := ak_ (ps_ (by repeat (first | (with_reducible first | exact HB.out | apply pa_ | apply pd_ | apply p1_) | exact HB.out)) hb); have n1_ := ak_ (hbox); have n2_ := ak_ ((by rw [hg]; exact (below_size (by repeat (first | (with_reducible first | exact HB.out | apply pa_ | apply pd_ | apply p1_) | exact HB.out))) : w.heap.size ≤ gb111)); have n3_ := ak_ ((by rw [hg]; exact (below_size (by repeat (first | (with_reducible first | exact HB.out | apply pa_ | apply pd_ | apply p1_) | exact HB.out))) : w.heap.size ≤ gb111)); clear HB; have HB := n0_; have BK111 := n1_; have GW111 := n2_; have GE111 := n3_; clear n0_ n1_ n2_ n3_; clear hb hbox hg))
  (try simp only [Act.put, sa_, sz_, ss_])
  go_cut [13] (fun v13 wc => ∃ (kq : Nat) (x13_1 : Bool), v13 = .bool x13_1 ∧ Aside0 (usufructlaw13_Small.j0 kq x13_1 a0_0 a0_1 l0_2 = some r) ∧ Aside0 (kq ≤ k) ∧ Aside0 (wc.heap[gb111]? = some (.cells #[.string a0_0, .int .i64 a0_1, (.slice A0_2 l0_2.length c0_2)] 28 (0, 0))) ∧ Aside0 (Below w.heap.size w wc))
  case first =>
    have H := HC2.out
    clear HC2
    by_cases c4 : (l0_2.length : Int) > 40
    · rw [if_pos c4] at H
      have c4b0 : decide (40 < (l0_2.length : Int)) = true := decide_eq_true c4
      have c4b1 : decide (40 < l0_2.length) = true := decide_eq_true (by omega)
      clear c4
      (first | rw [c4b0] | (simp only [i64_w, i32_w]; rw [c4b0]) | skip)
      have H' := ak_ H
      clear H
      have hcz5_0 : w3.cell? ⟨gb111, 0, none⟩ = some (.string a0_0) := (zc_ BK111.out 0).trans rfl
      have hcz5_1 : w3.cell? ⟨gb111, 1, none⟩ = some (.int .i64 a0_1) := (zc_ BK111.out 1).trans rfl
      have hcz5_2 : w3.cell? ⟨gb111, 2, none⟩ = some (.slice A0_2 l0_2.length c0_2) := (zc_ BK111.out 2).trans rfl
      have hfz5_0 := zf_ BK111.out 0
      have hfz5_1 := zf_ BK111.out 1
      have hfz5_2 := zf_ BK111.out 2
      go_wp2
      go_meet
      case rel => exact ⟨_, (true), (by first | rfl | (simp; done) | (simp [*]; done)), H', ⟨by first | omega | exact Nat.le_refl _⟩, ⟨by (with_reducible repeat (first | apply zn_ | apply zd_ | apply za_)); exact BK111.out⟩, ⟨by repeat (first | (with_reducible first | exact HB.out | apply pa_ | apply pd_ | apply p1_ | refine zs_ ?_ GE111.out) | exact HB.out)⟩⟩
    rw [if_neg c4] at H
    have c4b0 : decide (40 < (l0_2.length : Int)) = false := decide_eq_false c4
    have c4b1 : decide (40 < l0_2.length) = false := decide_eq_false (by omega)
    clear c4
    (first | rw [c4b0] | (simp only [i64_w, i32_w]; rw [c4b0]) | skip)
    have H' := ak_ H
    clear H
    have hcz6_0 : w3.cell? ⟨gb111, 0, none⟩ = some (.string a0_0) := (zc_ BK111.out 0).trans rfl
    have hcz6_1 : w3.cell? ⟨gb111, 1, none⟩ = some (.int .i64 a0_1) := (zc_ BK111.out 1).trans rfl
    have hcz6_2 : w3.cell? ⟨gb111, 2, none⟩ = some (.slice A0_2 l0_2.length c0_2) := (zc_ BK111.out 2).trans rfl
    have hfz6_0 := zf_ BK111.out 0
    have hfz6_1 := zf_ BK111.out 1
    have hfz6_2 := zf_ BK111.out 2
    go_wp2
    go_meet
    case rel => exact ⟨_, (decide ((a0_0.size : Int) > 100)), (by first | rfl | (simp; done) | (simp [*]; done)), H', ⟨by first | omega | exact Nat.le_refl _⟩, ⟨by (with_reducible repeat (first | apply zn_ | apply zd_ | apply za_)); exact BK111.out⟩, ⟨by repeat (first | (with_reducible first | exact HB.out | apply pa_ | apply pd_ | apply p1_ | refine zs_ ?_ GE111.out) | exact HB.out)⟩⟩
  case rest =>
    clear HC2
    try clear p2
    try clear c4
    try clear c4b0
    try clear c4b1
    try clear hcz5_0
    try clear hcz5_1
    try clear hcz5_2
    try clear hcz6_0
    try clear hcz6_1
    try clear hcz6_2
    try clear hfz5_0
    try clear hfz5_1
    try clear hfz5_2
    try clear hfz6_0
    try clear hfz6_1
    try clear hfz6_2
    obtain ⟨kq, x13_1, rfl, HA, HJ1, BK111, HB⟩ := hcut
    cases kq with
    | zero => exact absurd HA.out (by simp [usufructlaw13_Small.j0])
    | succ kj1 =>
      have H := HA.out
      clear HA
      simp only [usufructlaw13_Small.j0] at H
      by_cases c7 : x13_1 = true
      · subst c7
        have H1 : (some 1) = some r := by rw [if_pos rfl] at H; exact H
        clear H
        have H := H1
        clear H1
        obtain rfl := Option.some.inj H
        go_wp2
        go_ret
        exact ⟨by first | rfl | (simp [errW_none, errW_some] <;> rfl) | (simp [*, errW_none, errW_some] <;> rfl), by repeat (first | (with_reducible first | exact HB.out | apply pa_ | apply pd_ | apply p1_ | refine zs_ ?_ GE111.out) | exact HB.out)⟩
      replace c7 := Bool.eq_false_iff.mpr c7
      subst c7
      have H1 : (usufructlaw13_Small.l0 kj1 0 a0_0 a0_1 l0_2) = some r := by rw [if_neg (show ¬ (false = true) by decide)] at H; exact H
      clear H
      have H := H1
      clear H1
      have H' := ak_ H
      clear H
      go_wp2
      go_loopg [3] kj1 (fun kq v3 w' => ∃ (x3_2 : Int), v3 = .int .i64 x3_2 ∧ Aside0 (usufructlaw13_Small.l0 kq x3_2 a0_0 a0_1 l0_2 = some r) ∧ Aside0 (kq ≤ kj1) ∧ Aside0 (w'.heap[gb111]? = some (.cells #[.string a0_0, .int .i64 a0_1, (.slice A0_2 l0_2.length c0_2)] 28 (0, 0))) ∧ Aside0 (Below w.heap.size w w'))
      case atStart => exact ⟨(0), (by first | rfl | (simp; done) | (simp [*]; done)), H', ⟨Nat.le_refl _⟩, ⟨by (with_reducible repeat (first | apply zn_ | apply zd_ | apply za_)); exact BK111.out⟩, ⟨by repeat (first | (with_reducible first | exact HB.out | apply pa_ | apply pd_ | apply p1_ | refine zs_ ?_ GE111.out) | exact HB.out)⟩⟩
      case round =>
        clear H'
        try clear p2
        try clear c4
        try clear c4b0
        try clear c4b1
        try clear c7
        try clear hcz5_0
        try clear hcz5_1
        try clear hcz5_2
        try clear hcz6_0
        try clear hcz6_1
        try clear hcz6_2
        try clear hfz5_0
        try clear hfz5_1
        try clear hfz5_2
        try clear hfz6_0
        try clear hfz6_1
        try clear hfz6_2
        try clear p2
        obtain ⟨x3_2, rfl, HA, HK2, BK111, HB⟩ := hrel
        cases gk with
        | zero => exact absurd HA.out (by simp [usufructlaw13_Small.l0])
        | succ k2 =>
          have H := HA.out
          clear HA
          simp only [usufructlaw13_Small.l0] at H
          by_cases c8 : x3_2 < (l0_2.length : Int)
          · rw [if_pos c8] at H
            have c8b0 : decide (x3_2 < (l0_2.length : Int)) = true := decide_eq_true c8
            clear c8
            by_cases c9 : 0 ≤ x3_2
            · rw [if_pos c9] at H
              have c9b0 : decide (0 ≤ x3_2) = true := decide_eq_true c9
              clear c9
              by_cases c10 : (((rd_T49 l0_2 x3_2).f0).size : Int) > 100
              · rw [if_pos c10] at H
                have c10b0 : decide (100 < (((rd_T49 l0_2 x3_2).f0).size : Int)) = true := decide_eq_true c10
                have c10b1 : decide (100 < ((rd_T49 l0_2 x3_2).f0).size) = true := decide_eq_true (by omega)
                clear c10
                obtain rfl := Option.some.inj H
                have hcz11_0 : wr.cell? ⟨gb111, 0, none⟩ = some (.string a0_0) := (zc_ BK111.out 0).trans rfl
                have hcz11_1 : wr.cell? ⟨gb111, 1, none⟩ = some (.int .i64 a0_1) := (zc_ BK111.out 1).trans rfl
                have hcz11_2 : wr.cell? ⟨gb111, 2, none⟩ = some (.slice A0_2 l0_2.length c0_2) := (zc_ BK111.out 2).trans rfl
                have hfz11_0 := zf_ BK111.out 0
                have hfz11_1 := zf_ BK111.out 1
                have hfz11_2 := zf_ BK111.out 2
                have p112 : 0 ≤ (x3_2 : Int) := of_decide_eq_true (by assumption)
                have q112 : x3_2 < (l0_2.length : Int) := of_decide_eq_true (by assumption)
                obtain ⟨ad112, e112, hx112_0, hx112_1, hx112_2, hx112_3, hx112_4, hx112_5, hx112_6, hx112_7, hx112_8, hx112_9, hx112_10, hx112_11⟩ := at_T49 HR0_2.out x3_2 p112 q112
                cases e112
                replace hx112_0 := (HB.out.cell (bl_ w _ hx112_0)).trans hx112_0
                replace hx112_1 := (HB.out.cell (bl_ w _ hx112_1)).trans hx112_1
                replace hx112_2 := (HB.out.cell (bl_ w _ hx112_2)).trans hx112_2
                replace hx112_3 := (HB.out.cell (bl_ w _ hx112_3)).trans hx112_3
                replace hx112_4 := (HB.out.cell (bl_ w _ hx112_4)).trans hx112_4
                replace hx112_5 := (HB.out.cell (bl_ w _ hx112_5)).trans hx112_5
                replace hx112_6 := (HB.out.cell (bl_ w _ hx112_6)).trans hx112_6
                replace hx112_7 := (HB.out.cell (bl_ w _ hx112_7)).trans hx112_7
                replace hx112_8 := (HB.out.cell (bl_ w _ hx112_8)).trans hx112_8
                replace hx112_9 := (HB.out.cell (bl_ w _ hx112_9)).trans hx112_9
                replace hx112_10 := (HB.out.cell (bl_ w _ hx112_10)).trans hx112_10
                replace hx112_11 := (HB.out.cell (bl_ w _ hx112_11)).trans hx112_11
                replace p112 := eq_true p112
                replace q112 := eq_true q112
                go_wp2
                go_ret
                exact ⟨by first | rfl | (simp [errW_none, errW_some] <;> rfl) | (simp [*, errW_none, errW_some] <;> rfl), by repeat (first | (with_reducible first | exact HB.out | apply pa_ | apply pd_ | apply p1_ | refine zs_ ?_ GE111.out) | exact HB.out)⟩
              rw [if_neg c10] at H
              have c10b0 : decide (100 < (((rd_T49 l0_2 x3_2).f0).size : Int)) = false := decide_eq_false c10
              have c10b1 : decide (100 < ((rd_T49 l0_2 x3_2).f0).size) = false := decide_eq_false (by omega)
              clear c10
              by_cases c12 : (((rd_T49 l0_2 x3_2).f1).size : Int) > 100
              · rw [if_pos c12] at H
                have c12b0 : decide (100 < (((rd_T49 l0_2 x3_2).f1).size : Int)) = true := decide_eq_true c12
                have c12b1 : decide (100 < ((rd_T49 l0_2 x3_2).f1).size) = true := decide_eq_true (by omega)
                clear c12
                obtain rfl := Option.some.inj H
                have hcz13_0 : wr.cell? ⟨gb111, 0, none⟩ = some (.string a0_0) := (zc_ BK111.out 0).trans rfl
                have hcz13_1 : wr.cell? ⟨gb111, 1, none⟩ = some (.int .i64 a0_1) := (zc_ BK111.out 1).trans rfl
                have hcz13_2 : wr.cell? ⟨gb111, 2, none⟩ = some (.slice A0_2 l0_2.length c0_2) := (zc_ BK111.out 2).trans rfl
                have hfz13_0 := zf_ BK111.out 0
                have hfz13_1 := zf_ BK111.out 1
                have hfz13_2 := zf_ BK111.out 2
                have p112 : 0 ≤ (x3_2 : Int) := of_decide_eq_true (by assumption)
                have q112 : x3_2 < (l0_2.length : Int) := of_decide_eq_true (by assumption)
                obtain ⟨ad112, e112, hx112_0, hx112_1, hx112_2, hx112_3, hx112_4, hx112_5, hx112_6, hx112_7, hx112_8, hx112_9, hx112_10, hx112_11⟩ := at_T49 HR0_2.out x3_2 p112 q112
                cases e112
                replace hx112_0 := (HB.out.cell (bl_ w _ hx112_0)).trans hx112_0
                replace hx112_1 := (HB.out.cell (bl_ w _ hx112_1)).trans hx112_1
                replace hx112_2 := (HB.out.cell (bl_ w _ hx112_2)).trans hx112_2
                replace hx112_3 := (HB.out.cell (bl_ w _ hx112_3)).trans hx112_3
                replace hx112_4 := (HB.out.cell (bl_ w _ hx112_4)).trans hx112_4
                replace hx112_5 := (HB.out.cell (bl_ w _ hx112_5)).trans hx112_5
                replace hx112_6 := (HB.out.cell (bl_ w _ hx112_6)).trans hx112_6
                replace hx112_7 := (HB.out.cell (bl_ w _ hx112_7)).trans hx112_7
                replace hx112_8 := (HB.out.cell (bl_ w _ hx112_8)).trans hx112_8
                replace hx112_9 := (HB.out.cell (bl_ w _ hx112_9)).trans hx112_9
                replace hx112_10 := (HB.out.cell (bl_ w _ hx112_10)).trans hx112_10
                replace hx112_11 := (HB.out.cell (bl_ w _ hx112_11)).trans hx112_11
                replace p112 := eq_true p112
                replace q112 := eq_true q112
                have p113 : 0 ≤ (x3_2 : Int) := of_decide_eq_true (by assumption)
                have q113 : x3_2 < (l0_2.length : Int) := of_decide_eq_true (by assumption)
                obtain ⟨ad113, e113, hx113_0, hx113_1, hx113_2, hx113_3, hx113_4, hx113_5, hx113_6, hx113_7, hx113_8, hx113_9, hx113_10, hx113_11⟩ := at_T49 HR0_2.out x3_2 p113 q113
                obtain rfl : ad112 = ad113 := (by injection e113)
                replace hx113_0 := (HB.out.cell (bl_ w _ hx113_0)).trans hx113_0
                replace hx113_1 := (HB.out.cell (bl_ w _ hx113_1)).trans hx113_1
                replace hx113_2 := (HB.out.cell (bl_ w _ hx113_2)).trans hx113_2
                replace hx113_3 := (HB.out.cell (bl_ w _ hx113_3)).trans hx113_3
                replace hx113_4 := (HB.out.cell (bl_ w _ hx113_4)).trans hx113_4
                replace hx113_5 := (HB.out.cell (bl_ w _ hx113_5)).trans hx113_5
                replace hx113_6 := (HB.out.cell (bl_ w _ hx113_6)).trans hx113_6
                replace hx113_7 := (HB.out.cell (bl_ w _ hx113_7)).trans hx113_7
                replace hx113_8 := (HB.out.cell (bl_ w _ hx113_8)).trans hx113_8
                replace hx113_9 := (HB.out.cell (bl_ w _ hx113_9)).trans hx113_9
                replace hx113_10 := (HB.out.cell (bl_ w _ hx113_10)).trans hx113_10
                replace hx113_11 := (HB.out.cell (bl_ w _ hx113_11)).trans hx113_11
                replace p113 := eq_true p113
                replace q113 := eq_true q113
                go_wp2
                go_ret
                exact ⟨by first | rfl | (simp [errW_none, errW_some] <;> rfl) | (simp [*, errW_none, errW_some] <;> rfl), by repeat (first | (with_reducible first | exact HB.out | apply pa_ | apply pd_ | apply p1_ | refine zs_ ?_ GE111.out) | exact HB.out)⟩
              rw [if_neg c12] at H
              have c12b0 : decide (100 < (((rd_T49 l0_2 x3_2).f1).size : Int)) = false := decide_eq_false c12
              have c12b1 : decide (100 < ((rd_T49 l0_2 x3_2).f1).size) = false := decide_eq_false (by omega)
              clear c12
              have H' := ak_ H
              clear H
              have hcz14_0 : wr.cell? ⟨gb111, 0, none⟩ = some (.string a0_0) := (zc_ BK111.out 0).trans rfl
              have hcz14_1 : wr.cell? ⟨gb111, 1, none⟩ = some (.int .i64 a0_1) := (zc_ BK111.out 1).trans rfl
              have hcz14_2 : wr.cell? ⟨gb111, 2, none⟩ = some (.slice A0_2 l0_2.length c0_2) := (zc_ BK111.out 2).trans rfl
              have hfz14_0 := zf_ BK111.out 0
              have hfz14_1 := zf_ BK111.out 1
              have hfz14_2 := zf_ BK111.out 2
              have p112 : 0 ≤ (x3_2 : Int) := of_decide_eq_true (by assumption)
              have q112 : x3_2 < (l0_2.length : Int) := of_decide_eq_true (by assumption)
              obtain ⟨ad112, e112, hx112_0, hx112_1, hx112_2, hx112_3, hx112_4, hx112_5, hx112_6, hx112_7, hx112_8, hx112_9, hx112_10, hx112_11⟩ := at_T49 HR0_2.out x3_2 p112 q112
              cases e112
              replace hx112_0 := (HB.out.cell (bl_ w _ hx112_0)).trans hx112_0
              replace hx112_1 := (HB.out.cell (bl_ w _ hx112_1)).trans hx112_1
              replace hx112_2 := (HB.out.cell (bl_ w _ hx112_2)).trans hx112_2
              replace hx112_3 := (HB.out.cell (bl_ w _ hx112_3)).trans hx112_3
              replace hx112_4 := (HB.out.cell (bl_ w _ hx112_4)).trans hx112_4
              replace hx112_5 := (HB.out.cell (bl_ w _ hx112_5)).trans hx112_5
              replace hx112_6 := (HB.out.cell (bl_ w _ hx112_6)).trans hx112_6
              replace hx112_7 := (HB.out.cell (bl_ w _ hx112_7)).trans hx112_7
              replace hx112_8 := (HB.out.cell (bl_ w _ hx112_8)).trans hx112_8
              replace hx112_9 := (HB.out.cell (bl_ w _ hx112_9)).trans hx112_9
              replace hx112_10 := (HB.out.cell (bl_ w _ hx112_10)).trans hx112_10
              replace hx112_11 := (HB.out.cell (bl_ w _ hx112_11)).trans hx112_11
              replace p112 := eq_true p112
              replace q112 := eq_true q112
              have p113 : 0 ≤ (x3_2 : Int) := of_decide_eq_true (by assumption)
              have q113 : x3_2 < (l0_2.length : Int) := of_decide_eq_true (by assumption)
              obtain ⟨ad113, e113, hx113_0, hx113_1, hx113_2, hx113_3, hx113_4, hx113_5, hx113_6, hx113_7, hx113_8, hx113_9, hx113_10, hx113_11⟩ := at_T49 HR0_2.out x3_2 p113 q113
              obtain rfl : ad112 = ad113 := (by injection e113)
              replace hx113_0 := (HB.out.cell (bl_ w _ hx113_0)).trans hx113_0
              replace hx113_1 := (HB.out.cell (bl_ w _ hx113_1)).trans hx113_1
              replace hx113_2 := (HB.out.cell (bl_ w _ hx113_2)).trans hx113_2
              replace hx113_3 := (HB.out.cell (bl_ w _ hx113_3)).trans hx113_3
              replace hx113_4 := (HB.out.cell (bl_ w _ hx113_4)).trans hx113_4
              replace hx113_5 := (HB.out.cell (bl_ w _ hx113_5)).trans hx113_5
              replace hx113_6 := (HB.out.cell (bl_ w _ hx113_6)).trans hx113_6
              replace hx113_7 := (HB.out.cell (bl_ w _ hx113_7)).trans hx113_7
              replace hx113_8 := (HB.out.cell (bl_ w _ hx113_8)).trans hx113_8
              replace hx113_9 := (HB.out.cell (bl_ w _ hx113_9)).trans hx113_9
              replace hx113_10 := (HB.out.cell (bl_ w _ hx113_10)).trans hx113_10
              replace hx113_11 := (HB.out.cell (bl_ w _ hx113_11)).trans hx113_11
              replace p113 := eq_true p113
              replace q113 := eq_true q113
              go_wp2
              go_roundg k2
              case measure => have := HJ1.out; have := HK2.out; omega
              case rel => exact ⟨(wrap64 (x3_2 + 1)), (by first | rfl | (simp; done) | (simp [*]; done)), H', ⟨by have := HJ1.out; have := HK2.out; omega⟩, ⟨by (with_reducible repeat (first | apply zn_ | apply zd_ | apply za_)); exact BK111.out⟩, ⟨by repeat (first | (with_reducible first | exact HB.out | apply pa_ | apply pd_ | apply p1_ | refine zs_ ?_ GE111.out) | exact HB.out)⟩⟩
            rw [if_neg c9] at H
            exact absurd H (by simp)
          rw [if_neg c8] at H
          have c8b0 : decide (x3_2 < (l0_2.length : Int)) = false := decide_eq_false c8
          clear c8
          obtain rfl := Option.some.inj H
          have hcz15_0 : wr.cell? ⟨gb111, 0, none⟩ = some (.string a0_0) := (zc_ BK111.out 0).trans rfl
          have hcz15_1 : wr.cell? ⟨gb111, 1, none⟩ = some (.int .i64 a0_1) := (zc_ BK111.out 1).trans rfl
          have hcz15_2 : wr.cell? ⟨gb111, 2, none⟩ = some (.slice A0_2 l0_2.length c0_2) := (zc_ BK111.out 2).trans rfl
          have hfz15_0 := zf_ BK111.out 0
          have hfz15_1 := zf_ BK111.out 1
          have hfz15_2 := zf_ BK111.out 2
          go_wp2
          go_ret
          exact ⟨by first | rfl | (simp [errW_none, errW_some] <;> rfl) | (simp [*, errW_none, errW_some] <;> rfl), by repeat (first | (with_reducible first | exact HB.out | apply pa_ | apply pd_ | apply p1_ | refine zs_ ?_ GE111.out) | exact HB.out)⟩

end Go.Proofs.Ytookpfpmobbhiaa.Q
