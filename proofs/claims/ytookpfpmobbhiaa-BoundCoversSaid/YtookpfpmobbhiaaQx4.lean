-- written for this claim by a program of the session
import Derived.Test.YtookpfpmobbhiaaQx0
import Derived.Test.YtookpfpmobbhiaaQx3
namespace Go.Proofs.Ytookpfpmobbhiaa.Q
open Go.RowKit Go.Proofs.YtookpfpmobbhiaaW.PrintWords Go.Proofs.YtookpfpmobbhiaaW.PrintLast Go.Proofs.YtookpfpmobbhiaaW.PrintMore
attribute [local go_sem] max2_int min2_int max_two min_two max_three min_three max_four min_four   -- for this text's walks alone
set_option linter.unusedVariables false
set_option linter.unusedSimpArgs false

/-! ### usufructlaw16_Small: function 6 -/
mutual
def usufructlaw16_Small.j0 : Nat → Bool → List (S28) → List (S44) → Int → Option (Int)
  | 0, _, _, _, _ => none
  | k + 1, x14, x115000, x115001, x115002 => if x14 = true then (some 1) else (usufructlaw16_Small.l0 k 0 x115000 x115001 x115002)
def usufructlaw16_Small.l0 : Nat → Int → List (S28) → List (S44) → Int → Option (Int)
  | 0, _, _, _, _ => none
  | k + 1, x3, x115000, x115001, x115002 => if x3 < (x115000.length : Int) then (if 0 ≤ x3 then ((usufructlaw13_Small.f k ((rd_T28 x115000 x3).f0) ((rd_T28 x115000 x3).f1) ((rd_T28 x115000 x3).f2)).bind fun t116 => (if t116 = 0 then (usufructlaw16_Small.l0 k (wrap64 (x3 + 1)) x115000 x115001 x115002) else (some 2))) else (none)) else (usufructlaw16_Small.l1 k 0 x115000 x115001 x115002)
def usufructlaw16_Small.l1 : Nat → Int → List (S28) → List (S44) → Int → Option (Int)
  | 0, _, _, _, _ => none
  | k + 1, x4, x115000, x115001, x115002 => if x4 < (x115001.length : Int) then (if 0 ≤ x4 then (if (((rd_T44 x115001 x4).f1).size : Int) > 200 then (some 3) else (usufructlaw16_Small.l1 k (wrap64 (x4 + 1)) x115000 x115001 x115002)) else (none)) else (some 0)
end
def usufructlaw16_Small.f (k : Nat) (l0_0 : List (S28)) (l0_1 : List (S44)) (a0_2 : Int) : Option (Int) := if (l0_0.length : Int) > 6 then (usufructlaw16_Small.j0 k true l0_0 l0_1 a0_2) else (usufructlaw16_Small.j0 k (decide ((l0_1.length : Int) > 12)) l0_0 l0_1 a0_2)
theorem usufructlaw16_Small.mono_l : ∀ k, (∀ y0 y1 y2 y3, LeO (usufructlaw16_Small.j0 k y0 y1 y2 y3) (usufructlaw16_Small.j0 (k + 1) y0 y1 y2 y3)) ∧ (∀ y0 y1 y2 y3, LeO (usufructlaw16_Small.l0 k y0 y1 y2 y3) (usufructlaw16_Small.l0 (k + 1) y0 y1 y2 y3)) ∧ (∀ y0 y1 y2 y3, LeO (usufructlaw16_Small.l1 k y0 y1 y2 y3) (usufructlaw16_Small.l1 (k + 1) y0 y1 y2 y3))
  | 0 => ⟨fun _ _ _ _ r h => by simp [usufructlaw16_Small.j0] at h, fun _ _ _ _ r h => by simp [usufructlaw16_Small.l0] at h, fun _ _ _ _ r h => by simp [usufructlaw16_Small.l1] at h⟩
  | k + 1 => by
    obtain ⟨ih0, ih1, ih2⟩ := usufructlaw16_Small.mono_l k
    refine ⟨?_, ?_, ?_⟩
    · intro y0 y1 y2 y3
      unfold usufructlaw16_Small.j0
      repeat' first
      | (with_reducible exact ih0 _ _ _ _)
      | (with_reducible exact ih1 _ _ _ _)
      | (with_reducible exact ih2 _ _ _ _)
      | (with_reducible exact usufructlaw13_Small.mono _ _ _ _)
      | (with_reducible exact LeO.refl _)
      | (with_reducible exact LeO.none _)
      | (with_reducible refine LeO.ite ?_ ?_)
      | (with_reducible refine LeO.bind ?_ (fun _ => ?_))
      | exact ih0 _ _ _ _
      | exact ih1 _ _ _ _
      | exact ih2 _ _ _ _
      | exact usufructlaw13_Small.mono _ _ _ _
      | exact LeO.none _
      | refine LeO.ite ?_ ?_
      | refine LeO.bind ?_ (fun _ => ?_)
    · intro y0 y1 y2 y3
      unfold usufructlaw16_Small.l0
      repeat' first
      | (with_reducible exact ih0 _ _ _ _)
      | (with_reducible exact ih1 _ _ _ _)
      | (with_reducible exact ih2 _ _ _ _)
      | (with_reducible exact usufructlaw13_Small.mono _ _ _ _)
      | (with_reducible exact LeO.refl _)
      | (with_reducible exact LeO.none _)
      | (with_reducible refine LeO.ite ?_ ?_)
      | (with_reducible refine LeO.bind ?_ (fun _ => ?_))
      | exact ih0 _ _ _ _
      | exact ih1 _ _ _ _
      | exact ih2 _ _ _ _
      | exact usufructlaw13_Small.mono _ _ _ _
      | exact LeO.none _
      | refine LeO.ite ?_ ?_
      | refine LeO.bind ?_ (fun _ => ?_)
    · intro y0 y1 y2 y3
      unfold usufructlaw16_Small.l1
      repeat' first
      | (with_reducible exact ih0 _ _ _ _)
      | (with_reducible exact ih1 _ _ _ _)
      | (with_reducible exact ih2 _ _ _ _)
      | (with_reducible exact usufructlaw13_Small.mono _ _ _ _)
      | (with_reducible exact LeO.refl _)
      | (with_reducible exact LeO.none _)
      | (with_reducible refine LeO.ite ?_ ?_)
      | (with_reducible refine LeO.bind ?_ (fun _ => ?_))
      | exact ih0 _ _ _ _
      | exact ih1 _ _ _ _
      | exact ih2 _ _ _ _
      | exact usufructlaw13_Small.mono _ _ _ _
      | exact LeO.none _
      | refine LeO.ite ?_ ?_
      | refine LeO.bind ?_ (fun _ => ?_)
theorem usufructlaw16_Small.mono : ∀ a0 a1 a2 k, LeO (usufructlaw16_Small.f k a0 a1 a2) (usufructlaw16_Small.f (k + 1) a0 a1 a2) := by
  intro a0 a1 a2 k
  obtain ⟨ih0, ih1, ih2⟩ := usufructlaw16_Small.mono_l k
  unfold usufructlaw16_Small.f
  repeat' first
      | (with_reducible exact ih0 _ _ _ _)
      | (with_reducible exact ih1 _ _ _ _)
      | (with_reducible exact ih2 _ _ _ _)
      | (with_reducible exact usufructlaw13_Small.mono _ _ _ _)
      | (with_reducible exact LeO.refl _)
      | (with_reducible exact LeO.none _)
      | (with_reducible refine LeO.ite ?_ ?_)
      | (with_reducible refine LeO.bind ?_ (fun _ => ?_))
      | exact ih0 _ _ _ _
      | exact ih1 _ _ _ _
      | exact ih2 _ _ _ _
      | exact usufructlaw13_Small.mono _ _ _ _
      | exact LeO.none _
      | refine LeO.ite ?_ ?_
      | refine LeO.bind ?_ (fun _ => ?_)
namespace usufructlaw16_Small
theorem mt_ {α β : Type} {f : α → β} {l : List α} : l.toArray.map f = (l.map f).toArray := List.map_toArray
theorem mc_ {α β : Type} {f : α → β} {a : α} {l : List α} : (a :: l).map f = f a :: l.map f := rfl
theorem mn_ {α β : Type} {f : α → β} : ([] : List α).map f = [] := rfl
abbrev zn_ := @blk_drewN
abbrev zd_ := @blk_drew
abbrev za_ := @blk_alloc
abbrev zf_ := @blk_frozen
abbrev zc_ := @blk_cell
abbrev zs_ := @below_set
abbrev zr_ := @blk_far
abbrev zp_ := @blk_put
abbrev pd_ := @pw_below_drewN
abbrev p1_ := @below_drew1
abbrev pa_ := @below_alloc
abbrev ak_ := @Aside0.mk
abbrev bl_ := @World.block_lt_of_cell?
abbrev ps_ := @below_step
def b_ (n k : Nat) : Array Bool := ((List.range n).map fun i => k.testBit i).toArray
theorem sa_ {α : Type} {l : List α} {i : Nat} {a : α} : l.toArray.setIfInBounds i a = (l.set i a).toArray := List.setIfInBounds_toArray l i a
theorem sz_ {α : Type} {a b : α} {l : List α} : (a :: l).set 0 b = b :: l := rfl
theorem ss_ {α : Type} {a b : α} {l : List α} {n : Nat} : (a :: l).set (n + 1) b = a :: l.set n b := rfl
end usufructlaw16_Small
open usufructlaw16_Small in
set_option maxHeartbeats 8000000 in
set_option maxRecDepth 100000 in
theorem usufructlaw16_Small.calls (k : Nat) (A0_0 : Option Addr) (c0_0 : Nat) (l0_0 : List (S28)) (A0_1 : Option Addr) (c0_1 : Nat) (l0_1 : List (S44)) (a0_2 : Int) (r : Int) (w : World) (hr0_0 : Kd.C k28 w A0_0 l0_0.length l0_0) (hc0_0 : l0_0.length ≤ c0_0) (hr0_1 : Kd.C k44 w A0_1 l0_1.length l0_1) (hc0_1 : l0_1.length ≤ c0_1) (h : usufructlaw16_Small.f k l0_0 l0_1 a0_2 = some r) :
    Calls Try.prog 6 #[.agg #[.slice A0_0 l0_0.length c0_0, .slice A0_1 l0_1.length c0_1, .int .i64 a0_2]] w fun e w' => e = .returned (.int .i64 r) ∧ Below w.heap.size w w' := by
  have hu25 := Try.underlying25
  have hu28 := Try.underlying28
  have HR0_0 := ak_ hr0_0
  have HC0_0 := ak_ hc0_0
  clear hr0_0 hc0_0
  have HR0_1 := ak_ hr0_1
  have HC0_1 := ak_ hc0_1
  clear hr0_1 hc0_1
  have HB := ak_ (Below.refl w.heap.size w)
  have H : (if (l0_0.length : Int) > 6 then (usufructlaw16_Small.j0 k true l0_0 l0_1 a0_2) else (usufructlaw16_Small.j0 k (decide ((l0_1.length : Int) > 12)) l0_0 l0_1 a0_2)) = some r := h
  clear h
  have HC2 := ak_ H
  clear H
  go_enter Try.func6, Try.ntmps6
  go_upto_region 1 with (first | ((with_reducible refine gate_dst (N := 1) rfl ?_); (try (refine gate_guard (by rfl) ?_; dsimp only)); refine box_event ?hg (N := 1) ?hd (cs := #[.slice A0_0 l0_0.length c0_0, .slice A0_1 l0_1.length c0_1, .int .i64 a0_2]) (t := 25) ?hr ?_; (case hd => rfl); (case hg => rfl); (case hr => first | (go_simp; done) | (go_simp; rfl)); intro gb114 hg w3 hbox hb; have n0_ := ak_ (ps_ (by repeat (first | (with_reducible first | exact HB.out | apply pa_ | apply pd_ | apply p1_) | exact HB.out)) hb); have n1_ := ak_ (hbox); have n2_ := ak_ ((by rw [hg]; exact (below_size (by repeat (first | (with_reducible first | exact HB.out | apply pa_ | apply pd_ | apply p1_) | exact HB.out))) : w.heap.size ≤ gb114)); have n3_ := ak_ ((by rw [hg]; exact (below_size (by repeat (first | (with_reducible first | exact HB.out | apply pa_ | apply pd_ | apply p1_) | exact HB.out))) : w.heap.size ≤ gb114)); clear HB; have HB := n0_; have BK114 := n1_; have GW114 := n2_; have GE114 := n3_; clear n0_ n1_ n2_ n3_; clear hb hbox hg))
  (try simp only [Act.put, sa_, sz_, ss_])
  go_cut [14] (fun v14 wc => ∃ (kq : Nat) (x14_1 : Bool), v14 = .bool x14_1 ∧ Aside0 (usufructlaw16_Small.j0 kq x14_1 l0_0 l0_1 a0_2 = some r) ∧ Aside0 (kq ≤ k) ∧ Aside0 (wc.heap[gb114]? = some (.cells #[(.slice A0_0 l0_0.length c0_0), (.slice A0_1 l0_1.length c0_1), .int .i64 a0_2] 25 (0, 0))) ∧ Aside0 (Below w.heap.size w wc))
  case first =>
    have H := HC2.out
    clear HC2
    by_cases c4 : (l0_0.length : Int) > 6
    · rw [if_pos c4] at H
      have c4b0 : decide (6 < (l0_0.length : Int)) = true := decide_eq_true c4
      have c4b1 : decide (6 < l0_0.length) = true := decide_eq_true (by omega)
      clear c4
      (first | rw [c4b0] | (simp only [i64_w, i32_w]; rw [c4b0]) | skip)
      have H' := ak_ H
      clear H
      have hcz5_0 : w3.cell? ⟨gb114, 0, none⟩ = some (.slice A0_0 l0_0.length c0_0) := (zc_ BK114.out 0).trans rfl
      have hcz5_1 : w3.cell? ⟨gb114, 1, none⟩ = some (.slice A0_1 l0_1.length c0_1) := (zc_ BK114.out 1).trans rfl
      have hcz5_2 : w3.cell? ⟨gb114, 2, none⟩ = some (.int .i64 a0_2) := (zc_ BK114.out 2).trans rfl
      have hfz5_0 := zf_ BK114.out 0
      have hfz5_1 := zf_ BK114.out 1
      have hfz5_2 := zf_ BK114.out 2
      go_wp2
      go_meet
      case rel => exact ⟨_, (true), (by first | rfl | (simp; done) | (simp [*]; done)), H', ⟨by first | omega | exact Nat.le_refl _⟩, ⟨by (with_reducible repeat (first | apply zn_ | apply zd_ | apply za_)); exact BK114.out⟩, ⟨by repeat (first | (with_reducible first | exact HB.out | apply pa_ | apply pd_ | apply p1_ | refine zs_ ?_ GE114.out) | exact HB.out)⟩⟩
    rw [if_neg c4] at H
    have c4b0 : decide (6 < (l0_0.length : Int)) = false := decide_eq_false c4
    have c4b1 : decide (6 < l0_0.length) = false := decide_eq_false (by omega)
    clear c4
    (first | rw [c4b0] | (simp only [i64_w, i32_w]; rw [c4b0]) | skip)
    have H' := ak_ H
    clear H
    have hcz6_0 : w3.cell? ⟨gb114, 0, none⟩ = some (.slice A0_0 l0_0.length c0_0) := (zc_ BK114.out 0).trans rfl
    have hcz6_1 : w3.cell? ⟨gb114, 1, none⟩ = some (.slice A0_1 l0_1.length c0_1) := (zc_ BK114.out 1).trans rfl
    have hcz6_2 : w3.cell? ⟨gb114, 2, none⟩ = some (.int .i64 a0_2) := (zc_ BK114.out 2).trans rfl
    have hfz6_0 := zf_ BK114.out 0
    have hfz6_1 := zf_ BK114.out 1
    have hfz6_2 := zf_ BK114.out 2
    go_wp2
    go_meet
    case rel => exact ⟨_, (decide ((l0_1.length : Int) > 12)), (by first | rfl | (simp; done) | (simp [*]; done)), H', ⟨by first | omega | exact Nat.le_refl _⟩, ⟨by (with_reducible repeat (first | apply zn_ | apply zd_ | apply za_)); exact BK114.out⟩, ⟨by repeat (first | (with_reducible first | exact HB.out | apply pa_ | apply pd_ | apply p1_ | refine zs_ ?_ GE114.out) | exact HB.out)⟩⟩
  case rest =>
    clear HC2
    try clear p2
    try clear c4
    try clear c4b0
    try clear c4b1
    try clear c6
    try clear hcz5_0
    try clear hcz5_1
    try clear hcz5_2
    try clear hcz6_0
    try clear hcz6_1
    try clear hcz6_2
    try clear hfz5_0
    try clear hfz5_1
    try clear hfz5_2
    try clear hfz6_0
    try clear hfz6_1
    try clear hfz6_2
    obtain ⟨kq, x14_1, rfl, HA, HJ1, BK114, HB⟩ := hcut
    cases kq with
    | zero => exact absurd HA.out (by simp [usufructlaw16_Small.j0])
    | succ kj1 =>
      have H := HA.out
      clear HA
      simp only [usufructlaw16_Small.j0] at H
      by_cases c7 : x14_1 = true
      · subst c7
        have H1 : (some 1) = some r := by rw [if_pos rfl] at H; exact H
        clear H
        have H := H1
        clear H1
        obtain rfl := Option.some.inj H
        go_wp2
        go_ret
        exact ⟨by first | rfl | (simp [errW_none, errW_some] <;> rfl) | (simp [*, errW_none, errW_some] <;> rfl), by repeat (first | (with_reducible first | exact HB.out | apply pa_ | apply pd_ | apply p1_ | refine zs_ ?_ GE114.out) | exact HB.out)⟩
      replace c7 := Bool.eq_false_iff.mpr c7
      subst c7
      have H1 : (usufructlaw16_Small.l0 kj1 0 l0_0 l0_1 a0_2) = some r := by rw [if_neg (show ¬ (false = true) by decide)] at H; exact H
      clear H
      have H := H1
      clear H1
      have H' := ak_ H
      clear H
      go_wp2
      go_loopg [3] kj1 (fun kq v3 w' => ∃ (x3_2 : Int), v3 = .int .i64 x3_2 ∧ Aside0 (usufructlaw16_Small.l0 kq x3_2 l0_0 l0_1 a0_2 = some r) ∧ Aside0 (kq ≤ kj1) ∧ Aside0 (w'.heap[gb114]? = some (.cells #[(.slice A0_0 l0_0.length c0_0), (.slice A0_1 l0_1.length c0_1), .int .i64 a0_2] 25 (0, 0))) ∧ Aside0 (Below w.heap.size w w'))
      case atStart => exact ⟨(0), (by first | rfl | (simp; done) | (simp [*]; done)), H', ⟨Nat.le_refl _⟩, ⟨by (with_reducible repeat (first | apply zn_ | apply zd_ | apply za_)); exact BK114.out⟩, ⟨by repeat (first | (with_reducible first | exact HB.out | apply pa_ | apply pd_ | apply p1_ | refine zs_ ?_ GE114.out) | exact HB.out)⟩⟩
      case round =>
        clear H'
        try clear p2
        try clear c4
        try clear c4b0
        try clear c4b1
        try clear c6
        try clear c7
        try clear hcz5_0
        try clear hcz5_1
        try clear hcz5_2
        try clear hcz6_0
        try clear hcz6_1
        try clear hcz6_2
        try clear hfz5_0
        try clear hfz5_1
        try clear hfz5_2
        try clear hfz6_0
        try clear hfz6_1
        try clear hfz6_2
        try clear p2
        obtain ⟨x3_2, rfl, HA, HK2, BK114, HB⟩ := hrel
        cases gk with
        | zero => exact absurd HA.out (by simp [usufructlaw16_Small.l0])
        | succ k2 =>
          have H := HA.out
          clear HA
          simp only [usufructlaw16_Small.l0] at H
          by_cases c8 : x3_2 < (l0_0.length : Int)
          · rw [if_pos c8] at H
            have c8b0 : decide (x3_2 < (l0_0.length : Int)) = true := decide_eq_true c8
            clear c8
            by_cases c9 : 0 ≤ x3_2
            · rw [if_pos c9] at H
              have c9b0 : decide (0 ≤ x3_2) = true := decide_eq_true c9
              clear c9
              replace H := Option.bind_eq_some_iff.mp H
              obtain ⟨t116, A100, H⟩ := H
              replace H : (if t116 = 0 then (usufructlaw16_Small.l0 k2 (wrap64 (x3_2 + 1)) l0_0 l0_1 a0_2) else (some 2)) = some r := H
              have A10 := ak_ A100
              clear A100
              by_cases c11 : t116 = 0
              · rw [if_pos c11] at H
                have c11b0 : (t116 == 0) = true := beq_iff_eq.mpr c11
                have c11b1 : (t116 != 0) = false := bne_eq_false_iff_eq.mpr c11
                clear c11
                have H' := ak_ H
                clear H
                have hcz12_0 : wr.cell? ⟨gb114, 0, none⟩ = some (.slice A0_0 l0_0.length c0_0) := (zc_ BK114.out 0).trans rfl
                have hcz12_1 : wr.cell? ⟨gb114, 1, none⟩ = some (.slice A0_1 l0_1.length c0_1) := (zc_ BK114.out 1).trans rfl
                have hcz12_2 : wr.cell? ⟨gb114, 2, none⟩ = some (.int .i64 a0_2) := (zc_ BK114.out 2).trans rfl
                have hfz12_0 := zf_ BK114.out 0
                have hfz12_1 := zf_ BK114.out 1
                have hfz12_2 := zf_ BK114.out 2
                have p115 : 0 ≤ (x3_2 : Int) := of_decide_eq_true (by assumption)
                have q115 : x3_2 < (l0_0.length : Int) := of_decide_eq_true (by assumption)
                obtain ⟨ad115, A115_2, c115_2, e115, hx115_0, hx115_1, hx115_2, hl115_2, hi115_2⟩ := at_T28 HR0_0.out x3_2 p115 q115
                cases e115
                replace hx115_0 := (HB.out.cell (bl_ w _ hx115_0)).trans hx115_0
                replace hx115_1 := (HB.out.cell (bl_ w _ hx115_1)).trans hx115_1
                replace hx115_2 := (HB.out.cell (bl_ w _ hx115_2)).trans hx115_2
                have HR115_2 := ak_ hi115_2
                have HC115_2 := ak_ hl115_2
                clear hi115_2 hl115_2
                replace p115 := eq_true p115
                replace q115 := eq_true q115
                go_wp2_with (first | ((with_reducible refine gate_callee (f := 7) rfl ?_); refine goesL_ (some 27) rfl rfl Try.func7 (by kernel_rfl) rfl #[.agg #[.string ((rd_T28 l0_0 x3_2).f0), .int .i64 ((rd_T28 l0_0 x3_2).f1), .slice A115_2 ((rd_T28 l0_0 x3_2).f2).length c115_2]] rfl (by (try simp only [List.map_toArray, List.map_cons, List.map_nil]); first | done | rfl | (simp only [List.length_drop, List.length_take]; rfl)) ?_; (with_reducible refine (usufructlaw13_Small.calls k2 ((rd_T28 l0_0 x3_2).f0) ((rd_T28 l0_0 x3_2).f1) _ _ ((rd_T28 l0_0 x3_2).f2) t116 _ ?side1 ?side2 A10.out).mono ?_); (case side1 => repeat (first | exact (Kd.C_below HR115_2.out HB.out) | (with_reducible refine Kd.C_alloc ?_ _) | (with_reducible refine Kd.C_drewN ?_ _) | (with_reducible refine Kd.C_drew ?_))); (case side2 => exact HC115_2.out); rintro e w13 ⟨rfl, hb⟩; refine ⟨_, rfl, ?_⟩; have n0_ := ak_ (blk_below (g := gb114) (o := .cells #[.slice (some ad115) l0_0.length c0_0, .slice A0_1 l0_1.length c0_1, .int .i64 a0_2] 25 (0, 0)) (by (with_reducible repeat (first | apply zn_ | apply zd_ | apply za_)); exact BK114.out) hb); have n1_ := ak_ (ps_ (by repeat (first | (with_reducible first | exact HB.out | apply pa_ | apply pd_ | apply p1_ | refine zs_ ?_ GE114.out) | exact HB.out)) hb); clear BK114; clear HB; have BK114 := n0_; have HB := n1_; clear n0_ n1_; (try clear hb hk hi)))
                go_roundg k2
                case measure => have := HJ1.out; have := HK2.out; omega
                case rel => exact ⟨(wrap64 (x3_2 + 1)), (by first | rfl | (simp; done) | (simp [*]; done)), H', ⟨by have := HJ1.out; have := HK2.out; omega⟩, ⟨by (with_reducible repeat (first | apply zn_ | apply zd_ | apply za_)); exact BK114.out⟩, ⟨by repeat (first | (with_reducible first | exact HB.out | apply pa_ | apply pd_ | apply p1_ | refine zs_ ?_ GE114.out) | exact HB.out)⟩⟩
              rw [if_neg c11] at H
              have c11b0 : (t116 == 0) = false := beq_eq_false_iff_ne.mpr c11
              have c11b1 : (t116 != 0) = true := bne_iff_ne.mpr c11
              obtain rfl := Option.some.inj H
              have hcz14_0 : wr.cell? ⟨gb114, 0, none⟩ = some (.slice A0_0 l0_0.length c0_0) := (zc_ BK114.out 0).trans rfl
              have hcz14_1 : wr.cell? ⟨gb114, 1, none⟩ = some (.slice A0_1 l0_1.length c0_1) := (zc_ BK114.out 1).trans rfl
              have hcz14_2 : wr.cell? ⟨gb114, 2, none⟩ = some (.int .i64 a0_2) := (zc_ BK114.out 2).trans rfl
              have hfz14_0 := zf_ BK114.out 0
              have hfz14_1 := zf_ BK114.out 1
              have hfz14_2 := zf_ BK114.out 2
              have p115 : 0 ≤ (x3_2 : Int) := of_decide_eq_true (by assumption)
              have q115 : x3_2 < (l0_0.length : Int) := of_decide_eq_true (by assumption)
              obtain ⟨ad115, A115_2, c115_2, e115, hx115_0, hx115_1, hx115_2, hl115_2, hi115_2⟩ := at_T28 HR0_0.out x3_2 p115 q115
              cases e115
              replace hx115_0 := (HB.out.cell (bl_ w _ hx115_0)).trans hx115_0
              replace hx115_1 := (HB.out.cell (bl_ w _ hx115_1)).trans hx115_1
              replace hx115_2 := (HB.out.cell (bl_ w _ hx115_2)).trans hx115_2
              have HR115_2 := ak_ hi115_2
              have HC115_2 := ak_ hl115_2
              clear hi115_2 hl115_2
              replace p115 := eq_true p115
              replace q115 := eq_true q115
              go_wp2_with (first | ((with_reducible refine gate_callee (f := 7) rfl ?_); refine goesL_ (some 27) rfl rfl Try.func7 (by kernel_rfl) rfl #[.agg #[.string ((rd_T28 l0_0 x3_2).f0), .int .i64 ((rd_T28 l0_0 x3_2).f1), .slice A115_2 ((rd_T28 l0_0 x3_2).f2).length c115_2]] rfl (by (try simp only [List.map_toArray, List.map_cons, List.map_nil]); first | done | rfl | (simp only [List.length_drop, List.length_take]; rfl)) ?_; (with_reducible refine (usufructlaw13_Small.calls k2 ((rd_T28 l0_0 x3_2).f0) ((rd_T28 l0_0 x3_2).f1) _ _ ((rd_T28 l0_0 x3_2).f2) t116 _ ?side1 ?side2 A10.out).mono ?_); (case side1 => repeat (first | exact (Kd.C_below HR115_2.out HB.out) | (with_reducible refine Kd.C_alloc ?_ _) | (with_reducible refine Kd.C_drewN ?_ _) | (with_reducible refine Kd.C_drew ?_))); (case side2 => exact HC115_2.out); rintro e w15 ⟨rfl, hb⟩; refine ⟨_, rfl, ?_⟩; have n0_ := ak_ (blk_below (g := gb114) (o := .cells #[.slice (some ad115) l0_0.length c0_0, .slice A0_1 l0_1.length c0_1, .int .i64 a0_2] 25 (0, 0)) (by (with_reducible repeat (first | apply zn_ | apply zd_ | apply za_)); exact BK114.out) hb); have n1_ := ak_ (ps_ (by repeat (first | (with_reducible first | exact HB.out | apply pa_ | apply pd_ | apply p1_ | refine zs_ ?_ GE114.out) | exact HB.out)) hb); clear BK114; clear HB; have BK114 := n0_; have HB := n1_; clear n0_ n1_; (try clear hb hk hi)))
              go_ret
              exact ⟨by first | rfl | (simp [errW_none, errW_some] <;> rfl) | (simp [*, errW_none, errW_some] <;> rfl), by repeat (first | (with_reducible first | exact HB.out | apply pa_ | apply pd_ | apply p1_ | refine zs_ ?_ GE114.out) | exact HB.out)⟩
            rw [if_neg c9] at H
            exact absurd H (by simp)
          rw [if_neg c8] at H
          have c8b0 : decide (x3_2 < (l0_0.length : Int)) = false := decide_eq_false c8
          clear c8
          have H' := ak_ H
          clear H
          have hcz16_0 : wr.cell? ⟨gb114, 0, none⟩ = some (.slice A0_0 l0_0.length c0_0) := (zc_ BK114.out 0).trans rfl
          have hcz16_1 : wr.cell? ⟨gb114, 1, none⟩ = some (.slice A0_1 l0_1.length c0_1) := (zc_ BK114.out 1).trans rfl
          have hcz16_2 : wr.cell? ⟨gb114, 2, none⟩ = some (.int .i64 a0_2) := (zc_ BK114.out 2).trans rfl
          have hfz16_0 := zf_ BK114.out 0
          have hfz16_1 := zf_ BK114.out 1
          have hfz16_2 := zf_ BK114.out 2
          go_wp2
          go_loopg [4] k2 (fun kq v4 w' => ∃ (x4_3 : Int), v4 = .int .i64 x4_3 ∧ Aside0 (usufructlaw16_Small.l1 kq x4_3 l0_0 l0_1 a0_2 = some r) ∧ Aside0 (kq ≤ k2) ∧ Aside0 (w'.heap[gb114]? = some (.cells #[(.slice A0_0 l0_0.length c0_0), (.slice A0_1 l0_1.length c0_1), .int .i64 a0_2] 25 (0, 0))) ∧ Aside0 (Below w.heap.size w w'))
          case atStart => exact ⟨(0), (by first | rfl | (simp; done) | (simp [*]; done)), H', ⟨Nat.le_refl _⟩, ⟨by (with_reducible repeat (first | apply zn_ | apply zd_ | apply za_)); exact BK114.out⟩, ⟨by repeat (first | (with_reducible first | exact HB.out | apply pa_ | apply pd_ | apply p1_ | refine zs_ ?_ GE114.out) | exact HB.out)⟩⟩
          case round =>
            clear H'
            try clear c1
            try clear p1
            try clear q1
            try clear hx1
            try clear p2
            try clear c4
            try clear c4b0
            try clear c4b1
            try clear c6
            try clear p6
            try clear c7
            try clear c8
            try clear c8b0
            try clear c9
            try clear c9b0
            try clear c11
            try clear c11b0
            try clear c11b1
            try clear p11
            try clear q11
            try clear hx11
            try clear hcz12_0
            try clear hcz12_1
            try clear hcz12_2
            try clear hcz14_0
            try clear hcz14_1
            try clear hcz14_2
            try clear hcz16_0
            try clear hcz16_1
            try clear hcz16_2
            try clear hcz5_0
            try clear hcz5_1
            try clear hcz5_2
            try clear hcz6_0
            try clear hcz6_1
            try clear hcz6_2
            try clear hfz12_0
            try clear hfz12_1
            try clear hfz12_2
            try clear hfz14_0
            try clear hfz14_1
            try clear hfz14_2
            try clear hfz16_0
            try clear hfz16_1
            try clear hfz16_2
            try clear hfz5_0
            try clear hfz5_1
            try clear hfz5_2
            try clear hfz6_0
            try clear hfz6_1
            try clear hfz6_2
            try clear hx115_0
            try clear hx115_1
            try clear hx115_2
            try clear p115
            try clear p2
            try clear q115
            obtain ⟨x4_3, rfl, HA, HK3, BK114, HB⟩ := hrel
            cases gk with
            | zero => exact absurd HA.out (by simp [usufructlaw16_Small.l1])
            | succ k3 =>
              have H := HA.out
              clear HA
              simp only [usufructlaw16_Small.l1] at H
              by_cases c17 : x4_3 < (l0_1.length : Int)
              · rw [if_pos c17] at H
                have c17b0 : decide (x4_3 < (l0_1.length : Int)) = true := decide_eq_true c17
                clear c17
                by_cases c18 : 0 ≤ x4_3
                · rw [if_pos c18] at H
                  have c18b0 : decide (0 ≤ x4_3) = true := decide_eq_true c18
                  clear c18
                  by_cases c19 : (((rd_T44 l0_1 x4_3).f1).size : Int) > 200
                  · rw [if_pos c19] at H
                    have c19b0 : decide (200 < (((rd_T44 l0_1 x4_3).f1).size : Int)) = true := decide_eq_true c19
                    have c19b1 : decide (200 < ((rd_T44 l0_1 x4_3).f1).size) = true := decide_eq_true (by omega)
                    clear c19
                    obtain rfl := Option.some.inj H
                    have hcz20_0 : wr.cell? ⟨gb114, 0, none⟩ = some (.slice A0_0 l0_0.length c0_0) := (zc_ BK114.out 0).trans rfl
                    have hcz20_1 : wr.cell? ⟨gb114, 1, none⟩ = some (.slice A0_1 l0_1.length c0_1) := (zc_ BK114.out 1).trans rfl
                    have hcz20_2 : wr.cell? ⟨gb114, 2, none⟩ = some (.int .i64 a0_2) := (zc_ BK114.out 2).trans rfl
                    have hfz20_0 := zf_ BK114.out 0
                    have hfz20_1 := zf_ BK114.out 1
                    have hfz20_2 := zf_ BK114.out 2
                    have p117 : 0 ≤ (x4_3 : Int) := of_decide_eq_true (by assumption)
                    have q117 : x4_3 < (l0_1.length : Int) := of_decide_eq_true (by assumption)
                    obtain ⟨ad117, e117, hx117_0, hx117_1, hx117_2, hx117_3, hx117_4, hx117_5, hx117_6, hx117_7, hx117_8⟩ := at_T44 HR0_1.out x4_3 p117 q117
                    cases e117
                    replace hx117_0 := (HB.out.cell (bl_ w _ hx117_0)).trans hx117_0
                    replace hx117_1 := (HB.out.cell (bl_ w _ hx117_1)).trans hx117_1
                    replace hx117_2 := (HB.out.cell (bl_ w _ hx117_2)).trans hx117_2
                    replace hx117_3 := (HB.out.cell (bl_ w _ hx117_3)).trans hx117_3
                    replace hx117_4 := (HB.out.cell (bl_ w _ hx117_4)).trans hx117_4
                    replace hx117_5 := (HB.out.cell (bl_ w _ hx117_5)).trans hx117_5
                    replace hx117_6 := (HB.out.cell (bl_ w _ hx117_6)).trans hx117_6
                    replace hx117_7 := (HB.out.cell (bl_ w _ hx117_7)).trans hx117_7
                    replace hx117_8 := (HB.out.cell (bl_ w _ hx117_8)).trans hx117_8
                    replace p117 := eq_true p117
                    replace q117 := eq_true q117
                    go_wp2
                    go_ret
                    exact ⟨by first | rfl | (simp [errW_none, errW_some] <;> rfl) | (simp [*, errW_none, errW_some] <;> rfl), by repeat (first | (with_reducible first | exact HB.out | apply pa_ | apply pd_ | apply p1_ | refine zs_ ?_ GE114.out) | exact HB.out)⟩
                  rw [if_neg c19] at H
                  have c19b0 : decide (200 < (((rd_T44 l0_1 x4_3).f1).size : Int)) = false := decide_eq_false c19
                  have c19b1 : decide (200 < ((rd_T44 l0_1 x4_3).f1).size) = false := decide_eq_false (by omega)
                  clear c19
                  have H' := ak_ H
                  clear H
                  have hcz21_0 : wr.cell? ⟨gb114, 0, none⟩ = some (.slice A0_0 l0_0.length c0_0) := (zc_ BK114.out 0).trans rfl
                  have hcz21_1 : wr.cell? ⟨gb114, 1, none⟩ = some (.slice A0_1 l0_1.length c0_1) := (zc_ BK114.out 1).trans rfl
                  have hcz21_2 : wr.cell? ⟨gb114, 2, none⟩ = some (.int .i64 a0_2) := (zc_ BK114.out 2).trans rfl
                  have hfz21_0 := zf_ BK114.out 0
                  have hfz21_1 := zf_ BK114.out 1
                  have hfz21_2 := zf_ BK114.out 2
                  have p117 : 0 ≤ (x4_3 : Int) := of_decide_eq_true (by assumption)
                  have q117 : x4_3 < (l0_1.length : Int) := of_decide_eq_true (by assumption)
                  obtain ⟨ad117, e117, hx117_0, hx117_1, hx117_2, hx117_3, hx117_4, hx117_5, hx117_6, hx117_7, hx117_8⟩ := at_T44 HR0_1.out x4_3 p117 q117
                  cases e117
                  replace hx117_0 := (HB.out.cell (bl_ w _ hx117_0)).trans hx117_0
                  replace hx117_1 := (HB.out.cell (bl_ w _ hx117_1)).trans hx117_1
                  replace hx117_2 := (HB.out.cell (bl_ w _ hx117_2)).trans hx117_2
                  replace hx117_3 := (HB.out.cell (bl_ w _ hx117_3)).trans hx117_3
                  replace hx117_4 := (HB.out.cell (bl_ w _ hx117_4)).trans hx117_4
                  replace hx117_5 := (HB.out.cell (bl_ w _ hx117_5)).trans hx117_5
                  replace hx117_6 := (HB.out.cell (bl_ w _ hx117_6)).trans hx117_6
                  replace hx117_7 := (HB.out.cell (bl_ w _ hx117_7)).trans hx117_7
                  replace hx117_8 := (HB.out.cell (bl_ w _ hx117_8)).trans hx117_8
                  replace p117 := eq_true p117
                  replace q117 := eq_true q117
                  go_wp2
                  go_roundg k3
                  case measure => have := HJ1.out; have := HK2.out; have := HK3.out; omega
                  case rel => exact ⟨(wrap64 (x4_3 + 1)), (by first | rfl | (simp; done) | (simp [*]; done)), H', ⟨by have := HJ1.out; have := HK2.out; have := HK3.out; omega⟩, ⟨by (with_reducible repeat (first | apply zn_ | apply zd_ | apply za_)); exact BK114.out⟩, ⟨by repeat (first | (with_reducible first | exact HB.out | apply pa_ | apply pd_ | apply p1_ | refine zs_ ?_ GE114.out) | exact HB.out)⟩⟩
                rw [if_neg c18] at H
                exact absurd H (by simp)
              rw [if_neg c17] at H
              have c17b0 : decide (x4_3 < (l0_1.length : Int)) = false := decide_eq_false c17
              clear c17
              obtain rfl := Option.some.inj H
              have hcz22_0 : wr.cell? ⟨gb114, 0, none⟩ = some (.slice A0_0 l0_0.length c0_0) := (zc_ BK114.out 0).trans rfl
              have hcz22_1 : wr.cell? ⟨gb114, 1, none⟩ = some (.slice A0_1 l0_1.length c0_1) := (zc_ BK114.out 1).trans rfl
              have hcz22_2 : wr.cell? ⟨gb114, 2, none⟩ = some (.int .i64 a0_2) := (zc_ BK114.out 2).trans rfl
              have hfz22_0 := zf_ BK114.out 0
              have hfz22_1 := zf_ BK114.out 1
              have hfz22_2 := zf_ BK114.out 2
              go_wp2
              go_ret
              exact ⟨by first | rfl | (simp [errW_none, errW_some] <;> rfl) | (simp [*, errW_none, errW_some] <;> rfl), by repeat (first | (with_reducible first | exact HB.out | apply pa_ | apply pd_ | apply p1_ | refine zs_ ?_ GE114.out) | exact HB.out)⟩

end Go.Proofs.Ytookpfpmobbhiaa.Q
