-- written for this claim by a program of the session
import Derived.Test.YtookpfpmobbhiaaQx0
namespace Go.Proofs.Ytookpfpmobbhiaa.Q
open Go.RowKit Go.Proofs.YtookpfpmobbhiaaW.PrintWords Go.Proofs.YtookpfpmobbhiaaW.PrintLast Go.Proofs.YtookpfpmobbhiaaW.PrintMore
attribute [local go_sem] max2_int min2_int max_two min_two max_three min_three max_four min_four   -- for this text's walks alone
set_option linter.unusedVariables false
set_option linter.unusedSimpArgs false

/-! ### usufructref25_Live: function 16 -/
def usufructref25_Live.l0 : Nat → Int → Int → List (S28) → List (S44) → Int → Option (Int)
  | 0, _, _, _, _, _ => none
  | k + 1, x3, x4, x148000, x148001, x148002 => if x4 < (x148001.length : Int) then (if 0 ≤ x4 then (if ((rd_T44 x148001 x4).f3) = 0 then (usufructref25_Live.l0 k (wrap64 (x3 + 1)) (wrap64 (x4 + 1)) x148000 x148001 x148002) else (if ((rd_T44 x148001 x4).f3) = 1 then (usufructref25_Live.l0 k (wrap64 (x3 + 1)) (wrap64 (x4 + 1)) x148000 x148001 x148002) else (usufructref25_Live.l0 k x3 (wrap64 (x4 + 1)) x148000 x148001 x148002))) else (none)) else (some x3)
def usufructref25_Live.f (k : Nat) (l0_0 : List (S28)) (l0_1 : List (S44)) (a0_2 : Int) : Option (Int) := usufructref25_Live.l0 k 0 0 l0_0 l0_1 a0_2
theorem usufructref25_Live.mono_l : ∀ k, (∀ y0 y1 y2 y3 y4, LeO (usufructref25_Live.l0 k y0 y1 y2 y3 y4) (usufructref25_Live.l0 (k + 1) y0 y1 y2 y3 y4))
  | 0 => fun _ _ _ _ _ r h => by simp [usufructref25_Live.l0] at h
  | k + 1 => by
    have ih0 := usufructref25_Live.mono_l k
    · intro y0 y1 y2 y3 y4
      unfold usufructref25_Live.l0
      repeat' first
      | (with_reducible exact ih0 _ _ _ _ _)
      | (with_reducible exact LeO.refl _)
      | (with_reducible exact LeO.none _)
      | (with_reducible refine LeO.ite ?_ ?_)
      | (with_reducible refine LeO.bind ?_ (fun _ => ?_))
      | exact ih0 _ _ _ _ _
      | exact LeO.none _
      | refine LeO.ite ?_ ?_
      | refine LeO.bind ?_ (fun _ => ?_)
theorem usufructref25_Live.mono : ∀ a0 a1 a2 k, LeO (usufructref25_Live.f k a0 a1 a2) (usufructref25_Live.f (k + 1) a0 a1 a2) := by
  intro a0 a1 a2 k
  have ih0 := usufructref25_Live.mono_l k
  unfold usufructref25_Live.f
  repeat' first
      | (with_reducible exact ih0 _ _ _ _ _)
      | (with_reducible exact LeO.refl _)
      | (with_reducible exact LeO.none _)
      | (with_reducible refine LeO.ite ?_ ?_)
      | (with_reducible refine LeO.bind ?_ (fun _ => ?_))
      | exact ih0 _ _ _ _ _
      | exact LeO.none _
      | refine LeO.ite ?_ ?_
      | refine LeO.bind ?_ (fun _ => ?_)
namespace usufructref25_Live
theorem mt_ {α β : Type} {f : α → β} {l : List α} : l.toArray.map f = (l.map f).toArray := List.map_toArray
theorem mc_ {α β : Type} {f : α → β} {a : α} {l : List α} : (a :: l).map f = f a :: l.map f := rfl
theorem mn_ {α β : Type} {f : α → β} : ([] : List α).map f = [] := rfl
abbrev zn_ := @blk_drewN
abbrev zd_ := @blk_drew
abbrev za_ := @blk_alloc
abbrev zf_ := @blk_frozen
abbrev zc_ := @blk_cell
abbrev zs_ := @below_set
abbrev zr_ := @blk_far
abbrev zp_ := @blk_put
abbrev pd_ := @pw_below_drewN
abbrev p1_ := @below_drew1
abbrev pa_ := @below_alloc
abbrev ak_ := @Aside0.mk
abbrev bl_ := @World.block_lt_of_cell?
abbrev ps_ := @below_step
def b_ (n k : Nat) : Array Bool := ((List.range n).map fun i => k.testBit i).toArray
theorem sa_ {α : Type} {l : List α} {i : Nat} {a : α} : l.toArray.setIfInBounds i a = (l.set i a).toArray := List.setIfInBounds_toArray l i a
theorem sz_ {α : Type} {a b : α} {l : List α} : (a :: l).set 0 b = b :: l := rfl
theorem ss_ {α : Type} {a b : α} {l : List α} {n : Nat} : (a :: l).set (n + 1) b = a :: l.set n b := rfl
end usufructref25_Live
open usufructref25_Live in
set_option maxHeartbeats 8000000 in
set_option maxRecDepth 100000 in
theorem usufructref25_Live.calls (k : Nat) (A0_0 : Option Addr) (c0_0 : Nat) (l0_0 : List (S28)) (A0_1 : Option Addr) (c0_1 : Nat) (l0_1 : List (S44)) (a0_2 : Int) (r : Int) (w : World) (hr0_0 : Kd.C k28 w A0_0 l0_0.length l0_0) (hc0_0 : l0_0.length ≤ c0_0) (hr0_1 : Kd.C k44 w A0_1 l0_1.length l0_1) (hc0_1 : l0_1.length ≤ c0_1) (h : usufructref25_Live.f k l0_0 l0_1 a0_2 = some r) :
    Calls Try.prog 16 #[.agg #[.slice A0_0 l0_0.length c0_0, .slice A0_1 l0_1.length c0_1, .int .i64 a0_2]] w fun e w' => e = .returned (.int .i64 r) ∧ Below w.heap.size w w' := by
  have hu25 := Try.underlying25
  have HR0_0 := ak_ hr0_0
  have HC0_0 := ak_ hc0_0
  clear hr0_0 hc0_0
  have HR0_1 := ak_ hr0_1
  have HC0_1 := ak_ hc0_1
  clear hr0_1 hc0_1
  have HB := ak_ (Below.refl w.heap.size w)
  have H : (usufructref25_Live.l0 k 0 0 l0_0 l0_1 a0_2) = some r := h
  clear h
  have H' := ak_ H
  clear H
  go_enter Try.func16, Try.ntmps16
  go_wp2_with (first | ((with_reducible refine gate_dst (N := 1) rfl ?_); refine box_event ?hg (N := 1) ?hd (cs := #[.slice A0_0 l0_0.length c0_0, .slice A0_1 l0_1.length c0_1, .int .i64 a0_2]) (t := 25) ?hr ?_; (case hd => rfl); (case hg => rfl); (case hr => first | (go_simp; done) | (go_simp; rfl)); intro gb147 hg w2 hbox hb; have n0_ := ak_ (ps_ (by repeat (first | (with_reducible first | exact HB.out | apply pa_ | apply pd_ | apply p1_) | exact HB.out)) hb); have n1_ := ak_ (hbox); have n2_ := ak_ ((by rw [hg]; exact (below_size (by repeat (first | (with_reducible first | exact HB.out | apply pa_ | apply pd_ | apply p1_) | exact HB.out))) : w.heap.size ≤ gb147)); have n3_ := ak_ ((by rw [hg]; exact (below_size (by repeat (first | (with_reducible first | exact HB.out | apply pa_ | apply pd_ | apply p1_) | exact HB.out))) : w.heap.size ≤ gb147)); clear HB; have HB := n0_; have BK147 := n1_; have GW147 := n2_; have GE147 := n3_; clear n0_ n1_ n2_ n3_; clear hb hbox hg))
  go_loopg [3, 4] k (fun kq v3 v4 w' => ∃ (x3_1 : Int) (x4_1 : Int), v3 = .int .i64 x3_1 ∧ v4 = .int .i64 x4_1 ∧ Aside0 (usufructref25_Live.l0 kq x3_1 x4_1 l0_0 l0_1 a0_2 = some r) ∧ Aside0 (kq ≤ k) ∧ Aside0 (w'.heap[gb147]? = some (.cells #[(.slice A0_0 l0_0.length c0_0), (.slice A0_1 l0_1.length c0_1), .int .i64 a0_2] 25 (0, 0))) ∧ Aside0 (Below w.heap.size w w'))
  case atStart => exact ⟨(0), (0), (by first | rfl | (simp; done) | (simp [*]; done)), (by first | rfl | (simp; done) | (simp [*]; done)), H', ⟨Nat.le_refl _⟩, ⟨by (with_reducible repeat (first | apply zn_ | apply zd_ | apply za_)); exact BK147.out⟩, ⟨by repeat (first | (with_reducible first | exact HB.out | apply pa_ | apply pd_ | apply p1_ | refine zs_ ?_ GE147.out) | exact HB.out)⟩⟩
  case round =>
    clear H'
    try clear c1
    try clear p2
    obtain ⟨x3_1, x4_1, rfl, rfl, HA, HK1, BK147, HB⟩ := hrel
    cases gk with
    | zero => exact absurd HA.out (by simp [usufructref25_Live.l0])
    | succ k1 =>
      have H := HA.out
      clear HA
      simp only [usufructref25_Live.l0] at H
      by_cases c3 : x4_1 < (l0_1.length : Int)
      · rw [if_pos c3] at H
        have c3b0 : decide (x4_1 < (l0_1.length : Int)) = true := decide_eq_true c3
        clear c3
        by_cases c4 : 0 ≤ x4_1
        · rw [if_pos c4] at H
          have c4b0 : decide (0 ≤ x4_1) = true := decide_eq_true c4
          clear c4
          by_cases c5 : ((rd_T44 l0_1 x4_1).f3) = 0
          · rw [if_pos c5] at H
            have c5b0 : (((rd_T44 l0_1 x4_1).f3) == 0) = true := beq_iff_eq.mpr c5
            have c5b1 : (((rd_T44 l0_1 x4_1).f3) != 0) = false := bne_eq_false_iff_eq.mpr c5
            clear c5
            have H' := ak_ H
            clear H
            have hcz6_0 : wr.cell? ⟨gb147, 0, none⟩ = some (.slice A0_0 l0_0.length c0_0) := (zc_ BK147.out 0).trans rfl
            have hcz6_1 : wr.cell? ⟨gb147, 1, none⟩ = some (.slice A0_1 l0_1.length c0_1) := (zc_ BK147.out 1).trans rfl
            have hcz6_2 : wr.cell? ⟨gb147, 2, none⟩ = some (.int .i64 a0_2) := (zc_ BK147.out 2).trans rfl
            have hfz6_0 := zf_ BK147.out 0
            have hfz6_1 := zf_ BK147.out 1
            have hfz6_2 := zf_ BK147.out 2
            have p148 : 0 ≤ (x4_1 : Int) := of_decide_eq_true (by assumption)
            have q148 : x4_1 < (l0_1.length : Int) := of_decide_eq_true (by assumption)
            obtain ⟨ad148, e148, hx148_0, hx148_1, hx148_2, hx148_3, hx148_4, hx148_5, hx148_6, hx148_7, hx148_8⟩ := at_T44 HR0_1.out x4_1 p148 q148
            cases e148
            replace hx148_0 := (HB.out.cell (bl_ w _ hx148_0)).trans hx148_0
            replace hx148_1 := (HB.out.cell (bl_ w _ hx148_1)).trans hx148_1
            replace hx148_2 := (HB.out.cell (bl_ w _ hx148_2)).trans hx148_2
            replace hx148_3 := (HB.out.cell (bl_ w _ hx148_3)).trans hx148_3
            replace hx148_4 := (HB.out.cell (bl_ w _ hx148_4)).trans hx148_4
            replace hx148_5 := (HB.out.cell (bl_ w _ hx148_5)).trans hx148_5
            replace hx148_6 := (HB.out.cell (bl_ w _ hx148_6)).trans hx148_6
            replace hx148_7 := (HB.out.cell (bl_ w _ hx148_7)).trans hx148_7
            replace hx148_8 := (HB.out.cell (bl_ w _ hx148_8)).trans hx148_8
            replace p148 := eq_true p148
            replace q148 := eq_true q148
            go_wp2
            go_roundg k1
            case measure => have := HK1.out; omega
            case rel => exact ⟨(wrap64 (x3_1 + 1)), (wrap64 (x4_1 + 1)), (by first | rfl | (simp; done) | (simp [*]; done)), (by first | rfl | (simp; done) | (simp [*]; done)), H', ⟨by have := HK1.out; omega⟩, ⟨by (with_reducible repeat (first | apply zn_ | apply zd_ | apply za_)); exact BK147.out⟩, ⟨by repeat (first | (with_reducible first | exact HB.out | apply pa_ | apply pd_ | apply p1_ | refine zs_ ?_ GE147.out) | exact HB.out)⟩⟩
          rw [if_neg c5] at H
          have c5b0 : (((rd_T44 l0_1 x4_1).f3) == 0) = false := beq_eq_false_iff_ne.mpr c5
          have c5b1 : (((rd_T44 l0_1 x4_1).f3) != 0) = true := bne_iff_ne.mpr c5
          by_cases c7 : ((rd_T44 l0_1 x4_1).f3) = 1
          · rw [if_pos c7] at H
            have c7b0 : (((rd_T44 l0_1 x4_1).f3) == 1) = true := beq_iff_eq.mpr c7
            have c7b1 : (((rd_T44 l0_1 x4_1).f3) != 1) = false := bne_eq_false_iff_eq.mpr c7
            clear c7
            have H' := ak_ H
            clear H
            have hcz8_0 : wr.cell? ⟨gb147, 0, none⟩ = some (.slice A0_0 l0_0.length c0_0) := (zc_ BK147.out 0).trans rfl
            have hcz8_1 : wr.cell? ⟨gb147, 1, none⟩ = some (.slice A0_1 l0_1.length c0_1) := (zc_ BK147.out 1).trans rfl
            have hcz8_2 : wr.cell? ⟨gb147, 2, none⟩ = some (.int .i64 a0_2) := (zc_ BK147.out 2).trans rfl
            have hfz8_0 := zf_ BK147.out 0
            have hfz8_1 := zf_ BK147.out 1
            have hfz8_2 := zf_ BK147.out 2
            have p148 : 0 ≤ (x4_1 : Int) := of_decide_eq_true (by assumption)
            have q148 : x4_1 < (l0_1.length : Int) := of_decide_eq_true (by assumption)
            obtain ⟨ad148, e148, hx148_0, hx148_1, hx148_2, hx148_3, hx148_4, hx148_5, hx148_6, hx148_7, hx148_8⟩ := at_T44 HR0_1.out x4_1 p148 q148
            cases e148
            replace hx148_0 := (HB.out.cell (bl_ w _ hx148_0)).trans hx148_0
            replace hx148_1 := (HB.out.cell (bl_ w _ hx148_1)).trans hx148_1
            replace hx148_2 := (HB.out.cell (bl_ w _ hx148_2)).trans hx148_2
            replace hx148_3 := (HB.out.cell (bl_ w _ hx148_3)).trans hx148_3
            replace hx148_4 := (HB.out.cell (bl_ w _ hx148_4)).trans hx148_4
            replace hx148_5 := (HB.out.cell (bl_ w _ hx148_5)).trans hx148_5
            replace hx148_6 := (HB.out.cell (bl_ w _ hx148_6)).trans hx148_6
            replace hx148_7 := (HB.out.cell (bl_ w _ hx148_7)).trans hx148_7
            replace hx148_8 := (HB.out.cell (bl_ w _ hx148_8)).trans hx148_8
            replace p148 := eq_true p148
            replace q148 := eq_true q148
            have p149 : 0 ≤ (x4_1 : Int) := of_decide_eq_true (by assumption)
            have q149 : x4_1 < (l0_1.length : Int) := of_decide_eq_true (by assumption)
            obtain ⟨ad149, e149, hx149_0, hx149_1, hx149_2, hx149_3, hx149_4, hx149_5, hx149_6, hx149_7, hx149_8⟩ := at_T44 HR0_1.out x4_1 p149 q149
            obtain rfl : ad148 = ad149 := (by injection e149)
            replace hx149_0 := (HB.out.cell (bl_ w _ hx149_0)).trans hx149_0
            replace hx149_1 := (HB.out.cell (bl_ w _ hx149_1)).trans hx149_1
            replace hx149_2 := (HB.out.cell (bl_ w _ hx149_2)).trans hx149_2
            replace hx149_3 := (HB.out.cell (bl_ w _ hx149_3)).trans hx149_3
            replace hx149_4 := (HB.out.cell (bl_ w _ hx149_4)).trans hx149_4
            replace hx149_5 := (HB.out.cell (bl_ w _ hx149_5)).trans hx149_5
            replace hx149_6 := (HB.out.cell (bl_ w _ hx149_6)).trans hx149_6
            replace hx149_7 := (HB.out.cell (bl_ w _ hx149_7)).trans hx149_7
            replace hx149_8 := (HB.out.cell (bl_ w _ hx149_8)).trans hx149_8
            replace p149 := eq_true p149
            replace q149 := eq_true q149
            go_wp2
            go_roundg k1
            case measure => have := HK1.out; omega
            case rel => exact ⟨(wrap64 (x3_1 + 1)), (wrap64 (x4_1 + 1)), (by first | rfl | (simp; done) | (simp [*]; done)), (by first | rfl | (simp; done) | (simp [*]; done)), H', ⟨by have := HK1.out; omega⟩, ⟨by (with_reducible repeat (first | apply zn_ | apply zd_ | apply za_)); exact BK147.out⟩, ⟨by repeat (first | (with_reducible first | exact HB.out | apply pa_ | apply pd_ | apply p1_ | refine zs_ ?_ GE147.out) | exact HB.out)⟩⟩
          rw [if_neg c7] at H
          have c7b0 : (((rd_T44 l0_1 x4_1).f3) == 1) = false := beq_eq_false_iff_ne.mpr c7
          have c7b1 : (((rd_T44 l0_1 x4_1).f3) != 1) = true := bne_iff_ne.mpr c7
          have H' := ak_ H
          clear H
          have hcz9_0 : wr.cell? ⟨gb147, 0, none⟩ = some (.slice A0_0 l0_0.length c0_0) := (zc_ BK147.out 0).trans rfl
          have hcz9_1 : wr.cell? ⟨gb147, 1, none⟩ = some (.slice A0_1 l0_1.length c0_1) := (zc_ BK147.out 1).trans rfl
          have hcz9_2 : wr.cell? ⟨gb147, 2, none⟩ = some (.int .i64 a0_2) := (zc_ BK147.out 2).trans rfl
          have hfz9_0 := zf_ BK147.out 0
          have hfz9_1 := zf_ BK147.out 1
          have hfz9_2 := zf_ BK147.out 2
          have p148 : 0 ≤ (x4_1 : Int) := of_decide_eq_true (by assumption)
          have q148 : x4_1 < (l0_1.length : Int) := of_decide_eq_true (by assumption)
          obtain ⟨ad148, e148, hx148_0, hx148_1, hx148_2, hx148_3, hx148_4, hx148_5, hx148_6, hx148_7, hx148_8⟩ := at_T44 HR0_1.out x4_1 p148 q148
          cases e148
          replace hx148_0 := (HB.out.cell (bl_ w _ hx148_0)).trans hx148_0
          replace hx148_1 := (HB.out.cell (bl_ w _ hx148_1)).trans hx148_1
          replace hx148_2 := (HB.out.cell (bl_ w _ hx148_2)).trans hx148_2
          replace hx148_3 := (HB.out.cell (bl_ w _ hx148_3)).trans hx148_3
          replace hx148_4 := (HB.out.cell (bl_ w _ hx148_4)).trans hx148_4
          replace hx148_5 := (HB.out.cell (bl_ w _ hx148_5)).trans hx148_5
          replace hx148_6 := (HB.out.cell (bl_ w _ hx148_6)).trans hx148_6
          replace hx148_7 := (HB.out.cell (bl_ w _ hx148_7)).trans hx148_7
          replace hx148_8 := (HB.out.cell (bl_ w _ hx148_8)).trans hx148_8
          replace p148 := eq_true p148
          replace q148 := eq_true q148
          have p149 : 0 ≤ (x4_1 : Int) := of_decide_eq_true (by assumption)
          have q149 : x4_1 < (l0_1.length : Int) := of_decide_eq_true (by assumption)
          obtain ⟨ad149, e149, hx149_0, hx149_1, hx149_2, hx149_3, hx149_4, hx149_5, hx149_6, hx149_7, hx149_8⟩ := at_T44 HR0_1.out x4_1 p149 q149
          obtain rfl : ad148 = ad149 := (by injection e149)
          replace hx149_0 := (HB.out.cell (bl_ w _ hx149_0)).trans hx149_0
          replace hx149_1 := (HB.out.cell (bl_ w _ hx149_1)).trans hx149_1
          replace hx149_2 := (HB.out.cell (bl_ w _ hx149_2)).trans hx149_2
          replace hx149_3 := (HB.out.cell (bl_ w _ hx149_3)).trans hx149_3
          replace hx149_4 := (HB.out.cell (bl_ w _ hx149_4)).trans hx149_4
          replace hx149_5 := (HB.out.cell (bl_ w _ hx149_5)).trans hx149_5
          replace hx149_6 := (HB.out.cell (bl_ w _ hx149_6)).trans hx149_6
          replace hx149_7 := (HB.out.cell (bl_ w _ hx149_7)).trans hx149_7
          replace hx149_8 := (HB.out.cell (bl_ w _ hx149_8)).trans hx149_8
          replace p149 := eq_true p149
          replace q149 := eq_true q149
          go_wp2
          go_roundg k1
          case measure => have := HK1.out; omega
          case rel => exact ⟨(x3_1), (wrap64 (x4_1 + 1)), (by first | rfl | (simp; done) | (simp [*]; done)), (by first | rfl | (simp; done) | (simp [*]; done)), H', ⟨by have := HK1.out; omega⟩, ⟨by (with_reducible repeat (first | apply zn_ | apply zd_ | apply za_)); exact BK147.out⟩, ⟨by repeat (first | (with_reducible first | exact HB.out | apply pa_ | apply pd_ | apply p1_ | refine zs_ ?_ GE147.out) | exact HB.out)⟩⟩
        rw [if_neg c4] at H
        exact absurd H (by simp)
      rw [if_neg c3] at H
      have c3b0 : decide (x4_1 < (l0_1.length : Int)) = false := decide_eq_false c3
      clear c3
      obtain rfl := Option.some.inj H
      have hcz10_0 : wr.cell? ⟨gb147, 0, none⟩ = some (.slice A0_0 l0_0.length c0_0) := (zc_ BK147.out 0).trans rfl
      have hcz10_1 : wr.cell? ⟨gb147, 1, none⟩ = some (.slice A0_1 l0_1.length c0_1) := (zc_ BK147.out 1).trans rfl
      have hcz10_2 : wr.cell? ⟨gb147, 2, none⟩ = some (.int .i64 a0_2) := (zc_ BK147.out 2).trans rfl
      have hfz10_0 := zf_ BK147.out 0
      have hfz10_1 := zf_ BK147.out 1
      have hfz10_2 := zf_ BK147.out 2
      go_wp2
      go_ret
      exact ⟨by first | rfl | (simp [errW_none, errW_some] <;> rfl) | (simp [*, errW_none, errW_some] <;> rfl), by repeat (first | (with_reducible first | exact HB.out | apply pa_ | apply pd_ | apply p1_ | refine zs_ ?_ GE147.out) | exact HB.out)⟩

end Go.Proofs.Ytookpfpmobbhiaa.Q
