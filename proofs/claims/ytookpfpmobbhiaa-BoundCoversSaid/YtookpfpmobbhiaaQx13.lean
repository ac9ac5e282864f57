-- written for this claim by a program of the session
import Derived.Test.YtookpfpmobbhiaaQx0
import Derived.Test.YtookpfpmobbhiaaQx5
import Derived.Test.YtookpfpmobbhiaaQx7
import Derived.Test.YtookpfpmobbhiaaQx8
import Derived.Test.YtookpfpmobbhiaaQx10
import Derived.Test.YtookpfpmobbhiaaQx11
import Derived.Test.YtookpfpmobbhiaaQx12
namespace Go.Proofs.Ytookpfpmobbhiaa.Q
open Go.RowKit Go.Proofs.YtookpfpmobbhiaaW.PrintWords Go.Proofs.YtookpfpmobbhiaaW.PrintLast Go.Proofs.YtookpfpmobbhiaaW.PrintMore
attribute [local go_sem] max2_int min2_int max_two min_two max_three min_three max_four min_four   -- for this text's walks alone
set_option linter.unusedVariables false
set_option linter.unusedSimpArgs false

/-! ### usufructref25_Ticks: function 18 -/
mutual
def usufructref25_Ticks.l0 : Nat → List (S51) → Int → Int → List (S28) → List (S44) → Int → Option (Int)
  | 0, _, _, _, _, _, _ => none
  | k + 1, x1, x5, x6, x153000, x153001, x153002 => if x6 < (x153001.length : Int) then (if 0 ≤ x6 then ((usufructref16_Def.f k x153000 x153001 x153002 ((rd_T44 x153001 x6).f1)).bind fun t155 => (if ((rd_T44 x153001 x6).f3) = 0 then (usufructref25_Ticks.j1 k x1 x5 x6 t155 (decide (t155 ≥ 0)) x153000 x153001 x153002) else (if ((rd_T44 x153001 x6).f3) = 1 then (usufructref25_Ticks.j1 k x1 x5 x6 t155 (decide (t155 ≥ 0)) x153000 x153001 x153002) else (usufructref25_Ticks.j1 k x1 x5 x6 t155 false x153000 x153001 x153002)))) else (none)) else ((usufructref25_Live.f k x153000 x153001 x153002).bind fun t159 => ((usufructref25_Longest.f k x153000 x1).bind fun t160 => ((usufructref25_All.f k x5 t159 t160).bind fun t161 => (some t161))))
def usufructref25_Ticks.j1 : Nat → List (S51) → Int → Int → Int → Bool → List (S28) → List (S44) → Int → Option (Int)
  | 0, _, _, _, _, _, _, _, _ => none
  | k + 1, x1, x5, x6, x8, x36, x153000, x153001, x153002 => if x36 = true then (if 0 ≤ x8 then (if x8 < (x153000.length : Int) then ((usufructref25_Emissions.f k ((rd_T28 x153000 x8).f0) ((rd_T28 x153000 x8).f1) ((rd_T28 x153000 x8).f2)).bind fun t157 => ((usufructref01_Add.f x5 t157).bind fun t158 => (usufructref25_Ticks.l0 k x1 t158 (wrap64 (x6 + 1)) x153000 x153001 x153002))) else (none)) else (none)) else (usufructref25_Ticks.l0 k x1 x5 (wrap64 (x6 + 1)) x153000 x153001 x153002)
end
def usufructref25_Ticks.f (k : Nat) (l0_0 : List (S28)) (l0_1 : List (S44)) (a0_2 : Int) (l1 : List (S51)) : Option (Int) := usufructref25_Ticks.l0 k l1 0 0 l0_0 l0_1 a0_2
theorem usufructref25_Ticks.mono_l : ∀ k, (∀ y0 y1 y2 y3 y4 y5, LeO (usufructref25_Ticks.l0 k y0 y1 y2 y3 y4 y5) (usufructref25_Ticks.l0 (k + 1) y0 y1 y2 y3 y4 y5)) ∧ (∀ y0 y1 y2 y3 y4 y5 y6 y7, LeO (usufructref25_Ticks.j1 k y0 y1 y2 y3 y4 y5 y6 y7) (usufructref25_Ticks.j1 (k + 1) y0 y1 y2 y3 y4 y5 y6 y7))
  | 0 => ⟨fun _ _ _ _ _ _ r h => by simp [usufructref25_Ticks.l0] at h, fun _ _ _ _ _ _ _ _ r h => by simp [usufructref25_Ticks.j1] at h⟩
  | k + 1 => by
    obtain ⟨ih0, ih1⟩ := usufructref25_Ticks.mono_l k
    refine ⟨?_, ?_⟩
    · intro y0 y1 y2 y3 y4 y5
      unfold usufructref25_Ticks.l0
      repeat' first
      | (with_reducible exact ih0 _ _ _ _ _ _)
      | (with_reducible exact ih1 _ _ _ _ _ _ _ _)
      | (with_reducible exact usufructref16_Def.mono _ _ _ _ _)
      | (with_reducible exact usufructref25_All.mono _ _ _ _)
      | (with_reducible exact usufructref25_Emissions.mono _ _ _ _)
      | (with_reducible exact usufructref25_Live.mono _ _ _ _)
      | (with_reducible exact usufructref25_Longest.mono _ _ _)
      | (with_reducible exact LeO.refl _)
      | (with_reducible exact LeO.none _)
      | (with_reducible refine LeO.ite ?_ ?_)
      | (with_reducible refine LeO.bind ?_ (fun _ => ?_))
      | exact ih0 _ _ _ _ _ _
      | exact ih1 _ _ _ _ _ _ _ _
      | exact usufructref16_Def.mono _ _ _ _ _
      | exact usufructref25_All.mono _ _ _ _
      | exact usufructref25_Emissions.mono _ _ _ _
      | exact usufructref25_Live.mono _ _ _ _
      | exact usufructref25_Longest.mono _ _ _
      | exact LeO.none _
      | refine LeO.ite ?_ ?_
      | refine LeO.bind ?_ (fun _ => ?_)
    · intro y0 y1 y2 y3 y4 y5 y6 y7
      unfold usufructref25_Ticks.j1
      repeat' first
      | (with_reducible exact ih0 _ _ _ _ _ _)
      | (with_reducible exact ih1 _ _ _ _ _ _ _ _)
      | (with_reducible exact usufructref16_Def.mono _ _ _ _ _)
      | (with_reducible exact usufructref25_All.mono _ _ _ _)
      | (with_reducible exact usufructref25_Emissions.mono _ _ _ _)
      | (with_reducible exact usufructref25_Live.mono _ _ _ _)
      | (with_reducible exact usufructref25_Longest.mono _ _ _)
      | (with_reducible exact LeO.refl _)
      | (with_reducible exact LeO.none _)
      | (with_reducible refine LeO.ite ?_ ?_)
      | (with_reducible refine LeO.bind ?_ (fun _ => ?_))
      | exact ih0 _ _ _ _ _ _
      | exact ih1 _ _ _ _ _ _ _ _
      | exact usufructref16_Def.mono _ _ _ _ _
      | exact usufructref25_All.mono _ _ _ _
      | exact usufructref25_Emissions.mono _ _ _ _
      | exact usufructref25_Live.mono _ _ _ _
      | exact usufructref25_Longest.mono _ _ _
      | exact LeO.none _
      | refine LeO.ite ?_ ?_
      | refine LeO.bind ?_ (fun _ => ?_)
theorem usufructref25_Ticks.mono : ∀ a0 a1 a2 a3 k, LeO (usufructref25_Ticks.f k a0 a1 a2 a3) (usufructref25_Ticks.f (k + 1) a0 a1 a2 a3) := by
  intro a0 a1 a2 a3 k
  obtain ⟨ih0, ih1⟩ := usufructref25_Ticks.mono_l k
  unfold usufructref25_Ticks.f
  repeat' first
      | (with_reducible exact ih0 _ _ _ _ _ _)
      | (with_reducible exact ih1 _ _ _ _ _ _ _ _)
      | (with_reducible exact usufructref16_Def.mono _ _ _ _ _)
      | (with_reducible exact usufructref25_All.mono _ _ _ _)
      | (with_reducible exact usufructref25_Emissions.mono _ _ _ _)
      | (with_reducible exact usufructref25_Live.mono _ _ _ _)
      | (with_reducible exact usufructref25_Longest.mono _ _ _)
      | (with_reducible exact LeO.refl _)
      | (with_reducible exact LeO.none _)
      | (with_reducible refine LeO.ite ?_ ?_)
      | (with_reducible refine LeO.bind ?_ (fun _ => ?_))
      | exact ih0 _ _ _ _ _ _
      | exact ih1 _ _ _ _ _ _ _ _
      | exact usufructref16_Def.mono _ _ _ _ _
      | exact usufructref25_All.mono _ _ _ _
      | exact usufructref25_Emissions.mono _ _ _ _
      | exact usufructref25_Live.mono _ _ _ _
      | exact usufructref25_Longest.mono _ _ _
      | exact LeO.none _
      | refine LeO.ite ?_ ?_
      | refine LeO.bind ?_ (fun _ => ?_)
def usufructref25_Ticks.T9 : Bool × List (List Nat × List Nat) := (true, [([], []), ([], []), ([1], [1]), ([], []), ([3], [3]), ([], []), ([4, 5, 2], [4, 5]), ([0, 2, 6, 6], [0, 2, 6]), ([7, 7, 0, 1, 2, 3, 4, 5, 6, 7], [7])])
def usufructref25_Ticks.B9 : List Nat := [0, 0, 2, 0, 8, 0, 62, 127, 255]
theorem usufructref25_Ticks.tab9 : rtab .any (opsOf Try.f18 9) = usufructref25_Ticks.T9 := by kernel_rfl
theorem usufructref25_Ticks.bits9 : waitsOk usufructref25_Ticks.T9.2 usufructref25_Ticks.B9 = true := by kernel_rfl
namespace usufructref25_Ticks
theorem mt_ {α β : Type} {f : α → β} {l : List α} : l.toArray.map f = (l.map f).toArray := List.map_toArray
theorem mc_ {α β : Type} {f : α → β} {a : α} {l : List α} : (a :: l).map f = f a :: l.map f := rfl
theorem mn_ {α β : Type} {f : α → β} : ([] : List α).map f = [] := rfl
abbrev zn_ := @blk_drewN
abbrev zd_ := @blk_drew
abbrev za_ := @blk_alloc
abbrev zf_ := @blk_frozen
abbrev zc_ := @blk_cell
abbrev zs_ := @below_set
abbrev zr_ := @blk_far
abbrev zp_ := @blk_put
abbrev pd_ := @pw_below_drewN
abbrev p1_ := @below_drew1
abbrev pa_ := @below_alloc
abbrev ak_ := @Aside0.mk
abbrev bl_ := @World.block_lt_of_cell?
abbrev ps_ := @below_step
def b_ (n k : Nat) : Array Bool := ((List.range n).map fun i => k.testBit i).toArray
theorem sa_ {α : Type} {l : List α} {i : Nat} {a : α} : l.toArray.setIfInBounds i a = (l.set i a).toArray := List.setIfInBounds_toArray l i a
theorem sz_ {α : Type} {a b : α} {l : List α} : (a :: l).set 0 b = b :: l := rfl
theorem ss_ {α : Type} {a b : α} {l : List α} {n : Nat} : (a :: l).set (n + 1) b = a :: l.set n b := rfl
end usufructref25_Ticks
open usufructref25_Ticks in
set_option maxHeartbeats 8000000 in
set_option maxRecDepth 100000 in
theorem usufructref25_Ticks.calls (k : Nat) (A0_0 : Option Addr) (c0_0 : Nat) (l0_0 : List (S28)) (A0_1 : Option Addr) (c0_1 : Nat) (l0_1 : List (S44)) (a0_2 : Int) (A1 : Option Addr) (c1 : Nat) (l1 : List (S51)) (r : Int) (w : World) (hr0_0 : Kd.C k28 w A0_0 l0_0.length l0_0) (hc0_0 : l0_0.length ≤ c0_0) (hr0_1 : Kd.C k44 w A0_1 l0_1.length l0_1) (hc0_1 : l0_1.length ≤ c0_1) (hr1 : Kd.C k51 w A1 l1.length l1) (hc1 : l1.length ≤ c1) (h : usufructref25_Ticks.f k l0_0 l0_1 a0_2 l1 = some r) :
    Calls Try.prog 18 #[.agg #[.slice A0_0 l0_0.length c0_0, .slice A0_1 l0_1.length c0_1, .int .i64 a0_2], .slice A1 l1.length c1] w fun e w' => e = .returned (.int .i64 r) ∧ Below w.heap.size w w' := by
  have hu25 := Try.underlying25
  have hu44 := Try.underlying44
  have hu28 := Try.underlying28
  have HR0_0 := ak_ hr0_0
  have HC0_0 := ak_ hc0_0
  clear hr0_0 hc0_0
  have HR0_1 := ak_ hr0_1
  have HC0_1 := ak_ hc0_1
  clear hr0_1 hc0_1
  have HR1 := ak_ hr1
  have HC1 := ak_ hc1
  clear hr1 hc1
  have HB := ak_ (Below.refl w.heap.size w)
  have H : (usufructref25_Ticks.l0 k l1 0 0 l0_0 l0_1 a0_2) = some r := h
  clear h
  have H' := ak_ H
  clear H
  go_enter Try.func18, Try.ntmps18
  go_wp2_with (first | ((with_reducible refine gate_dst (N := 2) rfl ?_); refine box_event ?hg (N := 2) ?hd (cs := #[.slice A0_0 l0_0.length c0_0, .slice A0_1 l0_1.length c0_1, .int .i64 a0_2]) (t := 25) ?hr ?_; (case hd => rfl); (case hg => rfl); (case hr => first | (go_simp; done) | (go_simp; rfl)); intro gb152 hg w3 hbox hb; have n0_ := ak_ (ps_ (by repeat (first | (with_reducible first | exact HB.out | apply pa_ | apply pd_ | apply p1_) | exact HB.out)) hb); have n1_ := ak_ (hbox); have n2_ := ak_ ((by rw [hg]; exact (below_size (by repeat (first | (with_reducible first | exact HB.out | apply pa_ | apply pd_ | apply p1_) | exact HB.out))) : w.heap.size ≤ gb152)); have n3_ := ak_ ((by rw [hg]; exact (below_size (by repeat (first | (with_reducible first | exact HB.out | apply pa_ | apply pd_ | apply p1_) | exact HB.out))) : w.heap.size ≤ gb152)); clear HB; have HB := n0_; have BK152 := n1_; have GW152 := n2_; have GE152 := n3_; clear n0_ n1_ n2_ n3_; clear hb hbox hg))
  go_loopg [5, 6] k (fun kq v5 v6 w' => ∃ (x5_1 : Int) (x6_1 : Int), v5 = .int .i64 x5_1 ∧ v6 = .int .i64 x6_1 ∧ Aside0 (usufructref25_Ticks.l0 kq l1 x5_1 x6_1 l0_0 l0_1 a0_2 = some r) ∧ Aside0 (kq ≤ k) ∧ Aside0 (w'.heap[gb152]? = some (.cells #[(.slice A0_0 l0_0.length c0_0), (.slice A0_1 l0_1.length c0_1), .int .i64 a0_2] 25 (0, 0))) ∧ Aside0 (Below w.heap.size w w'))
  case atStart => exact ⟨(0), (0), (by first | rfl | (simp; done) | (simp [*]; done)), (by first | rfl | (simp; done) | (simp [*]; done)), H', ⟨Nat.le_refl _⟩, ⟨by (with_reducible repeat (first | apply zn_ | apply zd_ | apply za_)); exact BK152.out⟩, ⟨by repeat (first | (with_reducible first | exact HB.out | apply pa_ | apply pd_ | apply p1_ | refine zs_ ?_ GE152.out) | exact HB.out)⟩⟩
  case round =>
    clear H'
    try clear c1
    try clear p2
    obtain ⟨x5_1, x6_1, rfl, rfl, HA, HK1, BK152, HB⟩ := hrel
    cases gk with
    | zero => exact absurd HA.out (by simp [usufructref25_Ticks.l0])
    | succ k1 =>
      have H := HA.out
      clear HA
      simp only [usufructref25_Ticks.l0] at H
      by_cases c4 : x6_1 < (l0_1.length : Int)
      · rw [if_pos c4] at H
        have c4b0 : decide (x6_1 < (l0_1.length : Int)) = true := decide_eq_true c4
        clear c4
        by_cases c5 : 0 ≤ x6_1
        · rw [if_pos c5] at H
          have c5b0 : decide (0 ≤ x6_1) = true := decide_eq_true c5
          clear c5
          replace H := Option.bind_eq_some_iff.mp H
          obtain ⟨t155, A60, H⟩ := H
          replace H : (if ((rd_T44 l0_1 x6_1).f3) = 0 then (usufructref25_Ticks.j1 k1 l1 x5_1 x6_1 t155 (decide (t155 ≥ 0)) l0_0 l0_1 a0_2) else (if ((rd_T44 l0_1 x6_1).f3) = 1 then (usufructref25_Ticks.j1 k1 l1 x5_1 x6_1 t155 (decide (t155 ≥ 0)) l0_0 l0_1 a0_2) else (usufructref25_Ticks.j1 k1 l1 x5_1 x6_1 t155 false l0_0 l0_1 a0_2))) = some r := H
          have A6 := ak_ A60
          clear A60
          have HC7 := ak_ H
          clear H
          have hcz8_0 : wr.cell? ⟨gb152, 0, none⟩ = some (.slice A0_0 l0_0.length c0_0) := (zc_ BK152.out 0).trans rfl
          have hcz8_1 : wr.cell? ⟨gb152, 1, none⟩ = some (.slice A0_1 l0_1.length c0_1) := (zc_ BK152.out 1).trans rfl
          have hcz8_2 : wr.cell? ⟨gb152, 2, none⟩ = some (.int .i64 a0_2) := (zc_ BK152.out 2).trans rfl
          have hfz8_0 := zf_ BK152.out 0
          have hfz8_1 := zf_ BK152.out 1
          have hfz8_2 := zf_ BK152.out 2
          have p153 : 0 ≤ (x6_1 : Int) := of_decide_eq_true (by assumption)
          have q153 : x6_1 < (l0_1.length : Int) := of_decide_eq_true (by assumption)
          obtain ⟨ad153, e153, hx153_0, hx153_1, hx153_2, hx153_3, hx153_4, hx153_5, hx153_6, hx153_7, hx153_8⟩ := at_T44 HR0_1.out x6_1 p153 q153
          cases e153
          replace hx153_0 := (HB.out.cell (bl_ w _ hx153_0)).trans hx153_0
          replace hx153_1 := (HB.out.cell (bl_ w _ hx153_1)).trans hx153_1
          replace hx153_2 := (HB.out.cell (bl_ w _ hx153_2)).trans hx153_2
          replace hx153_3 := (HB.out.cell (bl_ w _ hx153_3)).trans hx153_3
          replace hx153_4 := (HB.out.cell (bl_ w _ hx153_4)).trans hx153_4
          replace hx153_5 := (HB.out.cell (bl_ w _ hx153_5)).trans hx153_5
          replace hx153_6 := (HB.out.cell (bl_ w _ hx153_6)).trans hx153_6
          replace hx153_7 := (HB.out.cell (bl_ w _ hx153_7)).trans hx153_7
          replace hx153_8 := (HB.out.cell (bl_ w _ hx153_8)).trans hx153_8
          replace p153 := eq_true p153
          replace q153 := eq_true q153
          go_upto_region 7 with (first | ((with_reducible refine gate_dst (N := 7) rfl ?_); refine box_event ?hg (N := 7) ?hd (cs := #[.int .i64 0, .string ⟨#[]⟩, .int .i64 0, .int .i64 0, .int .i64 0, .int .i64 0, .bool false, .int .i64 0, .int .i64 0]) (t := 44) ?hr ?_; (case hd => rfl); (case hg => rfl); (case hr => first | (go_simp; done) | (go_simp; rfl)); intro gb154 hg w9 hbox hb; have n0_ := ak_ (blk_below (g := gb152) (o := .cells #[.slice A0_0 l0_0.length c0_0, .slice (some ad153) l0_1.length c0_1, .int .i64 a0_2] 25 (0, 0)) (by (with_reducible repeat (first | apply zn_ | apply zd_ | apply za_)); exact BK152.out) hb); have n1_ := ak_ (ps_ (by repeat (first | (with_reducible first | exact HB.out | apply pa_ | apply pd_ | apply p1_ | refine zs_ ?_ GE152.out) | exact HB.out)) hb); have n2_ := ak_ (hbox); have n3_ := ak_ ((by rw [hg]; exact (below_size (by repeat (first | (with_reducible first | exact HB.out | apply pa_ | apply pd_ | apply p1_ | refine zs_ ?_ GE152.out) | exact HB.out))) : w.heap.size ≤ gb154)); have n4_ := ak_ ((by rw [hg]; exact (below_size (by repeat (first | (with_reducible first | exact HB.out | apply pa_ | apply pd_ | apply p1_ | refine zs_ ?_ GE152.out) | exact HB.out))) : w.heap.size ≤ gb154)); have n5_ := ak_ ((by rw [hg]; exact Nat.ne_of_lt (blk_lt (g := gb152) (o := .cells #[.slice A0_0 l0_0.length c0_0, .slice (some ad153) l0_1.length c0_1, .int .i64 a0_2] 25 (0, 0)) (by (with_reducible repeat (first | apply zn_ | apply zd_ | apply za_)); exact BK152.out)) : gb152 ≠ gb154)); have n6_ := ak_ ((by rw [hg]; exact Nat.ne_of_gt (blk_lt (g := gb152) (o := .cells #[.slice A0_0 l0_0.length c0_0, .slice (some ad153) l0_1.length c0_1, .int .i64 a0_2] 25 (0, 0)) (by (with_reducible repeat (first | apply zn_ | apply zd_ | apply za_)); exact BK152.out)) : gb154 ≠ gb152)); clear BK152; clear HB; have BK152 := n0_; have HB := n1_; have BK154 := n2_; have GW154 := n3_; have GE154 := n4_; have NB152_154 := n5_; have NB154_152 := n6_; clear n0_ n1_ n2_ n3_ n4_ n5_ n6_; clear hb hbox hg; have hnb10 := NB154_152.out; have hnc10 := NB152_154.out; have hcz11_0 : w9.cell? ⟨gb154, 0, none⟩ = some (.int .i64 0) := (zc_ BK154.out 0).trans rfl; have hcz11_1 : w9.cell? ⟨gb154, 1, none⟩ = some (.string ⟨#[]⟩) := (zc_ BK154.out 1).trans rfl; have hcz11_2 : w9.cell? ⟨gb154, 2, none⟩ = some (.int .i64 0) := (zc_ BK154.out 2).trans rfl; have hcz11_3 : w9.cell? ⟨gb154, 3, none⟩ = some (.int .i64 0) := (zc_ BK154.out 3).trans rfl; have hcz11_4 : w9.cell? ⟨gb154, 4, none⟩ = some (.int .i64 0) := (zc_ BK154.out 4).trans rfl; have hcz11_5 : w9.cell? ⟨gb154, 5, none⟩ = some (.int .i64 0) := (zc_ BK154.out 5).trans rfl; have hcz11_6 : w9.cell? ⟨gb154, 6, none⟩ = some (.bool false) := (zc_ BK154.out 6).trans rfl; have hcz11_7 : w9.cell? ⟨gb154, 7, none⟩ = some (.int .i64 0) := (zc_ BK154.out 7).trans rfl; have hcz11_8 : w9.cell? ⟨gb154, 8, none⟩ = some (.int .i64 0) := (zc_ BK154.out 8).trans rfl; have hfz11_0 := zf_ BK154.out 0; have hfz11_1 := zf_ BK154.out 1; have hfz11_2 := zf_ BK154.out 2; have hfz11_3 := zf_ BK154.out 3; have hfz11_4 := zf_ BK154.out 4; have hfz11_5 := zf_ BK154.out 5; have hfz11_6 := zf_ BK154.out 6; have hfz11_7 := zf_ BK154.out 7; have hfz11_8 := zf_ BK154.out 8; have hcz12_0 : w9.cell? ⟨gb152, 0, none⟩ = some (.slice A0_0 l0_0.length c0_0) := (zc_ BK152.out 0).trans rfl; have hcz12_1 : w9.cell? ⟨gb152, 1, none⟩ = some (.slice (some ad153) l0_1.length c0_1) := (zc_ BK152.out 1).trans rfl; have hcz12_2 : w9.cell? ⟨gb152, 2, none⟩ = some (.int .i64 a0_2) := (zc_ BK152.out 2).trans rfl; have hfz12_0 := zf_ BK152.out 0; have hfz12_1 := zf_ BK152.out 1; have hfz12_2 := zf_ BK152.out 2) | ((with_reducible refine gate_callee (f := 32) rfl ?_); refine goesL_ (some 24) rfl rfl Try.func32 (by kernel_rfl) rfl #[.agg #[.slice A0_0 l0_0.length c0_0, .slice (some ad153) l0_1.length c0_1, .int .i64 a0_2], .string ((rd_T44 l0_1 x6_1).f1)] rfl (by (try simp only [List.map_toArray, List.map_cons, List.map_nil]); first | done | rfl | (simp only [List.length_drop, List.length_take]; rfl)) ?_; (with_reducible refine (usufructref16_Def.calls k1 _ _ l0_0 _ _ l0_1 a0_2 ((rd_T44 l0_1 x6_1).f1) t155 _ ?side1 ?side2 ?side3 ?side4 A6.out).mono ?_); (case side1 => exact Kd.C_below HR0_0.out (by repeat (first | (with_reducible first | exact HB.out | apply pa_ | apply pd_ | apply p1_ | refine zs_ ?_ GE152.out | refine zs_ ?_ GE154.out) | exact HB.out))); (case side2 => exact HC0_0.out); (case side3 => exact Kd.C_below HR0_1.out (by repeat (first | (with_reducible first | exact HB.out | apply pa_ | apply pd_ | apply p1_ | refine zs_ ?_ GE152.out | refine zs_ ?_ GE154.out) | exact HB.out))); (case side4 => exact HC0_1.out); rintro e w13 ⟨rfl, hb⟩; refine ⟨_, rfl, ?_⟩; have n0_ := ak_ (blk_below (g := gb152) (o := .cells #[.slice A0_0 l0_0.length c0_0, .slice (some ad153) l0_1.length c0_1, .int .i64 a0_2] 25 (0, 0)) (by (repeat (first | (with_reducible first | apply zn_ | apply zd_ | apply za_) | refine zr_ ?_ NB152_154.out _)); (with_reducible repeat (first | apply zn_ | apply zd_ | apply za_)); exact BK152.out) hb); have n1_ := ak_ (blk_below (g := gb154) (o := .cells #[.int .i64 ((rd_T44 l0_1 x6_1).f0), .string ((rd_T44 l0_1 x6_1).f1), .int .i64 ((rd_T44 l0_1 x6_1).f2), .int .i64 ((rd_T44 l0_1 x6_1).f3), .int .i64 ((rd_T44 l0_1 x6_1).f4), .int .i64 ((rd_T44 l0_1 x6_1).f5), .bool ((rd_T44 l0_1 x6_1).f6), .int .i64 ((rd_T44 l0_1 x6_1).f7), .int .i64 ((rd_T44 l0_1 x6_1).f8)] 44 (0, 0)) (by (with_reducible repeat (first | apply zn_ | apply zd_ | apply za_)); refine zp_ (cs := #[.int .i64 ((rd_T44 l0_1 x6_1).f0), .string ((rd_T44 l0_1 x6_1).f1), .int .i64 ((rd_T44 l0_1 x6_1).f2), .int .i64 ((rd_T44 l0_1 x6_1).f3), .int .i64 ((rd_T44 l0_1 x6_1).f4), .int .i64 ((rd_T44 l0_1 x6_1).f5), .bool ((rd_T44 l0_1 x6_1).f6), .int .i64 ((rd_T44 l0_1 x6_1).f7), .int .i64 0]) ?_ 8 _ rfl; (with_reducible repeat (first | apply zn_ | apply zd_ | apply za_)); refine zp_ (cs := #[.int .i64 ((rd_T44 l0_1 x6_1).f0), .string ((rd_T44 l0_1 x6_1).f1), .int .i64 ((rd_T44 l0_1 x6_1).f2), .int .i64 ((rd_T44 l0_1 x6_1).f3), .int .i64 ((rd_T44 l0_1 x6_1).f4), .int .i64 ((rd_T44 l0_1 x6_1).f5), .bool ((rd_T44 l0_1 x6_1).f6), .int .i64 0, .int .i64 0]) ?_ 7 _ rfl; (with_reducible repeat (first | apply zn_ | apply zd_ | apply za_)); refine zp_ (cs := #[.int .i64 ((rd_T44 l0_1 x6_1).f0), .string ((rd_T44 l0_1 x6_1).f1), .int .i64 ((rd_T44 l0_1 x6_1).f2), .int .i64 ((rd_T44 l0_1 x6_1).f3), .int .i64 ((rd_T44 l0_1 x6_1).f4), .int .i64 ((rd_T44 l0_1 x6_1).f5), .bool false, .int .i64 0, .int .i64 0]) ?_ 6 _ rfl; (with_reducible repeat (first | apply zn_ | apply zd_ | apply za_)); refine zp_ (cs := #[.int .i64 ((rd_T44 l0_1 x6_1).f0), .string ((rd_T44 l0_1 x6_1).f1), .int .i64 ((rd_T44 l0_1 x6_1).f2), .int .i64 ((rd_T44 l0_1 x6_1).f3), .int .i64 ((rd_T44 l0_1 x6_1).f4), .int .i64 0, .bool false, .int .i64 0, .int .i64 0]) ?_ 5 _ rfl; (with_reducible repeat (first | apply zn_ | apply zd_ | apply za_)); refine zp_ (cs := #[.int .i64 ((rd_T44 l0_1 x6_1).f0), .string ((rd_T44 l0_1 x6_1).f1), .int .i64 ((rd_T44 l0_1 x6_1).f2), .int .i64 ((rd_T44 l0_1 x6_1).f3), .int .i64 0, .int .i64 0, .bool false, .int .i64 0, .int .i64 0]) ?_ 4 _ rfl; (with_reducible repeat (first | apply zn_ | apply zd_ | apply za_)); refine zp_ (cs := #[.int .i64 ((rd_T44 l0_1 x6_1).f0), .string ((rd_T44 l0_1 x6_1).f1), .int .i64 ((rd_T44 l0_1 x6_1).f2), .int .i64 0, .int .i64 0, .int .i64 0, .bool false, .int .i64 0, .int .i64 0]) ?_ 3 _ rfl; (with_reducible repeat (first | apply zn_ | apply zd_ | apply za_)); refine zp_ (cs := #[.int .i64 ((rd_T44 l0_1 x6_1).f0), .string ((rd_T44 l0_1 x6_1).f1), .int .i64 0, .int .i64 0, .int .i64 0, .int .i64 0, .bool false, .int .i64 0, .int .i64 0]) ?_ 2 _ rfl; (with_reducible repeat (first | apply zn_ | apply zd_ | apply za_)); refine zp_ (cs := #[.int .i64 ((rd_T44 l0_1 x6_1).f0), .string ⟨#[]⟩, .int .i64 0, .int .i64 0, .int .i64 0, .int .i64 0, .bool false, .int .i64 0, .int .i64 0]) ?_ 1 _ rfl; (with_reducible repeat (first | apply zn_ | apply zd_ | apply za_)); refine zp_ (cs := #[.int .i64 0, .string ⟨#[]⟩, .int .i64 0, .int .i64 0, .int .i64 0, .int .i64 0, .bool false, .int .i64 0, .int .i64 0]) ?_ 0 _ rfl; (with_reducible repeat (first | apply zn_ | apply zd_ | apply za_)); exact BK154.out) hb); have n2_ := ak_ (ps_ (by repeat (first | (with_reducible first | exact HB.out | apply pa_ | apply pd_ | apply p1_ | refine zs_ ?_ GE152.out | refine zs_ ?_ GE154.out) | exact HB.out)) hb); clear BK152; clear BK154; clear HB; have BK152 := n0_; have BK154 := n1_; have HB := n2_; clear n0_ n1_ n2_; (try clear hb hk hi)))
          (try simp only [Act.put, sa_, sz_, ss_])
          go_cut [36] (fun v36 wc => ∃ (kq : Nat) (x36_6 : Bool), v36 = .bool x36_6 ∧ Aside0 (usufructref25_Ticks.j1 kq l1 x5_1 x6_1 t155 x36_6 l0_0 l0_1 a0_2 = some r) ∧ Aside0 (kq ≤ k1) ∧ Aside0 (wc.heap[gb152]? = some (.cells #[(.slice A0_0 l0_0.length c0_0), (.slice (some ad153) l0_1.length c0_1), .int .i64 a0_2] 25 (0, 0))) ∧ Aside0 (wc.heap[gb154]? = some (.cells #[.int .i64 ((rd_T44 l0_1 x6_1).f0), .string ((rd_T44 l0_1 x6_1).f1), .int .i64 ((rd_T44 l0_1 x6_1).f2), .int .i64 ((rd_T44 l0_1 x6_1).f3), .int .i64 ((rd_T44 l0_1 x6_1).f4), .int .i64 ((rd_T44 l0_1 x6_1).f5), .bool ((rd_T44 l0_1 x6_1).f6), .int .i64 ((rd_T44 l0_1 x6_1).f7), .int .i64 ((rd_T44 l0_1 x6_1).f8)] 44 (0, 0))) ∧ Aside0 (Below w.heap.size w wc))
          case first =>
            have H := HC7.out
            clear HC7
            by_cases c14 : ((rd_T44 l0_1 x6_1).f3) = 0
            · rw [if_pos c14] at H
              have c14b0 : (((rd_T44 l0_1 x6_1).f3) == 0) = true := beq_iff_eq.mpr c14
              have c14b1 : (((rd_T44 l0_1 x6_1).f3) != 0) = false := bne_eq_false_iff_eq.mpr c14
              clear c14
              (first | rw [c14b0] | (simp only [i64_w, i32_w]; rw [c14b0]) | skip)
              have H' := ak_ H
              clear H
              have hnb15 := NB154_152.out
              have hnc15 := NB152_154.out
              have hcz16_0 : w13.cell? ⟨gb154, 0, none⟩ = some (.int .i64 ((rd_T44 l0_1 x6_1).f0)) := (zc_ BK154.out 0).trans rfl
              have hcz16_1 : w13.cell? ⟨gb154, 1, none⟩ = some (.string ((rd_T44 l0_1 x6_1).f1)) := (zc_ BK154.out 1).trans rfl
              have hcz16_2 : w13.cell? ⟨gb154, 2, none⟩ = some (.int .i64 ((rd_T44 l0_1 x6_1).f2)) := (zc_ BK154.out 2).trans rfl
              have hcz16_3 : w13.cell? ⟨gb154, 3, none⟩ = some (.int .i64 ((rd_T44 l0_1 x6_1).f3)) := (zc_ BK154.out 3).trans rfl
              have hcz16_4 : w13.cell? ⟨gb154, 4, none⟩ = some (.int .i64 ((rd_T44 l0_1 x6_1).f4)) := (zc_ BK154.out 4).trans rfl
              have hcz16_5 : w13.cell? ⟨gb154, 5, none⟩ = some (.int .i64 ((rd_T44 l0_1 x6_1).f5)) := (zc_ BK154.out 5).trans rfl
              have hcz16_6 : w13.cell? ⟨gb154, 6, none⟩ = some (.bool ((rd_T44 l0_1 x6_1).f6)) := (zc_ BK154.out 6).trans rfl
              have hcz16_7 : w13.cell? ⟨gb154, 7, none⟩ = some (.int .i64 ((rd_T44 l0_1 x6_1).f7)) := (zc_ BK154.out 7).trans rfl
              have hcz16_8 : w13.cell? ⟨gb154, 8, none⟩ = some (.int .i64 ((rd_T44 l0_1 x6_1).f8)) := (zc_ BK154.out 8).trans rfl
              have hfz16_0 := zf_ BK154.out 0
              have hfz16_1 := zf_ BK154.out 1
              have hfz16_2 := zf_ BK154.out 2
              have hfz16_3 := zf_ BK154.out 3
              have hfz16_4 := zf_ BK154.out 4
              have hfz16_5 := zf_ BK154.out 5
              have hfz16_6 := zf_ BK154.out 6
              have hfz16_7 := zf_ BK154.out 7
              have hfz16_8 := zf_ BK154.out 8
              go_wp2
              go_meet
              case rel => exact ⟨_, (decide (t155 ≥ 0)), (by first | rfl | (simp; done) | (simp [*]; done)), H', ⟨by have := HK1.out; first | omega | exact Nat.le_refl _⟩, ⟨by (with_reducible repeat (first | apply zn_ | apply zd_ | apply za_)); exact BK152.out⟩, ⟨by (with_reducible repeat (first | apply zn_ | apply zd_ | apply za_)); exact BK154.out⟩, ⟨by repeat (first | (with_reducible first | exact HB.out | apply pa_ | apply pd_ | apply p1_ | refine zs_ ?_ GE152.out | refine zs_ ?_ GE154.out) | exact HB.out)⟩⟩
            rw [if_neg c14] at H
            have c14b0 : (((rd_T44 l0_1 x6_1).f3) == 0) = false := beq_eq_false_iff_ne.mpr c14
            have c14b1 : (((rd_T44 l0_1 x6_1).f3) != 0) = true := bne_iff_ne.mpr c14
            (first | rw [c14b0] | (simp only [i64_w, i32_w]; rw [c14b0]) | skip)
            by_cases c17 : ((rd_T44 l0_1 x6_1).f3) = 1
            · rw [if_pos c17] at H
              have c17b0 : (((rd_T44 l0_1 x6_1).f3) == 1) = true := beq_iff_eq.mpr c17
              have c17b1 : (((rd_T44 l0_1 x6_1).f3) != 1) = false := bne_eq_false_iff_eq.mpr c17
              clear c17
              have H' := ak_ H
              clear H
              have hnb18 := NB154_152.out
              have hnc18 := NB152_154.out
              have hcz19_0 : w13.cell? ⟨gb154, 0, none⟩ = some (.int .i64 ((rd_T44 l0_1 x6_1).f0)) := (zc_ BK154.out 0).trans rfl
              have hcz19_1 : w13.cell? ⟨gb154, 1, none⟩ = some (.string ((rd_T44 l0_1 x6_1).f1)) := (zc_ BK154.out 1).trans rfl
              have hcz19_2 : w13.cell? ⟨gb154, 2, none⟩ = some (.int .i64 ((rd_T44 l0_1 x6_1).f2)) := (zc_ BK154.out 2).trans rfl
              have hcz19_3 : w13.cell? ⟨gb154, 3, none⟩ = some (.int .i64 ((rd_T44 l0_1 x6_1).f3)) := (zc_ BK154.out 3).trans rfl
              have hcz19_4 : w13.cell? ⟨gb154, 4, none⟩ = some (.int .i64 ((rd_T44 l0_1 x6_1).f4)) := (zc_ BK154.out 4).trans rfl
              have hcz19_5 : w13.cell? ⟨gb154, 5, none⟩ = some (.int .i64 ((rd_T44 l0_1 x6_1).f5)) := (zc_ BK154.out 5).trans rfl
              have hcz19_6 : w13.cell? ⟨gb154, 6, none⟩ = some (.bool ((rd_T44 l0_1 x6_1).f6)) := (zc_ BK154.out 6).trans rfl
              have hcz19_7 : w13.cell? ⟨gb154, 7, none⟩ = some (.int .i64 ((rd_T44 l0_1 x6_1).f7)) := (zc_ BK154.out 7).trans rfl
              have hcz19_8 : w13.cell? ⟨gb154, 8, none⟩ = some (.int .i64 ((rd_T44 l0_1 x6_1).f8)) := (zc_ BK154.out 8).trans rfl
              have hfz19_0 := zf_ BK154.out 0
              have hfz19_1 := zf_ BK154.out 1
              have hfz19_2 := zf_ BK154.out 2
              have hfz19_3 := zf_ BK154.out 3
              have hfz19_4 := zf_ BK154.out 4
              have hfz19_5 := zf_ BK154.out 5
              have hfz19_6 := zf_ BK154.out 6
              have hfz19_7 := zf_ BK154.out 7
              have hfz19_8 := zf_ BK154.out 8
              go_wp2
              go_meet
              case rel => exact ⟨_, (decide (t155 ≥ 0)), (by first | rfl | (simp; done) | (simp [*]; done)), H', ⟨by have := HK1.out; first | omega | exact Nat.le_refl _⟩, ⟨by (with_reducible repeat (first | apply zn_ | apply zd_ | apply za_)); exact BK152.out⟩, ⟨by (with_reducible repeat (first | apply zn_ | apply zd_ | apply za_)); exact BK154.out⟩, ⟨by repeat (first | (with_reducible first | exact HB.out | apply pa_ | apply pd_ | apply p1_ | refine zs_ ?_ GE152.out | refine zs_ ?_ GE154.out) | exact HB.out)⟩⟩
            rw [if_neg c17] at H
            have c17b0 : (((rd_T44 l0_1 x6_1).f3) == 1) = false := beq_eq_false_iff_ne.mpr c17
            have c17b1 : (((rd_T44 l0_1 x6_1).f3) != 1) = true := bne_iff_ne.mpr c17
            have H' := ak_ H
            clear H
            have hnb20 := NB154_152.out
            have hnc20 := NB152_154.out
            have hcz21_0 : w13.cell? ⟨gb154, 0, none⟩ = some (.int .i64 ((rd_T44 l0_1 x6_1).f0)) := (zc_ BK154.out 0).trans rfl
            have hcz21_1 : w13.cell? ⟨gb154, 1, none⟩ = some (.string ((rd_T44 l0_1 x6_1).f1)) := (zc_ BK154.out 1).trans rfl
            have hcz21_2 : w13.cell? ⟨gb154, 2, none⟩ = some (.int .i64 ((rd_T44 l0_1 x6_1).f2)) := (zc_ BK154.out 2).trans rfl
            have hcz21_3 : w13.cell? ⟨gb154, 3, none⟩ = some (.int .i64 ((rd_T44 l0_1 x6_1).f3)) := (zc_ BK154.out 3).trans rfl
            have hcz21_4 : w13.cell? ⟨gb154, 4, none⟩ = some (.int .i64 ((rd_T44 l0_1 x6_1).f4)) := (zc_ BK154.out 4).trans rfl
            have hcz21_5 : w13.cell? ⟨gb154, 5, none⟩ = some (.int .i64 ((rd_T44 l0_1 x6_1).f5)) := (zc_ BK154.out 5).trans rfl
            have hcz21_6 : w13.cell? ⟨gb154, 6, none⟩ = some (.bool ((rd_T44 l0_1 x6_1).f6)) := (zc_ BK154.out 6).trans rfl
            have hcz21_7 : w13.cell? ⟨gb154, 7, none⟩ = some (.int .i64 ((rd_T44 l0_1 x6_1).f7)) := (zc_ BK154.out 7).trans rfl
            have hcz21_8 : w13.cell? ⟨gb154, 8, none⟩ = some (.int .i64 ((rd_T44 l0_1 x6_1).f8)) := (zc_ BK154.out 8).trans rfl
            have hfz21_0 := zf_ BK154.out 0
            have hfz21_1 := zf_ BK154.out 1
            have hfz21_2 := zf_ BK154.out 2
            have hfz21_3 := zf_ BK154.out 3
            have hfz21_4 := zf_ BK154.out 4
            have hfz21_5 := zf_ BK154.out 5
            have hfz21_6 := zf_ BK154.out 6
            have hfz21_7 := zf_ BK154.out 7
            have hfz21_8 := zf_ BK154.out 8
            go_wp2
            go_meet
            case rel => exact ⟨_, (false), (by first | rfl | (simp; done) | (simp [*]; done)), H', ⟨by have := HK1.out; first | omega | exact Nat.le_refl _⟩, ⟨by (with_reducible repeat (first | apply zn_ | apply zd_ | apply za_)); exact BK152.out⟩, ⟨by (with_reducible repeat (first | apply zn_ | apply zd_ | apply za_)); exact BK154.out⟩, ⟨by repeat (first | (with_reducible first | exact HB.out | apply pa_ | apply pd_ | apply p1_ | refine zs_ ?_ GE152.out | refine zs_ ?_ GE154.out) | exact HB.out)⟩⟩
          case rest =>
            clear HC7
            try clear c1
            try clear p1
            try clear q1
            try clear hx1
            try clear c2
            try clear p2
            try clear c3
            try clear c4
            try clear c4b0
            try clear c5
            try clear c5b0
            try clear c10
            try clear c14
            try clear c14b0
            try clear c14b1
            try clear c15
            try clear p15
            try clear q15
            try clear hx15
            try clear c17
            try clear c17b0
            try clear c17b1
            try clear c18
            try clear c20
            try clear hcz11_0
            try clear hcz11_1
            try clear hcz11_2
            try clear hcz11_3
            try clear hcz11_4
            try clear hcz11_5
            try clear hcz11_6
            try clear hcz11_7
            try clear hcz11_8
            try clear hcz12_0
            try clear hcz12_1
            try clear hcz12_2
            try clear hcz16_0
            try clear hcz16_1
            try clear hcz16_2
            try clear hcz16_3
            try clear hcz16_4
            try clear hcz16_5
            try clear hcz16_6
            try clear hcz16_7
            try clear hcz16_8
            try clear hcz19_0
            try clear hcz19_1
            try clear hcz19_2
            try clear hcz19_3
            try clear hcz19_4
            try clear hcz19_5
            try clear hcz19_6
            try clear hcz19_7
            try clear hcz19_8
            try clear hcz21_0
            try clear hcz21_1
            try clear hcz21_2
            try clear hcz21_3
            try clear hcz21_4
            try clear hcz21_5
            try clear hcz21_6
            try clear hcz21_7
            try clear hcz21_8
            try clear hcz8_0
            try clear hcz8_1
            try clear hcz8_2
            try clear hfz11_0
            try clear hfz11_1
            try clear hfz11_2
            try clear hfz11_3
            try clear hfz11_4
            try clear hfz11_5
            try clear hfz11_6
            try clear hfz11_7
            try clear hfz11_8
            try clear hfz12_0
            try clear hfz12_1
            try clear hfz12_2
            try clear hfz16_0
            try clear hfz16_1
            try clear hfz16_2
            try clear hfz16_3
            try clear hfz16_4
            try clear hfz16_5
            try clear hfz16_6
            try clear hfz16_7
            try clear hfz16_8
            try clear hfz19_0
            try clear hfz19_1
            try clear hfz19_2
            try clear hfz19_3
            try clear hfz19_4
            try clear hfz19_5
            try clear hfz19_6
            try clear hfz19_7
            try clear hfz19_8
            try clear hfz21_0
            try clear hfz21_1
            try clear hfz21_2
            try clear hfz21_3
            try clear hfz21_4
            try clear hfz21_5
            try clear hfz21_6
            try clear hfz21_7
            try clear hfz21_8
            try clear hfz8_0
            try clear hfz8_1
            try clear hfz8_2
            try clear hx153_0
            try clear hx153_1
            try clear hx153_2
            try clear hx153_3
            try clear hx153_4
            try clear hx153_5
            try clear hx153_6
            try clear hx153_7
            try clear hx153_8
            try clear p153
            try clear p2
            try clear q153
            obtain ⟨kq, x36_6, rfl, HA, HJ6, BK152, BK154, HB⟩ := hcut
            cases kq with
            | zero => exact absurd HA.out (by simp [usufructref25_Ticks.j1])
            | succ kj6 =>
              have H := HA.out
              clear HA
              simp only [usufructref25_Ticks.j1] at H
              by_cases c22 : x36_6 = true
              · subst c22
                have H1 : (if 0 ≤ t155 then (if t155 < (l0_0.length : Int) then ((usufructref25_Emissions.f kj6 ((rd_T28 l0_0 t155).f0) ((rd_T28 l0_0 t155).f1) ((rd_T28 l0_0 t155).f2)).bind fun t157 => ((usufructref01_Add.f x5_1 t157).bind fun t158 => (usufructref25_Ticks.l0 kj6 l1 t158 (wrap64 (x6_1 + 1)) l0_0 l0_1 a0_2))) else (none)) else (none)) = some r := by rw [if_pos rfl] at H; exact H
                clear H
                have H := H1
                clear H1
                by_cases c23 : 0 ≤ t155
                · rw [if_pos c23] at H
                  have c23b0 : decide (0 ≤ t155) = true := decide_eq_true c23
                  clear c23
                  by_cases c24 : t155 < (l0_0.length : Int)
                  · rw [if_pos c24] at H
                    have c24b0 : decide (t155 < (l0_0.length : Int)) = true := decide_eq_true c24
                    clear c24
                    replace H := Option.bind_eq_some_iff.mp H
                    obtain ⟨t157, A250, H⟩ := H
                    replace H : ((usufructref01_Add.f x5_1 t157).bind fun t158 => (usufructref25_Ticks.l0 kj6 l1 t158 (wrap64 (x6_1 + 1)) l0_0 l0_1 a0_2)) = some r := H
                    have A25 := ak_ A250
                    clear A250
                    replace H := Option.bind_eq_some_iff.mp H
                    obtain ⟨t158, A260, H⟩ := H
                    replace H : (usufructref25_Ticks.l0 kj6 l1 t158 (wrap64 (x6_1 + 1)) l0_0 l0_1 a0_2) = some r := H
                    have A26 := ak_ A260
                    clear A260
                    have H' := ak_ H
                    clear H
                    have hnb27 := NB152_154.out
                    have hnc27 := NB154_152.out
                    have hcz28_0 : wc.cell? ⟨gb152, 0, none⟩ = some (.slice A0_0 l0_0.length c0_0) := (zc_ BK152.out 0).trans rfl
                    have hcz28_1 : wc.cell? ⟨gb152, 1, none⟩ = some (.slice (some ad153) l0_1.length c0_1) := (zc_ BK152.out 1).trans rfl
                    have hcz28_2 : wc.cell? ⟨gb152, 2, none⟩ = some (.int .i64 a0_2) := (zc_ BK152.out 2).trans rfl
                    have hfz28_0 := zf_ BK152.out 0
                    have hfz28_1 := zf_ BK152.out 1
                    have hfz28_2 := zf_ BK152.out 2
                    have p156 : 0 ≤ (t155 : Int) := of_decide_eq_true (by assumption)
                    have q156 : t155 < (l0_0.length : Int) := of_decide_eq_true (by assumption)
                    obtain ⟨ad156, A156_2, c156_2, e156, hx156_0, hx156_1, hx156_2, hl156_2, hi156_2⟩ := at_T28 HR0_0.out t155 p156 q156
                    cases e156
                    replace hx156_0 := (HB.out.cell (bl_ w _ hx156_0)).trans hx156_0
                    replace hx156_1 := (HB.out.cell (bl_ w _ hx156_1)).trans hx156_1
                    replace hx156_2 := (HB.out.cell (bl_ w _ hx156_2)).trans hx156_2
                    have HR156_2 := ak_ hi156_2
                    have HC156_2 := ak_ hl156_2
                    clear hi156_2 hl156_2
                    replace p156 := eq_true p156
                    replace q156 := eq_true q156
                    go_wp2_with (first | ((with_reducible refine gate_callee (f := 11) rfl ?_); refine goesL_ (some 43) rfl rfl Try.func11 (by kernel_rfl) rfl #[.agg #[.string ((rd_T28 l0_0 t155).f0), .int .i64 ((rd_T28 l0_0 t155).f1), .slice A156_2 ((rd_T28 l0_0 t155).f2).length c156_2]] rfl (by (try simp only [List.map_toArray, List.map_cons, List.map_nil]); first | done | rfl | (simp only [List.length_drop, List.length_take]; rfl)) ?_; (with_reducible refine (usufructref25_Emissions.calls kj6 ((rd_T28 l0_0 t155).f0) ((rd_T28 l0_0 t155).f1) _ _ ((rd_T28 l0_0 t155).f2) t157 _ ?side1 ?side2 A25.out).mono ?_); (case side1 => repeat (first | exact (Kd.C_below HR156_2.out HB.out) | (with_reducible refine Kd.C_alloc ?_ _) | (with_reducible refine Kd.C_drewN ?_ _) | (with_reducible refine Kd.C_drew ?_))); (case side2 => exact HC156_2.out); rintro e w29 ⟨rfl, hb⟩; refine ⟨_, rfl, ?_⟩; have n0_ := ak_ (blk_below (g := gb152) (o := .cells #[.slice (some ad156) l0_0.length c0_0, .slice (some ad153) l0_1.length c0_1, .int .i64 a0_2] 25 (0, 0)) (by (with_reducible repeat (first | apply zn_ | apply zd_ | apply za_)); exact BK152.out) hb); have n1_ := ak_ (blk_below (g := gb154) (o := .cells #[.int .i64 ((rd_T44 l0_1 x6_1).f0), .string ((rd_T44 l0_1 x6_1).f1), .int .i64 ((rd_T44 l0_1 x6_1).f2), .int .i64 ((rd_T44 l0_1 x6_1).f3), .int .i64 ((rd_T44 l0_1 x6_1).f4), .int .i64 ((rd_T44 l0_1 x6_1).f5), .bool ((rd_T44 l0_1 x6_1).f6), .int .i64 ((rd_T44 l0_1 x6_1).f7), .int .i64 ((rd_T44 l0_1 x6_1).f8)] 44 (0, 0)) (by (with_reducible repeat (first | apply zn_ | apply zd_ | apply za_)); exact BK154.out) hb); have n2_ := ak_ (ps_ (by repeat (first | (with_reducible first | exact HB.out | apply pa_ | apply pd_ | apply p1_ | refine zs_ ?_ GE152.out | refine zs_ ?_ GE154.out) | exact HB.out)) hb); clear BK152; clear BK154; clear HB; have BK152 := n0_; have BK154 := n1_; have HB := n2_; clear n0_ n1_ n2_; (try clear hb hk hi)) | ((with_reducible refine gate_callee (f := 21) rfl ?_); refine goesL_ (some 44) rfl rfl Try.func21 (by kernel_rfl) rfl #[.int .i64 x5_1, .int .i64 t157] rfl (by simp only [mt_, mc_, mn_] <;> rfl) ?_; (with_reducible refine (usufructref01_Add.calls x5_1 t157 t158 _ A26.out).mono ?_); rintro e w' ⟨rfl, ⟨nd, rfl⟩⟩; refine ⟨_, rfl, ?_⟩))
                    go_roundg kj6
                    case measure => have := HK1.out; have := HJ6.out; omega
                    case rel => exact ⟨(t158), (wrap64 (x6_1 + 1)), (by first | rfl | (simp; done) | (simp [*]; done)), (by first | rfl | (simp; done) | (simp [*]; done)), H', ⟨by have := HK1.out; have := HJ6.out; omega⟩, ⟨by (with_reducible repeat (first | apply zn_ | apply zd_ | apply za_)); exact BK152.out⟩, ⟨by repeat (first | (with_reducible first | exact HB.out | apply pa_ | apply pd_ | apply p1_ | refine zs_ ?_ GE152.out | refine zs_ ?_ GE154.out) | exact HB.out)⟩⟩
                  rw [if_neg c24] at H
                  exact absurd H (by simp)
                rw [if_neg c23] at H
                exact absurd H (by simp)
              replace c22 := Bool.eq_false_iff.mpr c22
              subst c22
              have H1 : (usufructref25_Ticks.l0 kj6 l1 x5_1 (wrap64 (x6_1 + 1)) l0_0 l0_1 a0_2) = some r := by rw [if_neg (show ¬ (false = true) by decide)] at H; exact H
              clear H
              have H := H1
              clear H1
              have H' := ak_ H
              clear H
              go_wp2
              go_roundg kj6
              case measure => have := HK1.out; have := HJ6.out; omega
              case rel => exact ⟨(x5_1), (wrap64 (x6_1 + 1)), (by first | rfl | (simp; done) | (simp [*]; done)), (by first | rfl | (simp; done) | (simp [*]; done)), H', ⟨by have := HK1.out; have := HJ6.out; omega⟩, ⟨by (with_reducible repeat (first | apply zn_ | apply zd_ | apply za_)); exact BK152.out⟩, ⟨by repeat (first | (with_reducible first | exact HB.out | apply pa_ | apply pd_ | apply p1_ | refine zs_ ?_ GE152.out | refine zs_ ?_ GE154.out) | exact HB.out)⟩⟩
        rw [if_neg c5] at H
        exact absurd H (by simp)
      rw [if_neg c4] at H
      have c4b0 : decide (x6_1 < (l0_1.length : Int)) = false := decide_eq_false c4
      clear c4
      replace H := Option.bind_eq_some_iff.mp H
      obtain ⟨t159, A300, H⟩ := H
      replace H : ((usufructref25_Longest.f k1 l0_0 l1).bind fun t160 => ((usufructref25_All.f k1 x5_1 t159 t160).bind fun t161 => (some t161))) = some r := H
      have A30 := ak_ A300
      clear A300
      replace H := Option.bind_eq_some_iff.mp H
      obtain ⟨t160, A310, H⟩ := H
      replace H : ((usufructref25_All.f k1 x5_1 t159 t160).bind fun t161 => (some t161)) = some r := H
      have A31 := ak_ A310
      clear A310
      replace H := Option.bind_eq_some_iff.mp H
      obtain ⟨t161, A320, H⟩ := H
      replace H : (some t161) = some r := H
      have A32 := ak_ A320
      clear A320
      obtain rfl := Option.some.inj H
      have hcz33_0 : wr.cell? ⟨gb152, 0, none⟩ = some (.slice A0_0 l0_0.length c0_0) := (zc_ BK152.out 0).trans rfl
      have hcz33_1 : wr.cell? ⟨gb152, 1, none⟩ = some (.slice A0_1 l0_1.length c0_1) := (zc_ BK152.out 1).trans rfl
      have hcz33_2 : wr.cell? ⟨gb152, 2, none⟩ = some (.int .i64 a0_2) := (zc_ BK152.out 2).trans rfl
      have hfz33_0 := zf_ BK152.out 0
      have hfz33_1 := zf_ BK152.out 1
      have hfz33_2 := zf_ BK152.out 2
      try go_wp2
      have n0_ := ak_ (zd_ BK152.out)
      have n1_ := ak_ (p1_ HB.out)
      clear BK152
      clear HB
      have BK152 := n0_
      have HB := n1_
      clear n0_ n1_
      refine start_ (n := 9) (S := fun w' => w'.cell? ⟨gb152, 0, none⟩ = some (.slice A0_0 l0_0.length c0_0) ∧ w'.cell? ⟨gb152, 1, none⟩ = some (.slice A0_1 l0_1.length c0_1) ∧ w'.cell? ⟨gb152, 2, none⟩ = some (.int .i64 a0_2)) (ds := []) #[false, false, false, false, false, false, false, false, false] (by kernel_rfl) rfl rfl ⟨(zc_ BK152.out 0).trans rfl, (zc_ BK152.out 1).trans rfl, (zc_ BK152.out 2).trans rfl⟩ (fun hHeld => ?_); refine with_tabW usufructref25_Ticks.tab9 usufructref25_Ticks.bits9 (fun HT_ HW_ => ?_)
      generalize wr.drew = w34 at BK152 HB hHeld ⊢
      refine pure_ (i := 0) (N := some 45) (v := ?_) (a' := ?_) (b_ 9 1) rfl rfl (any_of HT_.out (by kernel_rfl)) (fun _ _ _ h => h) (Or.inl ⟨by rfl, ?_⟩) ?_ ?_; rotate_left; (· intro w'; go_simp; with_reducible rfl); rotate_left; (· simp only [Act.put, sa_, sz_, ss_, i64_w, i32_w]; rfl)
      refine pure_ (i := 3) (N := some 48) (v := ?_) (a' := ?_) (b_ 9 9) rfl rfl (any_of HT_.out (by kernel_rfl)) (fun _ _ _ h => h) (Or.inl ⟨by rfl, ?_⟩) ?_ ?_; rotate_left; (· intro w'; go_simp; with_reducible rfl); rotate_left; (· simp only [Act.put, sa_, sz_, ss_, i64_w, i32_w]; rfl)
      refine pure_ (i := 5) (N := some 50) (v := ?_) (a' := ?_) (b_ 9 41) rfl rfl (any_of HT_.out (by kernel_rfl)) (fun _ _ _ h => h) (Or.inl ⟨by rfl, ?_⟩) ?_ ?_; rotate_left; (· intro w'; go_simp; with_reducible rfl); rotate_left; (· simp only [Act.put, sa_, sz_, ss_, i64_w, i32_w]; rfl)
      refine take_ (i := 1) (N := some 46) (v := ?_) (a' := ?_) (b_ 9 43) rfl rfl (take_ofW HT_.out HW_.out (by kernel_rfl)) (fun _ _ _ h => h) (Or.inl ⟨by rfl, ?_⟩) hHeld ?_ ?_
      rotate_left
      · rintro w' ⟨s0, s1, s2⟩
        go_simp
        with_reducible rfl
      rotate_left
      · simp only [Act.put, sa_, sz_, ss_, i64_w, i32_w]
        rfl
      refine take_ (i := 4) (N := some 49) (v := ?_) (a' := ?_) (b_ 9 59) rfl rfl (take_ofW HT_.out HW_.out (by kernel_rfl)) (fun _ _ _ h => h) (Or.inl ⟨by rfl, ?_⟩) hHeld ?_ ?_
      rotate_left
      · rintro w' ⟨s0, s1, s2⟩
        go_simp
        with_reducible rfl
      rotate_left
      · simp only [Act.put, sa_, sz_, ss_, i64_w, i32_w]
        rfl
      refine one_ (i := 2) (N := some 47) (b_ 9 63) rfl rfl (one_of HT_.out (by kernel_rfl)) (by decide) (fun K hK => ?_)
      refine goes_ Try.func16 (by kernel_rfl) rfl #[.agg #[.slice A0_0 l0_0.length c0_0, .slice A0_1 l0_1.length c0_1, .int .i64 a0_2]] (by rfl) rfl rfl (by (try simp only [List.map_toArray, List.map_cons, List.map_nil]); first | done | rfl | (simp only [List.length_drop, List.length_take]; rfl)) ?_
      with_reducible refine (usufructref25_Live.calls k1 _ _ l0_0 _ _ l0_1 a0_2 t159 _ ?side1 ?side2 ?side3 ?side4 A30.out).mono ?_
      (case side1 => repeat (first | exact (Kd.C_below HR0_0.out HB.out) | (with_reducible refine Kd.C_alloc ?_ _) | (with_reducible refine Kd.C_drewN ?_ _) | (with_reducible refine Kd.C_drew ?_)))
      (case side2 => exact HC0_0.out)
      (case side3 => repeat (first | exact (Kd.C_below HR0_1.out HB.out) | (with_reducible refine Kd.C_alloc ?_ _) | (with_reducible refine Kd.C_drewN ?_ _) | (with_reducible refine Kd.C_drew ?_)))
      (case side4 => exact HC0_1.out)
      rintro e w35 ⟨rfl, hb⟩
      refine ⟨_, rfl, ?_⟩
      have n0_ := ak_ (blk_below (g := gb152) (o := .cells #[.slice A0_0 l0_0.length c0_0, .slice A0_1 l0_1.length c0_1, .int .i64 a0_2] 25 (0, 0)) (by (with_reducible repeat (first | apply zn_ | apply zd_ | apply za_)); exact BK152.out) hb)
      have n1_ := ak_ (ps_ (by repeat (first | (with_reducible first | exact HB.out | apply pa_ | apply pd_ | apply p1_ | refine zs_ ?_ GE152.out) | exact HB.out)) hb)
      clear BK152
      clear HB
      have BK152 := n0_
      have HB := n1_
      clear n0_ n1_
      (try clear hb hk hi)
      refine hK.out _ _ ⟨(zc_ BK152.out 0).trans rfl, (zc_ BK152.out 1).trans rfl, (zc_ BK152.out 2).trans rfl⟩ (fun hHeld => ?_)
      clear hK K
      refine norm_ (a' := ?_) ?_ ?_
      rotate_left
      · show Act.put _ (some 47) _ = _
        simp only [Act.put, sa_, sz_, ss_, i64_w, i32_w]
        rfl
      refine one_ (i := 6) (N := some 51) (b_ 9 127) rfl rfl (one_of HT_.out (by kernel_rfl)) (by decide) (fun K hK => ?_)
      refine goes_ Try.func12 (by kernel_rfl) rfl #[.slice A0_0 l0_0.length c0_0, .slice A1 l1.length c1] (by rfl) rfl rfl (by (try simp only [List.map_toArray, List.map_cons, List.map_nil]); first | done | rfl | (simp only [List.length_drop, List.length_take]; rfl)) ?_
      with_reducible refine (usufructref25_Longest.calls k1 _ _ l0_0 _ _ l1 t160 _ ?side1 ?side2 ?side3 ?side4 A31.out).mono ?_
      (case side1 => repeat (first | exact (Kd.C_below HR0_0.out HB.out) | (with_reducible refine Kd.C_alloc ?_ _) | (with_reducible refine Kd.C_drewN ?_ _) | (with_reducible refine Kd.C_drew ?_)))
      (case side2 => exact HC0_0.out)
      (case side3 => repeat (first | exact (Kd.C_below HR1.out HB.out) | (with_reducible refine Kd.C_alloc ?_ _) | (with_reducible refine Kd.C_drewN ?_ _) | (with_reducible refine Kd.C_drew ?_)))
      (case side4 => exact HC1.out)
      rintro e w36 ⟨rfl, hb⟩
      refine ⟨_, rfl, ?_⟩
      have n0_ := ak_ (blk_below (g := gb152) (o := .cells #[.slice A0_0 l0_0.length c0_0, .slice A0_1 l0_1.length c0_1, .int .i64 a0_2] 25 (0, 0)) (by (with_reducible repeat (first | apply zn_ | apply zd_ | apply za_)); exact BK152.out) hb)
      have n1_ := ak_ (ps_ (by repeat (first | (with_reducible first | exact HB.out | apply pa_ | apply pd_ | apply p1_ | refine zs_ ?_ GE152.out) | exact HB.out)) hb)
      clear BK152
      clear HB
      have BK152 := n0_
      have HB := n1_
      clear n0_ n1_
      (try clear hb hk hi)
      refine hK.out _ _ ⟨(zc_ BK152.out 0).trans rfl, (zc_ BK152.out 1).trans rfl, (zc_ BK152.out 2).trans rfl⟩ (fun hHeld => ?_)
      clear hK K
      refine norm_ (a' := ?_) ?_ ?_
      rotate_left
      · show Act.put _ (some 51) _ = _
        simp only [Act.put, sa_, sz_, ss_, i64_w, i32_w]
        rfl
      refine one_ (i := 7) (N := some 52) (b_ 9 255) rfl rfl (one_of HT_.out (by kernel_rfl)) (by decide) (fun K hK => ?_)
      refine goes_ Try.func9 (by kernel_rfl) rfl #[.int .i64 x5_1, .int .i64 t159, .int .i64 t160] (by rfl) rfl rfl (by (try simp only [List.map_toArray, List.map_cons, List.map_nil]); first | done | rfl | (simp only [List.length_drop, List.length_take]; rfl)) ?_
      with_reducible refine (usufructref25_All.calls k1 x5_1 t159 t160 t161 _ A32.out).mono ?_
      rintro e w' ⟨rfl, ⟨nd, rfl⟩⟩
      refine ⟨_, rfl, ?_⟩
      refine hK.out _ _ ⟨(zc_ BK152.out 0).trans rfl, (zc_ BK152.out 1).trans rfl, (zc_ BK152.out 2).trans rfl⟩ (fun hHeld => ?_)
      clear hK K
      refine norm_ (a' := ?_) ?_ ?_
      rotate_left
      · show Act.put _ (some 52) _ = _
        simp only [Act.put, sa_, sz_, ss_, i64_w, i32_w]
        rfl
      refine pure_ (i := 8) (N := some 4) (v := ?_) (a' := ?_) (b_ 9 511) rfl rfl (any_of HT_.out (by kernel_rfl)) (fun _ _ _ h => h) (Or.inl ⟨by rfl, ?_⟩) ?_ ?_; rotate_left; (· intro w'; go_simp; with_reducible rfl); rotate_left; (· simp only [Act.put, sa_, sz_, ss_, i64_w, i32_w]; rfl)
      refine done_ (done_of HT_.out (by kernel_rfl)) ?_
      try go_wp2
      go_ret
      exact ⟨by first | rfl | (simp [errW_none, errW_some] <;> rfl) | (simp [*, errW_none, errW_some] <;> rfl), by repeat (first | (with_reducible first | exact HB.out | apply pa_ | apply pd_ | apply p1_ | refine zs_ ?_ GE152.out) | exact HB.out)⟩

end Go.Proofs.Ytookpfpmobbhiaa.Q
