/- Part 5 of a claim's texts. -/
import Derived.Test.YtmfddmhomkcikaaDoorPk1
import Derived.Test.YtmfddmhomkcikaaDoorPk3
import Derived.Test.YtmfddmhomkcikaaDoorPk4
namespace Go.Proofs.YtmfddmhomkcikaaDoor.Q
open Go.RowKit Go.Proofs.YtmfddmhomkcikaaDoorW.PrintWords Go.Proofs.YtmfddmhomkcikaaDoorW.PrintLast Go.Proofs.YtmfddmhomkcikaaDoorW.PrintMore
attribute [local go_sem] max2_int min2_int max_two min_two max_three min_three max_four min_four
set_option linter.unusedVariables false
set_option linter.unusedSimpArgs false
set_option maxHeartbeats 8000000
set_option maxRecDepth 100000
open Go.Proofs.YtmfddmhomkcikaaDoor.Q.H_
def saga_check.j0 : Nat → Bool → Int → ByteArray → Int → Int → Int → Int → Bool → Int → Int → Option (Int)
 | 0, _, _, _, _, _, _, _, _, _, _ => none
 | k + 1, x7, x147000, x147001, x147002, x147003, x147004, x147005, x147006, x147007, x147008 => if x7 = true then (some 1) else ((saga_Over.f x147000 x147001 x147002 x147003 x147004 x147005 x147006 x147007 x147008).bind fun t149 => (if t149 = true then (some 19) else (some 0)))
def saga_check.f (k : Nat) (a0_0 : ByteArray) (a0_1 : Int) (l0_2 : List (S70)) (a1_0 : Int) (a1_1 : ByteArray) (a1_2 : Int) (a1_3 : Int) (a1_4 : Int) (a1_5 : Int) (a1_6 : Bool) (a1_7 : Int) (a1_8 : Int) (a2 : Int) : Option (Int) := (saga_Good.f k a0_0 a0_1 l0_2 a1_0 a1_1 a1_2 a1_3 a1_4 a1_5 a1_6 a1_7 a1_8).bind fun t147 => (if t147 = true then ((tick_Good.f a2).bind fun t148 => (saga_check.j0 k (!t148) a1_0 a1_1 a1_2 a1_3 a1_4 a1_5 a1_6 a1_7 a1_8)) else (saga_check.j0 k true a1_0 a1_1 a1_2 a1_3 a1_4 a1_5 a1_6 a1_7 a1_8))
theorem saga_check.calls (k : Nat) (a0_0 : ByteArray) (a0_1 : Int) (A0_2 : Option Addr) (c0_2 : Nat) (l0_2 : List (S70)) (a1_0 : Int) (a1_1 : ByteArray) (a1_2 : Int) (a1_3 : Int) (a1_4 : Int) (a1_5 : Int) (a1_6 : Bool) (a1_7 : Int) (a1_8 : Int) (a2 : Int) (r : Int) (w : World) (hr0_2 : Kd.C k70 w A0_2 l0_2.length l0_2) (hc0_2 : l0_2.length ≤ c0_2) (hTab_ : Tabs_ w) (h : saga_check.f k a0_0 a0_1 l0_2 a1_0 a1_1 a1_2 a1_3 a1_4 a1_5 a1_6 a1_7 a1_8 a2 = some r) :
 Calls Tryd.prog 34 #[.agg #[.string a0_0, .int .i64 a0_1, .slice A0_2 l0_2.length c0_2], .agg #[.int .i64 a1_0, .string a1_1, .int .i64 a1_2, .int .i64 a1_3, .int .i64 a1_4, .int .i64 a1_5, .bool a1_6, .int .i64 a1_7, .int .i64 a1_8], .int .i64 a2] w fun e w' => e = .returned (.int .i64 r) ∧ Below w.heap.size w w' := by
 have HT := ak_ hTab_
 clear hTab_
 have hu24 := Tryd.underlying24
 have hu31 := Tryd.underlying31
 have HR0_2 := ak_ hr0_2
 have HC0_2 := ak_ hc0_2
 clear hr0_2 hc0_2
 have HB := ak_ (Below.refl w.heap.size w)
 have H : ((saga_Good.f k a0_0 a0_1 l0_2 a1_0 a1_1 a1_2 a1_3 a1_4 a1_5 a1_6 a1_7 a1_8).bind fun t147 => (if t147 = true then ((tick_Good.f a2).bind fun t148 => (saga_check.j0 k (!t148) a1_0 a1_1 a1_2 a1_3 a1_4 a1_5 a1_6 a1_7 a1_8)) else (saga_check.j0 k true a1_0 a1_1 a1_2 a1_3 a1_4 a1_5 a1_6 a1_7 a1_8))) = some r := h
 clear h
 have HC4 := ak_ H
 clear H
 go_enter Tryd.func34, Tryd.ntmps34
 go_upto_region 1 with (first | ((with_reducible refine gate_dst (N := 3) rfl ?_); refine box_event ?hg (N := 3) ?hd (cs := #[.string a0_0, .int .i64 a0_1, .slice A0_2 l0_2.length c0_2]) (t := 24) ?hr ?_; (case hd | hg => rfl); (case hr => first | (go_simp; done) | (go_simp; rfl)); intro gb145 hg w5 hbox hb; have n0_ := ak_ (ps (by with_reducible repeat first | exact HB.out | apply pa | apply pd | apply pe) hb); have n1_ := ak_ (hbox); have n2_ := ak_ ((by rw [hg]; exact (below_size (by with_reducible repeat first | exact HB.out | apply pa | apply pd | apply pe)) : w.heap.size ≤ gb145)); have n3_ := ak_ ((by rw [hg]; exact (below_size (by with_reducible repeat first | exact HB.out | apply pa | apply pd | apply pe)) : w.heap.size ≤ gb145)); clear HB; have HB := n0_; have BK145 := n1_; have GW145 := n2_; have GE145 := n3_; clear n0_ n1_ n2_ n3_ hb hbox hg) | ((with_reducible refine gate_dst (N := 4) rfl ?_); refine box_event ?hg (N := 4) ?hd (cs := #[.int .i64 a1_0, .string a1_1, .int .i64 a1_2, .int .i64 a1_3, .int .i64 a1_4, .int .i64 a1_5, .bool a1_6, .int .i64 a1_7, .int .i64 a1_8]) (t := 31) ?hr ?_; (case hd | hg => rfl); (case hr => first | (go_simp; done) | (go_simp; rfl)); intro gb146 hg w6 hbox hb; have n0_ := ak_ (blk_below (g := gb145) (o := .cells #[.string a0_0, .int .i64 a0_1, .slice A0_2 l0_2.length c0_2] 24 (0, 0)) (by (with_reducible repeat (first | apply zn | apply zd | apply za)); exact BK145.out) hb); have n1_ := ak_ (ps (by with_reducible repeat first | exact HB.out | apply pa | apply pd | apply pe | refine zs ?_ GE145.out) hb); have n2_ := ak_ (hbox); have n3_ := ak_ ((by rw [hg]; exact (below_size (by with_reducible repeat first | exact HB.out | apply pa | apply pd | apply pe | refine zs ?_ GE145.out)) : w.heap.size ≤ gb146)); have n4_ := ak_ ((by rw [hg]; exact (below_size (by with_reducible repeat first | exact HB.out | apply pa | apply pd | apply pe | refine zs ?_ GE145.out)) : w.heap.size ≤ gb146)); have n5_ := ak_ ((by rw [hg]; exact Nat.ne_of_lt (blk_lt (g := gb145) (by (with_reducible repeat (first | apply zn | apply zd | apply za)); exact BK145.out)) : gb145 ≠ gb146)); have n6_ := ak_ ((by rw [hg]; exact Nat.ne_of_gt (blk_lt (g := gb145) (by (with_reducible repeat (first | apply zn | apply zd | apply za)); exact BK145.out)) : gb146 ≠ gb145)); clear BK145 HB; have BK145 := n0_; have HB := n1_; have BK146 := n2_; have GW146 := n3_; have GE146 := n4_; have NB145_146 := n5_; have NB146_145 := n6_; clear n0_ n1_ n2_ n3_ n4_ n5_ n6_ hb hbox hg))
 (try simp only [Act.put, sa_, sz_, ss_])
 go_cut [7] (fun v7 wc => ∃ (kq : Nat) (x7_3 : Bool), v7 = .bool x7_3 ∧ Aside0 (saga_check.j0 kq x7_3 a1_0 a1_1 a1_2 a1_3 a1_4 a1_5 a1_6 a1_7 a1_8 = some r) ∧ Aside0 (kq ≤ k) ∧ Aside0 (wc.heap[gb145]? = some (.cells #[.string a0_0, .int .i64 a0_1, (.slice A0_2 l0_2.length c0_2)] 24 (0, 0))) ∧ Aside0 (wc.heap[gb146]? = some (.cells #[.int .i64 a1_0, .string a1_1, .int .i64 a1_2, .int .i64 a1_3, .int .i64 a1_4, .int .i64 a1_5, .bool a1_6, .int .i64 a1_7, .int .i64 a1_8] 31 (0, 0))) ∧ Aside0 (Below w.heap.size w wc))
 case first =>
  have H := HC4.out
  clear HC4
  replace H := ob_ H
  obtain ⟨t147, A70, H⟩ := H
  replace H : (if t147 = true then ((tick_Good.f a2).bind fun t148 => (saga_check.j0 k (!t148) a1_0 a1_1 a1_2 a1_3 a1_4 a1_5 a1_6 a1_7 a1_8)) else (saga_check.j0 k true a1_0 a1_1 a1_2 a1_3 a1_4 a1_5 a1_6 a1_7 a1_8)) = some r := H
  have A7 := ak_ A70
  clear A70
  by_cases c8 : t147 = true
  · subst c8
    have H1 : ((tick_Good.f a2).bind fun t148 => (saga_check.j0 k (!t148) a1_0 a1_1 a1_2 a1_3 a1_4 a1_5 a1_6 a1_7 a1_8)) = some r := by rw [if_pos rfl] at H; exact H
    clear H
    have H := H1
    clear H1
    replace H := ob_ H
    obtain ⟨t148, A90, H⟩ := H
    replace H : (saga_check.j0 k (!t148) a1_0 a1_1 a1_2 a1_3 a1_4 a1_5 a1_6 a1_7 a1_8) = some r := H
    have A9 := ak_ A90
    clear A90
    have H' := ak_ H
    clear H
    have hnb10 := NB145_146.out
    have hnc10 := NB146_145.out
    have hcz11_0 : w6.cell? ⟨gb145, 0, none⟩ = some (.string a0_0) := (zc BK145.out 0).trans rfl
    have hcz11_1 : w6.cell? ⟨gb145, 1, none⟩ = some (.int .i64 a0_1) := (zc BK145.out 1).trans rfl
    have hcz11_2 : w6.cell? ⟨gb145, 2, none⟩ = some (.slice A0_2 l0_2.length c0_2) := (zc BK145.out 2).trans rfl
    have hfz11_0 := zf BK145.out 0
    have hfz11_1 := zf BK145.out 1
    have hfz11_2 := zf BK145.out 2
    have hcz12_0 : w6.cell? ⟨gb146, 0, none⟩ = some (.int .i64 a1_0) := (zc BK146.out 0).trans rfl
    have hcz12_1 : w6.cell? ⟨gb146, 1, none⟩ = some (.string a1_1) := (zc BK146.out 1).trans rfl
    have hcz12_2 : w6.cell? ⟨gb146, 2, none⟩ = some (.int .i64 a1_2) := (zc BK146.out 2).trans rfl
    have hcz12_3 : w6.cell? ⟨gb146, 3, none⟩ = some (.int .i64 a1_3) := (zc BK146.out 3).trans rfl
    have hcz12_4 : w6.cell? ⟨gb146, 4, none⟩ = some (.int .i64 a1_4) := (zc BK146.out 4).trans rfl
    have hcz12_5 : w6.cell? ⟨gb146, 5, none⟩ = some (.int .i64 a1_5) := (zc BK146.out 5).trans rfl
    have hcz12_6 : w6.cell? ⟨gb146, 6, none⟩ = some (.bool a1_6) := (zc BK146.out 6).trans rfl
    have hcz12_7 : w6.cell? ⟨gb146, 7, none⟩ = some (.int .i64 a1_7) := (zc BK146.out 7).trans rfl
    have hcz12_8 : w6.cell? ⟨gb146, 8, none⟩ = some (.int .i64 a1_8) := (zc BK146.out 8).trans rfl
    have hfz12_0 := zf BK146.out 0
    have hfz12_1 := zf BK146.out 1
    have hfz12_2 := zf BK146.out 2
    have hfz12_3 := zf BK146.out 3
    have hfz12_4 := zf BK146.out 4
    have hfz12_5 := zf BK146.out 5
    have hfz12_6 := zf BK146.out 6
    have hfz12_7 := zf BK146.out 7
    have hfz12_8 := zf BK146.out 8
    go_wp2_with (first | ((with_reducible refine gate_callee (f := 18) rfl ?_); refine goesL_ (some 10) rfl rfl Tryd.func18 (by kernel_rfl) rfl #[.agg #[.string a0_0, .int .i64 a0_1, .slice A0_2 l0_2.length c0_2], .agg #[.int .i64 a1_0, .string a1_1, .int .i64 a1_2, .int .i64 a1_3, .int .i64 a1_4, .int .i64 a1_5, .bool a1_6, .int .i64 a1_7, .int .i64 a1_8]] rfl (by (try simp only [mt_, mc_, mn_]); first | done | rfl) ?_; (with_reducible refine (saga_Good.calls k a0_0 a0_1 _ _ l0_2 a1_0 a1_1 a1_2 a1_3 a1_4 a1_5 a1_6 a1_7 a1_8 true _ ?side1 ?side2 ?tab_ A7.out).mono ?_); (case tab_ => first | exact HT.out | exact Tabs_.below HT.out (by with_reducible repeat first | exact HB.out | apply pa | apply pd | apply pe)); (case side1 => repeat (first | exact (Kd.C_below HR0_2.out HB.out) | (with_reducible refine Kd.C_alloc ?_ _) | (with_reducible refine Kd.C_drewN ?_ _) | (with_reducible refine Kd.C_drew ?_))); (case side2 => exact HC0_2.out); rintro e w13 ⟨rfl, hb⟩; refine ⟨_, rfl, ?_⟩; have n0_ := ak_ (blk_below (g := gb145) (o := .cells #[.string a0_0, .int .i64 a0_1, .slice A0_2 l0_2.length c0_2] 24 (0, 0)) (by (with_reducible repeat (first | apply zn | apply zd | apply za)); exact BK145.out) hb); have n1_ := ak_ (blk_below (g := gb146) (o := .cells #[.int .i64 a1_0, .string a1_1, .int .i64 a1_2, .int .i64 a1_3, .int .i64 a1_4, .int .i64 a1_5, .bool a1_6, .int .i64 a1_7, .int .i64 a1_8] 31 (0, 0)) (by (with_reducible repeat (first | apply zn | apply zd | apply za)); exact BK146.out) hb); have n2_ := ak_ (ps (by with_reducible repeat first | exact HB.out | apply pa | apply pd | apply pe | refine zs ?_ GE145.out | refine zs ?_ GE146.out) hb); clear BK145 BK146 HB; have BK145 := n0_; have BK146 := n1_; have HB := n2_; clear n0_ n1_ n2_) | (go_at_call 51; (with_reducible refine (tick_Good.calls a2 t148 _ A9.out).mono ?_); rintro e w' ⟨rfl, ⟨nd, rfl⟩⟩))
    go_meet
    case rel => exact ⟨_, (!t148), (by first | rfl | simp [*]), H', ⟨by first | omega | exact Nat.le_refl _⟩, ⟨by (with_reducible repeat (first | apply zn | apply zd | apply za)); exact BK145.out⟩, ⟨by (with_reducible repeat (first | apply zn | apply zd | apply za)); exact BK146.out⟩, ⟨by repeat (first | (with_reducible first | exact HB.out | apply pa | apply pd | apply pe | refine zs ?_ GE145.out | refine zs ?_ GE146.out) | exact HB.out)⟩⟩
  replace c8 := Bool.eq_false_iff.mpr c8
  subst c8
  have H1 : (saga_check.j0 k true a1_0 a1_1 a1_2 a1_3 a1_4 a1_5 a1_6 a1_7 a1_8) = some r := by rw [if_neg (show ¬ (false = true) by decide)] at H; exact H
  clear H
  have H := H1
  clear H1
  have H' := ak_ H
  clear H
  have hnb14 := NB145_146.out
  have hnc14 := NB146_145.out
  have hcz15_0 : w6.cell? ⟨gb145, 0, none⟩ = some (.string a0_0) := (zc BK145.out 0).trans rfl
  have hcz15_1 : w6.cell? ⟨gb145, 1, none⟩ = some (.int .i64 a0_1) := (zc BK145.out 1).trans rfl
  have hcz15_2 : w6.cell? ⟨gb145, 2, none⟩ = some (.slice A0_2 l0_2.length c0_2) := (zc BK145.out 2).trans rfl
  have hfz15_0 := zf BK145.out 0
  have hfz15_1 := zf BK145.out 1
  have hfz15_2 := zf BK145.out 2
  have hcz16_0 : w6.cell? ⟨gb146, 0, none⟩ = some (.int .i64 a1_0) := (zc BK146.out 0).trans rfl
  have hcz16_1 : w6.cell? ⟨gb146, 1, none⟩ = some (.string a1_1) := (zc BK146.out 1).trans rfl
  have hcz16_2 : w6.cell? ⟨gb146, 2, none⟩ = some (.int .i64 a1_2) := (zc BK146.out 2).trans rfl
  have hcz16_3 : w6.cell? ⟨gb146, 3, none⟩ = some (.int .i64 a1_3) := (zc BK146.out 3).trans rfl
  have hcz16_4 : w6.cell? ⟨gb146, 4, none⟩ = some (.int .i64 a1_4) := (zc BK146.out 4).trans rfl
  have hcz16_5 : w6.cell? ⟨gb146, 5, none⟩ = some (.int .i64 a1_5) := (zc BK146.out 5).trans rfl
  have hcz16_6 : w6.cell? ⟨gb146, 6, none⟩ = some (.bool a1_6) := (zc BK146.out 6).trans rfl
  have hcz16_7 : w6.cell? ⟨gb146, 7, none⟩ = some (.int .i64 a1_7) := (zc BK146.out 7).trans rfl
  have hcz16_8 : w6.cell? ⟨gb146, 8, none⟩ = some (.int .i64 a1_8) := (zc BK146.out 8).trans rfl
  have hfz16_0 := zf BK146.out 0
  have hfz16_1 := zf BK146.out 1
  have hfz16_2 := zf BK146.out 2
  have hfz16_3 := zf BK146.out 3
  have hfz16_4 := zf BK146.out 4
  have hfz16_5 := zf BK146.out 5
  have hfz16_6 := zf BK146.out 6
  have hfz16_7 := zf BK146.out 7
  have hfz16_8 := zf BK146.out 8
  go_wp2_with (first | ((with_reducible refine gate_callee (f := 18) rfl ?_); refine goesL_ (some 10) rfl rfl Tryd.func18 (by kernel_rfl) rfl #[.agg #[.string a0_0, .int .i64 a0_1, .slice A0_2 l0_2.length c0_2], .agg #[.int .i64 a1_0, .string a1_1, .int .i64 a1_2, .int .i64 a1_3, .int .i64 a1_4, .int .i64 a1_5, .bool a1_6, .int .i64 a1_7, .int .i64 a1_8]] rfl (by (try simp only [mt_, mc_, mn_]); first | done | rfl) ?_; (with_reducible refine (saga_Good.calls k a0_0 a0_1 _ _ l0_2 a1_0 a1_1 a1_2 a1_3 a1_4 a1_5 a1_6 a1_7 a1_8 false _ ?side1 ?side2 ?tab_ A7.out).mono ?_); (case tab_ => first | exact HT.out | exact Tabs_.below HT.out (by with_reducible repeat first | exact HB.out | apply pa | apply pd | apply pe)); (case side1 => repeat (first | exact (Kd.C_below HR0_2.out HB.out) | (with_reducible refine Kd.C_alloc ?_ _) | (with_reducible refine Kd.C_drewN ?_ _) | (with_reducible refine Kd.C_drew ?_))); (case side2 => exact HC0_2.out); rintro e w17 ⟨rfl, hb⟩; refine ⟨_, rfl, ?_⟩; have n0_ := ak_ (blk_below (g := gb145) (o := .cells #[.string a0_0, .int .i64 a0_1, .slice A0_2 l0_2.length c0_2] 24 (0, 0)) (by (with_reducible repeat (first | apply zn | apply zd | apply za)); exact BK145.out) hb); have n1_ := ak_ (blk_below (g := gb146) (o := .cells #[.int .i64 a1_0, .string a1_1, .int .i64 a1_2, .int .i64 a1_3, .int .i64 a1_4, .int .i64 a1_5, .bool a1_6, .int .i64 a1_7, .int .i64 a1_8] 31 (0, 0)) (by (with_reducible repeat (first | apply zn | apply zd | apply za)); exact BK146.out) hb); have n2_ := ak_ (ps (by with_reducible repeat first | exact HB.out | apply pa | apply pd | apply pe | refine zs ?_ GE145.out | refine zs ?_ GE146.out) hb); clear BK145 BK146 HB; have BK145 := n0_; have BK146 := n1_; have HB := n2_; clear n0_ n1_ n2_))
  go_meet
  case rel => exact ⟨_, (true), (by first | rfl | simp [*]), H', ⟨by first | omega | exact Nat.le_refl _⟩, ⟨by (with_reducible repeat (first | apply zn | apply zd | apply za)); exact BK145.out⟩, ⟨by (with_reducible repeat (first | apply zn | apply zd | apply za)); exact BK146.out⟩, ⟨by repeat (first | (with_reducible first | exact HB.out | apply pa | apply pd | apply pe | refine zs ?_ GE145.out | refine zs ?_ GE146.out) | exact HB.out)⟩⟩
 case rest =>
  clear HC4
  try clear c1
  try clear p2
  try clear c3
  try clear c8
  try clear c10
  try clear c14
  try clear hcz11_0
  try clear hcz11_1
  try clear hcz11_2
  try clear hcz12_0
  try clear hcz12_1
  try clear hcz12_2
  try clear hcz12_3
  try clear hcz12_4
  try clear hcz12_5
  try clear hcz12_6
  try clear hcz12_7
  try clear hcz12_8
  try clear hcz15_0
  try clear hcz15_1
  try clear hcz15_2
  try clear hcz16_0
  try clear hcz16_1
  try clear hcz16_2
  try clear hcz16_3
  try clear hcz16_4
  try clear hcz16_5
  try clear hcz16_6
  try clear hcz16_7
  try clear hcz16_8
  try clear hfz11_0
  try clear hfz11_1
  try clear hfz11_2
  try clear hfz12_0
  try clear hfz12_1
  try clear hfz12_2
  try clear hfz12_3
  try clear hfz12_4
  try clear hfz12_5
  try clear hfz12_6
  try clear hfz12_7
  try clear hfz12_8
  try clear hfz15_0
  try clear hfz15_1
  try clear hfz15_2
  try clear hfz16_0
  try clear hfz16_1
  try clear hfz16_2
  try clear hfz16_3
  try clear hfz16_4
  try clear hfz16_5
  try clear hfz16_6
  try clear hfz16_7
  try clear hfz16_8
  obtain ⟨kq, x7_3, rfl, HA, HJ3, BK145, BK146, HB⟩ := hcut
  cases kq with
  | zero => exact absurd HA.out (by simp [saga_check.j0])
  | succ kj3 =>
   have H := HA.out
   clear HA
   simp only [saga_check.j0] at H
   have HF18 := ak_ H
   clear H
   go_upto_if 7 with (fail)
   have H := HF18.out
   clear HF18
   by_cases c19 : x7_3 = true
   · subst c19
     have H1 : (some 1) = some r := by rw [if_pos rfl] at H; exact H
     clear H
     have H := H1
     clear H1
     obtain rfl := Option.some.inj H
     go_wp2
     go_ret
     exact ⟨by first | rfl | simp [*], by repeat (first | (with_reducible first | exact HB.out | apply pa | apply pd | apply pe | refine zs ?_ GE145.out | refine zs ?_ GE146.out) | exact HB.out)⟩
   replace c19 := Bool.eq_false_iff.mpr c19
   subst c19
   have H1 : ((saga_Over.f a1_0 a1_1 a1_2 a1_3 a1_4 a1_5 a1_6 a1_7 a1_8).bind fun t149 => (if t149 = true then (some 19) else (some 0))) = some r := by rw [if_neg (show ¬ (false = true) by decide)] at H; exact H
   clear H
   have H := H1
   clear H1
   replace H := ob_ H
   obtain ⟨t149, A200, H⟩ := H
   replace H : (if t149 = true then (some 19) else (some 0)) = some r := H
   have A20 := ak_ A200
   clear A200
   have HF21 := ak_ H
   clear H
   have hnb22 := NB146_145.out
   have hnc22 := NB145_146.out
   have hcz23_0 : wc.cell? ⟨gb146, 0, none⟩ = some (.int .i64 a1_0) := (zc BK146.out 0).trans rfl
   have hcz23_1 : wc.cell? ⟨gb146, 1, none⟩ = some (.string a1_1) := (zc BK146.out 1).trans rfl
   have hcz23_2 : wc.cell? ⟨gb146, 2, none⟩ = some (.int .i64 a1_2) := (zc BK146.out 2).trans rfl
   have hcz23_3 : wc.cell? ⟨gb146, 3, none⟩ = some (.int .i64 a1_3) := (zc BK146.out 3).trans rfl
   have hcz23_4 : wc.cell? ⟨gb146, 4, none⟩ = some (.int .i64 a1_4) := (zc BK146.out 4).trans rfl
   have hcz23_5 : wc.cell? ⟨gb146, 5, none⟩ = some (.int .i64 a1_5) := (zc BK146.out 5).trans rfl
   have hcz23_6 : wc.cell? ⟨gb146, 6, none⟩ = some (.bool a1_6) := (zc BK146.out 6).trans rfl
   have hcz23_7 : wc.cell? ⟨gb146, 7, none⟩ = some (.int .i64 a1_7) := (zc BK146.out 7).trans rfl
   have hcz23_8 : wc.cell? ⟨gb146, 8, none⟩ = some (.int .i64 a1_8) := (zc BK146.out 8).trans rfl
   have hfz23_0 := zf BK146.out 0
   have hfz23_1 := zf BK146.out 1
   have hfz23_2 := zf BK146.out 2
   have hfz23_3 := zf BK146.out 3
   have hfz23_4 := zf BK146.out 4
   have hfz23_5 := zf BK146.out 5
   have hfz23_6 := zf BK146.out 6
   have hfz23_7 := zf BK146.out 7
   have hfz23_8 := zf BK146.out 8
   go_upto_if 17 with (first | ((with_reducible refine gate_callee (f := 19) rfl ?_); refine goesL_ (some 19) rfl rfl Tryd.func19 (by kernel_rfl) rfl #[.agg #[.int .i64 a1_0, .string a1_1, .int .i64 a1_2, .int .i64 a1_3, .int .i64 a1_4, .int .i64 a1_5, .bool a1_6, .int .i64 a1_7, .int .i64 a1_8]] rfl (by (try simp only [mt_, mc_, mn_]); first | done | rfl) ?_; (with_reducible refine (saga_Over.calls a1_0 a1_1 a1_2 a1_3 a1_4 a1_5 a1_6 a1_7 a1_8 t149 _ A20.out).mono ?_); rintro e w24 ⟨rfl, hb⟩; refine ⟨_, rfl, ?_⟩; have n0_ := ak_ (blk_below (g := gb145) (o := .cells #[.string a0_0, .int .i64 a0_1, .slice A0_2 l0_2.length c0_2] 24 (0, 0)) (by (with_reducible repeat (first | apply zn | apply zd | apply za)); exact BK145.out) hb); have n1_ := ak_ (blk_below (g := gb146) (o := .cells #[.int .i64 a1_0, .string a1_1, .int .i64 a1_2, .int .i64 a1_3, .int .i64 a1_4, .int .i64 a1_5, .bool a1_6, .int .i64 a1_7, .int .i64 a1_8] 31 (0, 0)) (by (with_reducible repeat (first | apply zn | apply zd | apply za)); exact BK146.out) hb); have n2_ := ak_ (ps (by with_reducible repeat first | exact HB.out | apply pa | apply pd | apply pe | refine zs ?_ GE145.out | refine zs ?_ GE146.out) hb); clear BK145 BK146 HB; have BK145 := n0_; have BK146 := n1_; have HB := n2_; clear n0_ n1_ n2_))
   (try simp only [Act.put, sa_, sz_, ss_])
   have H := HF21.out
   clear HF21
   by_cases c25 : t149 = true
   · subst c25
     have H1 : (some 19) = some r := by rw [if_pos rfl] at H; exact H
     clear H
     have H := H1
     clear H1
     obtain rfl := Option.some.inj H
     go_wp2
     go_ret
     exact ⟨by first | rfl | simp [*], by repeat (first | (with_reducible first | exact HB.out | apply pa | apply pd | apply pe | refine zs ?_ GE145.out | refine zs ?_ GE146.out) | exact HB.out)⟩
   replace c25 := Bool.eq_false_iff.mpr c25
   subst c25
   have H1 : (some 0) = some r := by rw [if_neg (show ¬ (false = true) by decide)] at H; exact H
   clear H
   have H := H1
   clear H1
   obtain rfl := Option.some.inj H
   go_wp2
   go_ret
   exact ⟨by first | rfl | simp [*], by repeat (first | (with_reducible first | exact HB.out | apply pa | apply pd | apply pe | refine zs ?_ GE145.out | refine zs ?_ GE146.out) | exact HB.out)⟩
def tick_Of.f (a0 : Int) : Option (Int) := some (mn (mx a0 0) 1099511627776)
theorem tick_Of.calls (a0 : Int) (r : Int) (w : World) (h : tick_Of.f a0 = some r) :
 Calls Tryd.prog 33 #[.int .i64 a0] w fun e w' => e = .returned (.int .i64 r) ∧ Below w.heap.size w w' := by
 have HB := ak_ (Below.refl w.heap.size w)
 have H : (some (mn (mx a0 0) 1099511627776)) = some r := h
 clear h
 obtain ⟨ji2, hji2⟩ : ∃ j_ : Int, (mx a0 0) = j_ := ⟨_, rfl⟩
 replace H : (some (mn (ji2) 1099511627776)) = some r := by first | (rw [hji2] at H; exact H) | (simp only [hji2] at H ⊢; exact H)
 (try (have hji2l : 0 ≤ ji2 := by (rw [← hji2]; unfold mx; (repeat' split) <;> omega)))
 (try (have hji2m : 0 ≤ ji2 := by omega))
 have hji2_ : (if a0 < 0 then 0 else a0) = ji2 := hji2
 obtain ⟨ji3, hji3⟩ : ∃ j_ : Int, (mn (ji2) 1099511627776) = j_ := ⟨_, rfl⟩
 replace H : (some ji3) = some r := by first | (rw [hji3] at H; exact H) | (simp only [hji3] at H ⊢; exact H)
 have hji3_ : (if 1099511627776 < (ji2) then 1099511627776 else (ji2)) = ji3 := hji3
 obtain rfl := Option.some.inj H
 go_enter Tryd.func33, Tryd.ntmps33
 go_wp2
 go_ret
 exact ⟨by first | rfl | (simp [errW_none, errW_some] <;> rfl) | (simp only [← hji2, ← hji3]; first | rfl | (simp [errW_none, errW_some] <;> rfl)) | (simp [*, errW_none, errW_some] <;> rfl), by repeat (first | (with_reducible first | exact HB.out | apply below_alloc | apply pw_below_drewN | apply below_drew1) | exact HB.out)⟩
def tick_Due.f (a0 : Int) (a1 : Int) : Option (Bool) := (tick_Of.f a1).bind fun t150 => ((tick_Of.f a0).bind fun t151 => (some (decide (t150 ≤ t151))))
theorem tick_Due.calls (a0 : Int) (a1 : Int) (r : Bool) (w : World) (h : tick_Due.f a0 a1 = some r) :
 Calls Tryd.prog 63 #[.int .i64 a0, .int .i64 a1] w fun e w' => e = .returned (.bool r) ∧ Below w.heap.size w w' := by
 have HB := ak_ (Below.refl w.heap.size w)
 have H : ((tick_Of.f a1).bind fun t150 => ((tick_Of.f a0).bind fun t151 => (some (decide (t150 ≤ t151))))) = some r := h
 clear h
 replace H := ob_ H
 obtain ⟨t150, A30, H⟩ := H
 replace H : ((tick_Of.f a0).bind fun t151 => (some (decide (t150 ≤ t151)))) = some r := H
 have A3 := ak_ A30
 clear A30
 replace H := ob_ H
 obtain ⟨t151, A40, H⟩ := H
 replace H : (some (decide (t150 ≤ t151))) = some r := H
 have A4 := ak_ A40
 clear A40
 obtain rfl := Option.some.inj H
 go_enter Tryd.func63, Tryd.ntmps63
 go_wp2_with (first | ((with_reducible refine gate_callee (f := 33) rfl ?_); refine goesL_ (some 6) rfl rfl Tryd.func33 (by kernel_rfl) rfl #[.int .i64 a1] rfl (by (try simp only [mt_, mc_, mn_]); first | done | rfl) ?_; (with_reducible refine (tick_Of.calls a1 t150 _ A3.out).mono ?_); rintro e w5 ⟨rfl, hb⟩; refine ⟨_, rfl, ?_⟩; have n0_ := ak_ (below_step (by with_reducible repeat first | exact HB.out | apply below_alloc | apply pw_below_drewN | apply below_drew1) hb); clear HB; have HB := n0_; clear n0_) | ((with_reducible refine gate_callee (f := 33) rfl ?_); refine goesL_ (some 8) rfl rfl Tryd.func33 (by kernel_rfl) rfl #[.int .i64 a0] rfl (by (try simp only [mt_, mc_, mn_]); first | done | rfl) ?_; (with_reducible refine (tick_Of.calls a0 t151 _ A4.out).mono ?_); rintro e w6 ⟨rfl, hb⟩; refine ⟨_, rfl, ?_⟩; have n0_ := ak_ (below_step (by with_reducible repeat first | exact HB.out | apply below_alloc | apply pw_below_drewN | apply below_drew1) hb); clear HB; have HB := n0_; clear n0_))
 go_ret
 exact ⟨by first | rfl | simp [*], by repeat (first | (with_reducible first | exact HB.out | apply below_alloc | apply pw_below_drewN | apply below_drew1) | exact HB.out)⟩
def tick_Add.f (a0 : Int) (a1 : Int) : Option (Int) := (tick_Of.f a0).bind fun t152 => ((tick_Of.f a1).bind fun t153 => ((tick_Of.f (wrap64 (t152 + t153))).bind fun t154 => (some t154)))
theorem tick_Add.calls (a0 : Int) (a1 : Int) (r : Int) (w : World) (h : tick_Add.f a0 a1 = some r) :
 Calls Tryd.prog 36 #[.int .i64 a0, .int .i64 a1] w fun e w' => e = .returned (.int .i64 r) ∧ Below w.heap.size w w' := by
 have HB := ak_ (Below.refl w.heap.size w)
 have H : ((tick_Of.f a0).bind fun t152 => ((tick_Of.f a1).bind fun t153 => ((tick_Of.f (wrap64 (t152 + t153))).bind fun t154 => (some t154)))) = some r := h
 clear h
 replace H := ob_ H
 obtain ⟨t152, A30, H⟩ := H
 replace H : ((tick_Of.f a1).bind fun t153 => ((tick_Of.f (wrap64 (t152 + t153))).bind fun t154 => (some t154))) = some r := H
 have A3 := ak_ A30
 clear A30
 replace H := ob_ H
 obtain ⟨t153, A40, H⟩ := H
 replace H : ((tick_Of.f (wrap64 (t152 + t153))).bind fun t154 => (some t154)) = some r := H
 have A4 := ak_ A40
 clear A40
 replace H := ob_ H
 obtain ⟨t154, A50, H⟩ := H
 replace H : (some t154) = some r := H
 have A5 := ak_ A50
 clear A50
 obtain rfl := Option.some.inj H
 go_enter Tryd.func36, Tryd.ntmps36
 go_wp2_with (first | ((with_reducible refine gate_callee (f := 33) rfl ?_); refine goesL_ (some 6) rfl rfl Tryd.func33 (by kernel_rfl) rfl #[.int .i64 a0] rfl (by (try simp only [mt_, mc_, mn_]); first | done | rfl) ?_; (with_reducible refine (tick_Of.calls a0 t152 _ A3.out).mono ?_); rintro e w6 ⟨rfl, hb⟩; refine ⟨_, rfl, ?_⟩; have n0_ := ak_ (below_step (by with_reducible repeat first | exact HB.out | apply below_alloc | apply pw_below_drewN | apply below_drew1) hb); clear HB; have HB := n0_; clear n0_) | ((with_reducible refine gate_callee (f := 33) rfl ?_); refine goesL_ (some 8) rfl rfl Tryd.func33 (by kernel_rfl) rfl #[.int .i64 a1] rfl (by (try simp only [mt_, mc_, mn_]); first | done | rfl) ?_; (with_reducible refine (tick_Of.calls a1 t153 _ A4.out).mono ?_); rintro e w7 ⟨rfl, hb⟩; refine ⟨_, rfl, ?_⟩; have n0_ := ak_ (below_step (by with_reducible repeat first | exact HB.out | apply below_alloc | apply pw_below_drewN | apply below_drew1) hb); clear HB; have HB := n0_; clear n0_) | ((with_reducible refine gate_callee (f := 33) rfl ?_); refine goesL_ (some 10) rfl rfl Tryd.func33 (by kernel_rfl) rfl #[.int .i64 (wrap64 (t152 + t153))] rfl (by (try simp only [mt_, mc_, mn_]); first | done | rfl) ?_; (with_reducible refine (tick_Of.calls (wrap64 (t152 + t153)) t154 _ A5.out).mono ?_); rintro e w8 ⟨rfl, hb⟩; refine ⟨_, rfl, ?_⟩; have n0_ := ak_ (below_step (by with_reducible repeat first | exact HB.out | apply below_alloc | apply pw_below_drewN | apply below_drew1) hb); clear HB; have HB := n0_; clear n0_))
 go_ret
 exact ⟨by first | rfl | simp [*], by repeat (first | (with_reducible first | exact HB.out | apply below_alloc | apply pw_below_drewN | apply below_drew1) | exact HB.out)⟩
def def_End.f (a0_0 : ByteArray) (a0_1 : Int) (l0_2 : List (S70)) (a1 : Int) : Option (Int) := if a0_1 = 0 then (some 1099511627777) else ((tick_Add.f a1 a0_1).bind fun t156 => (some t156))
theorem def_End.calls (a0_0 : ByteArray) (a0_1 : Int) (A0_2 : Option Addr) (c0_2 : Nat) (l0_2 : List (S70)) (a1 : Int) (r : Int) (w : World) (hr0_2 : Kd.C k70 w A0_2 l0_2.length l0_2) (hc0_2 : l0_2.length ≤ c0_2) (h : def_End.f a0_0 a0_1 l0_2 a1 = some r) :
 Calls Tryd.prog 54 #[.agg #[.string a0_0, .int .i64 a0_1, .slice A0_2 l0_2.length c0_2], .int .i64 a1] w fun e w' => e = .returned (.int .i64 r) ∧ Below w.heap.size w w' := by
 have hu24 := Tryd.underlying24
 have HR0_2 := ak_ hr0_2
 have HC0_2 := ak_ hc0_2
 clear hr0_2 hc0_2
 have HB := ak_ (Below.refl w.heap.size w)
 have H : (if a0_1 = 0 then (some 1099511627777) else ((tick_Add.f a1 a0_1).bind fun t156 => (some t156))) = some r := h
 clear h
 have HF3 := ak_ H
 clear H
 go_enter Tryd.func54, Tryd.ntmps54
 go_upto_if 7 with (first | ((with_reducible refine gate_dst (N := 2) rfl ?_); refine box_event ?hg (N := 2) ?hd (cs := #[.string a0_0, .int .i64 a0_1, .slice A0_2 l0_2.length c0_2]) (t := 24) ?hr ?_; (case hd | hg => rfl); (case hr => first | (go_simp; done) | (go_simp; rfl)); intro gb155 hg w4 hbox hb; have n0_ := ak_ (below_step (by with_reducible repeat first | exact HB.out | apply below_alloc | apply pw_below_drewN | apply below_drew1) hb); have n1_ := ak_ (hbox); have n2_ := ak_ ((by rw [hg]; exact (below_size (by with_reducible repeat first | exact HB.out | apply below_alloc | apply pw_below_drewN | apply below_drew1)) : w.heap.size ≤ gb155)); have n3_ := ak_ ((by rw [hg]; exact (below_size (by with_reducible repeat first | exact HB.out | apply below_alloc | apply pw_below_drewN | apply below_drew1)) : w.heap.size ≤ gb155)); clear HB; have HB := n0_; have BK155 := n1_; have GW155 := n2_; have GE155 := n3_; clear n0_ n1_ n2_ n3_ hb hbox hg; have hcz5_0 : w4.cell? ⟨gb155, 0, none⟩ = some (.string a0_0) := (zc BK155.out 0).trans rfl; have hcz5_1 : w4.cell? ⟨gb155, 1, none⟩ = some (.int .i64 a0_1) := (zc BK155.out 1).trans rfl; have hcz5_2 : w4.cell? ⟨gb155, 2, none⟩ = some (.slice A0_2 l0_2.length c0_2) := (zc BK155.out 2).trans rfl; have hfz5_0 := zf BK155.out 0; have hfz5_1 := zf BK155.out 1; have hfz5_2 := zf BK155.out 2))
 (try simp only [Act.put, sa_, sz_, ss_])
 have H := HF3.out
 clear HF3
 by_cases c6 : a0_1 = 0
 · rw [if_pos c6] at H
   have c6b0 : (a0_1 == 0) = true := beq_iff_eq.mpr c6
   have c6b1 : (a0_1 != 0) = false := bne_eq_false_iff_eq.mpr c6
   clear c6
   (first | rw [c6b0] | (simp only [i64_w, i32_w]; rw [c6b0]) | skip)
   obtain rfl := Option.some.inj H
   go_wp2
   go_ret
   exact ⟨by first | rfl | simp [*], by repeat (first | (with_reducible first | exact HB.out | apply below_alloc | apply pw_below_drewN | apply below_drew1 | refine below_set ?_ GE155.out) | exact HB.out)⟩
 · rw [if_neg c6] at H
   have c6b0 : (a0_1 == 0) = false := beq_eq_false_iff_ne.mpr c6
   have c6b1 : (a0_1 != 0) = true := bne_iff_ne.mpr c6
   (first | rw [c6b0] | (simp only [i64_w, i32_w]; rw [c6b0]) | skip)
   replace H := ob_ H
   obtain ⟨t156, A70, H⟩ := H
   replace H : (some t156) = some r := H
   have A7 := ak_ A70
   clear A70
   obtain rfl := Option.some.inj H
   have hcz8_0 : w4.cell? ⟨gb155, 0, none⟩ = some (.string a0_0) := (zc BK155.out 0).trans rfl
   have hcz8_1 : w4.cell? ⟨gb155, 1, none⟩ = some (.int .i64 a0_1) := (zc BK155.out 1).trans rfl
   have hcz8_2 : w4.cell? ⟨gb155, 2, none⟩ = some (.slice A0_2 l0_2.length c0_2) := (zc BK155.out 2).trans rfl
   have hfz8_0 := zf BK155.out 0
   have hfz8_1 := zf BK155.out 1
   have hfz8_2 := zf BK155.out 2
   go_wp2_with (first | ((with_reducible refine gate_callee (f := 36) rfl ?_); refine goesL_ (some 11) rfl rfl Tryd.func36 (by kernel_rfl) rfl #[.int .i64 a1, .int .i64 a0_1] rfl (by (try simp only [mt_, mc_, mn_]); first | done | rfl) ?_; (with_reducible refine (tick_Add.calls a1 a0_1 t156 _ A7.out).mono ?_); rintro e w9 ⟨rfl, hb⟩; refine ⟨_, rfl, ?_⟩; have n0_ := ak_ (blk_below (g := gb155) (o := .cells #[.string a0_0, .int .i64 a0_1, .slice A0_2 l0_2.length c0_2] 24 (0, 0)) (by (with_reducible repeat (first | refine blk_drewN ?_ _ | refine blk_drew ?_ | refine blk_alloc ?_ _)); exact BK155.out) hb); have n1_ := ak_ (below_step (by with_reducible repeat first | exact HB.out | apply below_alloc | apply pw_below_drewN | apply below_drew1 | refine below_set ?_ GE155.out) hb); clear BK155 HB; have BK155 := n0_; have HB := n1_; clear n0_ n1_))
   go_ret
   exact ⟨by first | rfl | simp [*], by repeat (first | (with_reducible first | exact HB.out | apply below_alloc | apply pw_below_drewN | apply below_drew1 | refine below_set ?_ GE155.out) | exact HB.out)⟩
def saga_ahead.f (a0_0 : ByteArray) (a0_1 : Int) (l0_2 : List (S70)) (a1_0 : Int) (a1_1 : ByteArray) (a1_2 : Int) (a1_3 : Int) (a1_4 : Int) (a1_5 : Int) (a1_6 : Bool) (a1_7 : Int) (a1_8 : Int) (a2 : Int) : Option (Bool) := if a1_3 = 1 then (some true) else (if a1_3 = 0 then ((def_End.f a0_0 a0_1 l0_2 a1_2).bind fun t159 => (some (decide (a2 < t159)))) else (some false))
theorem saga_ahead.calls (a0_0 : ByteArray) (a0_1 : Int) (A0_2 : Option Addr) (c0_2 : Nat) (l0_2 : List (S70)) (a1_0 : Int) (a1_1 : ByteArray) (a1_2 : Int) (a1_3 : Int) (a1_4 : Int) (a1_5 : Int) (a1_6 : Bool) (a1_7 : Int) (a1_8 : Int) (a2 : Int) (r : Bool) (w : World) (hr0_2 : Kd.C k70 w A0_2 l0_2.length l0_2) (hc0_2 : l0_2.length ≤ c0_2) (h : saga_ahead.f a0_0 a0_1 l0_2 a1_0 a1_1 a1_2 a1_3 a1_4 a1_5 a1_6 a1_7 a1_8 a2 = some r) :
 Calls Tryd.prog 68 #[.agg #[.string a0_0, .int .i64 a0_1, .slice A0_2 l0_2.length c0_2], .agg #[.int .i64 a1_0, .string a1_1, .int .i64 a1_2, .int .i64 a1_3, .int .i64 a1_4, .int .i64 a1_5, .bool a1_6, .int .i64 a1_7, .int .i64 a1_8], .int .i64 a2] w fun e w' => e = .returned (.bool r) ∧ Below w.heap.size w w' := by
 have hu24 := Tryd.underlying24
 have hu31 := Tryd.underlying31
 have HR0_2 := ak_ hr0_2
 have HC0_2 := ak_ hc0_2
 clear hr0_2 hc0_2
 have HB := ak_ (Below.refl w.heap.size w)
 have H : (if a1_3 = 1 then (some true) else (if a1_3 = 0 then ((def_End.f a0_0 a0_1 l0_2 a1_2).bind fun t159 => (some (decide (a2 < t159)))) else (some false))) = some r := h
 clear h
 by_cases c4 : a1_3 = 1
 · rw [if_pos c4] at H
   have c4b0 : (a1_3 == 1) = true := beq_iff_eq.mpr c4
   have c4b1 : (a1_3 != 1) = false := bne_eq_false_iff_eq.mpr c4
   clear c4
   obtain rfl := Option.some.inj H
   go_enter Tryd.func68, Tryd.ntmps68
   go_wp2_with (first | ((with_reducible refine gate_dst (N := 3) rfl ?_); refine box_event ?hg (N := 3) ?hd (cs := #[.string a0_0, .int .i64 a0_1, .slice A0_2 l0_2.length c0_2]) (t := 24) ?hr ?_; (case hd | hg => rfl); (case hr => first | (go_simp; done) | (go_simp; rfl)); intro gb157 hg w5 hbox hb; have n0_ := ak_ (ps (by with_reducible repeat first | exact HB.out | apply pa | apply pd | apply pe) hb); have n1_ := ak_ (hbox); have n2_ := ak_ ((by rw [hg]; exact (below_size (by with_reducible repeat first | exact HB.out | apply pa | apply pd | apply pe)) : w.heap.size ≤ gb157)); have n3_ := ak_ ((by rw [hg]; exact (below_size (by with_reducible repeat first | exact HB.out | apply pa | apply pd | apply pe)) : w.heap.size ≤ gb157)); clear HB; have HB := n0_; have BK157 := n1_; have GW157 := n2_; have GE157 := n3_; clear n0_ n1_ n2_ n3_ hb hbox hg) | ((with_reducible refine gate_dst (N := 4) rfl ?_); refine box_event ?hg (N := 4) ?hd (cs := #[.int .i64 a1_0, .string a1_1, .int .i64 a1_2, .int .i64 a1_3, .int .i64 a1_4, .int .i64 a1_5, .bool a1_6, .int .i64 a1_7, .int .i64 a1_8]) (t := 31) ?hr ?_; (case hd | hg => rfl); (case hr => first | (go_simp; done) | (go_simp; rfl)); intro gb158 hg w6 hbox hb; have n0_ := ak_ (blk_below (g := gb157) (o := .cells #[.string a0_0, .int .i64 a0_1, .slice A0_2 l0_2.length c0_2] 24 (0, 0)) (by (with_reducible repeat (first | apply zn | apply zd | apply za)); exact BK157.out) hb); have n1_ := ak_ (ps (by with_reducible repeat first | exact HB.out | apply pa | apply pd | apply pe | refine zs ?_ GE157.out) hb); have n2_ := ak_ (hbox); have n3_ := ak_ ((by rw [hg]; exact (below_size (by with_reducible repeat first | exact HB.out | apply pa | apply pd | apply pe | refine zs ?_ GE157.out)) : w.heap.size ≤ gb158)); have n4_ := ak_ ((by rw [hg]; exact (below_size (by with_reducible repeat first | exact HB.out | apply pa | apply pd | apply pe | refine zs ?_ GE157.out)) : w.heap.size ≤ gb158)); have n5_ := ak_ ((by rw [hg]; exact Nat.ne_of_lt (blk_lt (g := gb157) (by (with_reducible repeat (first | apply zn | apply zd | apply za)); exact BK157.out)) : gb157 ≠ gb158)); have n6_ := ak_ ((by rw [hg]; exact Nat.ne_of_gt (blk_lt (g := gb157) (by (with_reducible repeat (first | apply zn | apply zd | apply za)); exact BK157.out)) : gb158 ≠ gb157)); clear BK157 HB; have BK157 := n0_; have HB := n1_; have BK158 := n2_; have GW158 := n3_; have GE158 := n4_; have NB157_158 := n5_; have NB158_157 := n6_; clear n0_ n1_ n2_ n3_ n4_ n5_ n6_ hb hbox hg; have hnb7 := NB158_157.out; have hnc7 := NB157_158.out; have hcz8_0 : w6.cell? ⟨gb158, 0, none⟩ = some (.int .i64 a1_0) := (zc BK158.out 0).trans rfl; have hcz8_1 : w6.cell? ⟨gb158, 1, none⟩ = some (.string a1_1) := (zc BK158.out 1).trans rfl; have hcz8_2 : w6.cell? ⟨gb158, 2, none⟩ = some (.int .i64 a1_2) := (zc BK158.out 2).trans rfl; have hcz8_3 : w6.cell? ⟨gb158, 3, none⟩ = some (.int .i64 a1_3) := (zc BK158.out 3).trans rfl; have hcz8_4 : w6.cell? ⟨gb158, 4, none⟩ = some (.int .i64 a1_4) := (zc BK158.out 4).trans rfl; have hcz8_5 : w6.cell? ⟨gb158, 5, none⟩ = some (.int .i64 a1_5) := (zc BK158.out 5).trans rfl; have hcz8_6 : w6.cell? ⟨gb158, 6, none⟩ = some (.bool a1_6) := (zc BK158.out 6).trans rfl; have hcz8_7 : w6.cell? ⟨gb158, 7, none⟩ = some (.int .i64 a1_7) := (zc BK158.out 7).trans rfl; have hcz8_8 : w6.cell? ⟨gb158, 8, none⟩ = some (.int .i64 a1_8) := (zc BK158.out 8).trans rfl; have hfz8_0 := zf BK158.out 0; have hfz8_1 := zf BK158.out 1; have hfz8_2 := zf BK158.out 2; have hfz8_3 := zf BK158.out 3; have hfz8_4 := zf BK158.out 4; have hfz8_5 := zf BK158.out 5; have hfz8_6 := zf BK158.out 6; have hfz8_7 := zf BK158.out 7; have hfz8_8 := zf BK158.out 8))
   go_ret
   exact ⟨by first | rfl | simp [*], by repeat (first | (with_reducible first | exact HB.out | apply pa | apply pd | apply pe | refine zs ?_ GE157.out | refine zs ?_ GE158.out) | exact HB.out)⟩
 rw [if_neg c4] at H
 have c4b0 : (a1_3 == 1) = false := beq_eq_false_iff_ne.mpr c4
 have c4b1 : (a1_3 != 1) = true := bne_iff_ne.mpr c4
 by_cases c9 : a1_3 = 0
 · rw [if_pos c9] at H
   have c9b0 : (a1_3 == 0) = true := beq_iff_eq.mpr c9
   have c9b1 : (a1_3 != 0) = false := bne_eq_false_iff_eq.mpr c9
   clear c9
   replace H := ob_ H
   obtain ⟨t159, A100, H⟩ := H
   replace H : (some (decide (a2 < t159))) = some r := H
   have A10 := ak_ A100
   clear A100
   obtain rfl := Option.some.inj H
   go_enter Tryd.func68, Tryd.ntmps68
   go_wp2_with (first | ((with_reducible refine gate_dst (N := 3) rfl ?_); refine box_event ?hg (N := 3) ?hd (cs := #[.string a0_0, .int .i64 a0_1, .slice A0_2 l0_2.length c0_2]) (t := 24) ?hr ?_; (case hd | hg => rfl); (case hr => first | (go_simp; done) | (go_simp; rfl)); intro gb157 hg w11 hbox hb; have n0_ := ak_ (ps (by with_reducible repeat first | exact HB.out | apply pa | apply pd | apply pe) hb); have n1_ := ak_ (hbox); have n2_ := ak_ ((by rw [hg]; exact (below_size (by with_reducible repeat first | exact HB.out | apply pa | apply pd | apply pe)) : w.heap.size ≤ gb157)); have n3_ := ak_ ((by rw [hg]; exact (below_size (by with_reducible repeat first | exact HB.out | apply pa | apply pd | apply pe)) : w.heap.size ≤ gb157)); clear HB; have HB := n0_; have BK157 := n1_; have GW157 := n2_; have GE157 := n3_; clear n0_ n1_ n2_ n3_ hb hbox hg) | ((with_reducible refine gate_dst (N := 4) rfl ?_); refine box_event ?hg (N := 4) ?hd (cs := #[.int .i64 a1_0, .string a1_1, .int .i64 a1_2, .int .i64 a1_3, .int .i64 a1_4, .int .i64 a1_5, .bool a1_6, .int .i64 a1_7, .int .i64 a1_8]) (t := 31) ?hr ?_; (case hd | hg => rfl); (case hr => first | (go_simp; done) | (go_simp; rfl)); intro gb158 hg w12 hbox hb; have n0_ := ak_ (blk_below (g := gb157) (o := .cells #[.string a0_0, .int .i64 a0_1, .slice A0_2 l0_2.length c0_2] 24 (0, 0)) (by (with_reducible repeat (first | apply zn | apply zd | apply za)); exact BK157.out) hb); have n1_ := ak_ (ps (by with_reducible repeat first | exact HB.out | apply pa | apply pd | apply pe | refine zs ?_ GE157.out) hb); have n2_ := ak_ (hbox); have n3_ := ak_ ((by rw [hg]; exact (below_size (by with_reducible repeat first | exact HB.out | apply pa | apply pd | apply pe | refine zs ?_ GE157.out)) : w.heap.size ≤ gb158)); have n4_ := ak_ ((by rw [hg]; exact (below_size (by with_reducible repeat first | exact HB.out | apply pa | apply pd | apply pe | refine zs ?_ GE157.out)) : w.heap.size ≤ gb158)); have n5_ := ak_ ((by rw [hg]; exact Nat.ne_of_lt (blk_lt (g := gb157) (by (with_reducible repeat (first | apply zn | apply zd | apply za)); exact BK157.out)) : gb157 ≠ gb158)); have n6_ := ak_ ((by rw [hg]; exact Nat.ne_of_gt (blk_lt (g := gb157) (by (with_reducible repeat (first | apply zn | apply zd | apply za)); exact BK157.out)) : gb158 ≠ gb157)); clear BK157 HB; have BK157 := n0_; have HB := n1_; have BK158 := n2_; have GW158 := n3_; have GE158 := n4_; have NB157_158 := n5_; have NB158_157 := n6_; clear n0_ n1_ n2_ n3_ n4_ n5_ n6_ hb hbox hg; have hnb13 := NB158_157.out; have hnc13 := NB157_158.out; have hcz14_0 : w12.cell? ⟨gb158, 0, none⟩ = some (.int .i64 a1_0) := (zc BK158.out 0).trans rfl; have hcz14_1 : w12.cell? ⟨gb158, 1, none⟩ = some (.string a1_1) := (zc BK158.out 1).trans rfl; have hcz14_2 : w12.cell? ⟨gb158, 2, none⟩ = some (.int .i64 a1_2) := (zc BK158.out 2).trans rfl; have hcz14_3 : w12.cell? ⟨gb158, 3, none⟩ = some (.int .i64 a1_3) := (zc BK158.out 3).trans rfl; have hcz14_4 : w12.cell? ⟨gb158, 4, none⟩ = some (.int .i64 a1_4) := (zc BK158.out 4).trans rfl; have hcz14_5 : w12.cell? ⟨gb158, 5, none⟩ = some (.int .i64 a1_5) := (zc BK158.out 5).trans rfl; have hcz14_6 : w12.cell? ⟨gb158, 6, none⟩ = some (.bool a1_6) := (zc BK158.out 6).trans rfl; have hcz14_7 : w12.cell? ⟨gb158, 7, none⟩ = some (.int .i64 a1_7) := (zc BK158.out 7).trans rfl; have hcz14_8 : w12.cell? ⟨gb158, 8, none⟩ = some (.int .i64 a1_8) := (zc BK158.out 8).trans rfl; have hfz14_0 := zf BK158.out 0; have hfz14_1 := zf BK158.out 1; have hfz14_2 := zf BK158.out 2; have hfz14_3 := zf BK158.out 3; have hfz14_4 := zf BK158.out 4; have hfz14_5 := zf BK158.out 5; have hfz14_6 := zf BK158.out 6; have hfz14_7 := zf BK158.out 7; have hfz14_8 := zf BK158.out 8; have hcz15_0 : w12.cell? ⟨gb157, 0, none⟩ = some (.string a0_0) := (zc BK157.out 0).trans rfl; have hcz15_1 : w12.cell? ⟨gb157, 1, none⟩ = some (.int .i64 a0_1) := (zc BK157.out 1).trans rfl; have hcz15_2 : w12.cell? ⟨gb157, 2, none⟩ = some (.slice A0_2 l0_2.length c0_2) := (zc BK157.out 2).trans rfl; have hfz15_0 := zf BK157.out 0; have hfz15_1 := zf BK157.out 1; have hfz15_2 := zf BK157.out 2) | (go_at_call 54; (with_reducible refine (def_End.calls a0_0 a0_1 _ _ l0_2 a1_2 t159 _ ?side1 ?side2 A10.out).mono ?_); (case side1 => repeat (first | exact (Kd.C_below HR0_2.out HB.out) | (with_reducible refine Kd.C_alloc ?_ _) | (with_reducible refine Kd.C_drewN ?_ _) | (with_reducible refine Kd.C_drew ?_))); (case side2 => exact HC0_2.out); rintro e w16 ⟨rfl, hb⟩; have n0_ := ak_ (blk_below (g := gb157) (o := .cells #[.string a0_0, .int .i64 a0_1, .slice A0_2 l0_2.length c0_2] 24 (0, 0)) (by (with_reducible repeat (first | apply zn | apply zd | apply za)); exact BK157.out) hb); have n1_ := ak_ (blk_below (g := gb158) (o := .cells #[.int .i64 a1_0, .string a1_1, .int .i64 a1_2, .int .i64 a1_3, .int .i64 a1_4, .int .i64 a1_5, .bool a1_6, .int .i64 a1_7, .int .i64 a1_8] 31 (0, 0)) (by (with_reducible repeat (first | apply zn | apply zd | apply za)); exact BK158.out) hb); have n2_ := ak_ (ps (by with_reducible repeat first | exact HB.out | apply pa | apply pd | apply pe | refine zs ?_ GE157.out | refine zs ?_ GE158.out) hb); clear BK157 BK158 HB; have BK157 := n0_; have BK158 := n1_; have HB := n2_; clear n0_ n1_ n2_))
   go_ret
   exact ⟨by first | rfl | simp [*], by repeat (first | (with_reducible first | exact HB.out | apply pa | apply pd | apply pe | refine zs ?_ GE157.out | refine zs ?_ GE158.out) | exact HB.out)⟩
 rw [if_neg c9] at H
 have c9b0 : (a1_3 == 0) = false := beq_eq_false_iff_ne.mpr c9
 have c9b1 : (a1_3 != 0) = true := bne_iff_ne.mpr c9
 obtain rfl := Option.some.inj H
 go_enter Tryd.func68, Tryd.ntmps68
 go_wp2_with (first | ((with_reducible refine gate_dst (N := 3) rfl ?_); refine box_event ?hg (N := 3) ?hd (cs := #[.string a0_0, .int .i64 a0_1, .slice A0_2 l0_2.length c0_2]) (t := 24) ?hr ?_; (case hd | hg => rfl); (case hr => first | (go_simp; done) | (go_simp; rfl)); intro gb157 hg w17 hbox hb; have n0_ := ak_ (ps (by with_reducible repeat first | exact HB.out | apply pa | apply pd | apply pe) hb); have n1_ := ak_ (hbox); have n2_ := ak_ ((by rw [hg]; exact (below_size (by with_reducible repeat first | exact HB.out | apply pa | apply pd | apply pe)) : w.heap.size ≤ gb157)); have n3_ := ak_ ((by rw [hg]; exact (below_size (by with_reducible repeat first | exact HB.out | apply pa | apply pd | apply pe)) : w.heap.size ≤ gb157)); clear HB; have HB := n0_; have BK157 := n1_; have GW157 := n2_; have GE157 := n3_; clear n0_ n1_ n2_ n3_ hb hbox hg) | ((with_reducible refine gate_dst (N := 4) rfl ?_); refine box_event ?hg (N := 4) ?hd (cs := #[.int .i64 a1_0, .string a1_1, .int .i64 a1_2, .int .i64 a1_3, .int .i64 a1_4, .int .i64 a1_5, .bool a1_6, .int .i64 a1_7, .int .i64 a1_8]) (t := 31) ?hr ?_; (case hd | hg => rfl); (case hr => first | (go_simp; done) | (go_simp; rfl)); intro gb158 hg w18 hbox hb; have n0_ := ak_ (blk_below (g := gb157) (o := .cells #[.string a0_0, .int .i64 a0_1, .slice A0_2 l0_2.length c0_2] 24 (0, 0)) (by (with_reducible repeat (first | apply zn | apply zd | apply za)); exact BK157.out) hb); have n1_ := ak_ (ps (by with_reducible repeat first | exact HB.out | apply pa | apply pd | apply pe | refine zs ?_ GE157.out) hb); have n2_ := ak_ (hbox); have n3_ := ak_ ((by rw [hg]; exact (below_size (by with_reducible repeat first | exact HB.out | apply pa | apply pd | apply pe | refine zs ?_ GE157.out)) : w.heap.size ≤ gb158)); have n4_ := ak_ ((by rw [hg]; exact (below_size (by with_reducible repeat first | exact HB.out | apply pa | apply pd | apply pe | refine zs ?_ GE157.out)) : w.heap.size ≤ gb158)); have n5_ := ak_ ((by rw [hg]; exact Nat.ne_of_lt (blk_lt (g := gb157) (by (with_reducible repeat (first | apply zn | apply zd | apply za)); exact BK157.out)) : gb157 ≠ gb158)); have n6_ := ak_ ((by rw [hg]; exact Nat.ne_of_gt (blk_lt (g := gb157) (by (with_reducible repeat (first | apply zn | apply zd | apply za)); exact BK157.out)) : gb158 ≠ gb157)); clear BK157 HB; have BK157 := n0_; have HB := n1_; have BK158 := n2_; have GW158 := n3_; have GE158 := n4_; have NB157_158 := n5_; have NB158_157 := n6_; clear n0_ n1_ n2_ n3_ n4_ n5_ n6_ hb hbox hg; have hnb19 := NB158_157.out; have hnc19 := NB157_158.out; have hcz20_0 : w18.cell? ⟨gb158, 0, none⟩ = some (.int .i64 a1_0) := (zc BK158.out 0).trans rfl; have hcz20_1 : w18.cell? ⟨gb158, 1, none⟩ = some (.string a1_1) := (zc BK158.out 1).trans rfl; have hcz20_2 : w18.cell? ⟨gb158, 2, none⟩ = some (.int .i64 a1_2) := (zc BK158.out 2).trans rfl; have hcz20_3 : w18.cell? ⟨gb158, 3, none⟩ = some (.int .i64 a1_3) := (zc BK158.out 3).trans rfl; have hcz20_4 : w18.cell? ⟨gb158, 4, none⟩ = some (.int .i64 a1_4) := (zc BK158.out 4).trans rfl; have hcz20_5 : w18.cell? ⟨gb158, 5, none⟩ = some (.int .i64 a1_5) := (zc BK158.out 5).trans rfl; have hcz20_6 : w18.cell? ⟨gb158, 6, none⟩ = some (.bool a1_6) := (zc BK158.out 6).trans rfl; have hcz20_7 : w18.cell? ⟨gb158, 7, none⟩ = some (.int .i64 a1_7) := (zc BK158.out 7).trans rfl; have hcz20_8 : w18.cell? ⟨gb158, 8, none⟩ = some (.int .i64 a1_8) := (zc BK158.out 8).trans rfl; have hfz20_0 := zf BK158.out 0; have hfz20_1 := zf BK158.out 1; have hfz20_2 := zf BK158.out 2; have hfz20_3 := zf BK158.out 3; have hfz20_4 := zf BK158.out 4; have hfz20_5 := zf BK158.out 5; have hfz20_6 := zf BK158.out 6; have hfz20_7 := zf BK158.out 7; have hfz20_8 := zf BK158.out 8))
 go_ret
 exact ⟨by first | rfl | simp [*], by repeat (first | (with_reducible first | exact HB.out | apply pa | apply pd | apply pe | refine zs ?_ GE157.out | refine zs ?_ GE158.out) | exact HB.out)⟩
def saga_may.f (a0_0 : ByteArray) (a0_1 : Int) (l0_2 : List (S70)) (a1_0 : Int) (a1_1 : ByteArray) (a1_2 : Int) (a1_3 : Int) (a1_4 : Int) (a1_5 : Int) (a1_6 : Bool) (a1_7 : Int) (a1_8 : Int) (a2 : Int) : Option (Bool) := (saga_ahead.f a0_0 a0_1 l0_2 a1_0 a1_1 a1_2 a1_3 a1_4 a1_5 a1_6 a1_7 a1_8 a2).bind fun t162 => (if t162 = true then (if a1_6 = true then (some false) else ((tick_Due.f a2 a1_7).bind fun t163 => (if t163 = true then ((saga_plan.f a0_0 a0_1 l0_2 a1_0 a1_1 a1_2 a1_3 a1_4 a1_5 a1_6 a1_7 a1_8).bind fun bt164 => ((backoff_Left.f bt164.1 bt164.2.1 bt164.2.2.1 bt164.2.2.2 a1_5).bind fun t168 => (some (decide (t168 > 0))))) else (some false)))) else (some false))
def saga_may.T1 : Bool × List (List Nat × List Nat) := (true, [([], []), ([], []), ([], []), ([0, 1, 2], [0, 1, 2]), ([3, 3], [3]), ([4], [4]), ([5, 4], [4, 5]), ([6, 4], [4, 6]), ([4, 7], [4, 7]), ([8, 4], [8]), ([9], [9]), ([9], [9]), ([11, 9], [9, 11]), ([10, 12, 9, 9], [9, 10, 12]), ([9, 13], [9, 13]), ([14, 13], [14]), ([15], [15]), ([15], [15]), ([16, 17, 15, 15], [15, 16, 17]), ([15], [15]), ([19, 15], [15, 19]), ([18, 20, 18, 15], [15, 18, 20]), ([21, 15], [15, 21]), ([15, 22], [15, 22]), ([23, 21, 0, 1, 2, 3, 4, 5, 6, 7, 8, 9, 10, 11, 12, 13, 14, 15, 16, 17, 18, 19, 20, 21, 22, 23], [23])])
def saga_may.B1 : List Nat := [0, 0, 0, 7, 15, 31, 63, 127, 255, 511, 1023, 1023, 3071, 8191, 16383, 32767, 65535, 65535, 262143, 65535, 589823, 2097151, 4194303, 8388607, 16777215]
theorem saga_may.tab1 : rtab .any (opsOf Tryd.f35 1) = saga_may.T1 := by kernel_rfl
theorem saga_may.bits1 : waitsOk saga_may.T1.2 saga_may.B1 = true := by kernel_rfl
theorem saga_may.calls (a0_0 : ByteArray) (a0_1 : Int) (A0_2 : Option Addr) (c0_2 : Nat) (l0_2 : List (S70)) (a1_0 : Int) (a1_1 : ByteArray) (a1_2 : Int) (a1_3 : Int) (a1_4 : Int) (a1_5 : Int) (a1_6 : Bool) (a1_7 : Int) (a1_8 : Int) (a2 : Int) (r : Bool) (w : World) (hr0_2 : Kd.C k70 w A0_2 l0_2.length l0_2) (hc0_2 : l0_2.length ≤ c0_2) (h : saga_may.f a0_0 a0_1 l0_2 a1_0 a1_1 a1_2 a1_3 a1_4 a1_5 a1_6 a1_7 a1_8 a2 = some r) :
 Calls Tryd.prog 35 #[.agg #[.string a0_0, .int .i64 a0_1, .slice A0_2 l0_2.length c0_2], .agg #[.int .i64 a1_0, .string a1_1, .int .i64 a1_2, .int .i64 a1_3, .int .i64 a1_4, .int .i64 a1_5, .bool a1_6, .int .i64 a1_7, .int .i64 a1_8], .int .i64 a2] w fun e w' => e = .returned (.bool r) ∧ Below w.heap.size w w' := by
 have hu24 := Tryd.underlying24
 have hu31 := Tryd.underlying31
 have HR0_2 := ak_ hr0_2
 have HC0_2 := ak_ hc0_2
 clear hr0_2 hc0_2
 have HB := ak_ (Below.refl w.heap.size w)
 have H : ((saga_ahead.f a0_0 a0_1 l0_2 a1_0 a1_1 a1_2 a1_3 a1_4 a1_5 a1_6 a1_7 a1_8 a2).bind fun t162 => (if t162 = true then (if a1_6 = true then (some false) else ((tick_Due.f a2 a1_7).bind fun t163 => (if t163 = true then ((saga_plan.f a0_0 a0_1 l0_2 a1_0 a1_1 a1_2 a1_3 a1_4 a1_5 a1_6 a1_7 a1_8).bind fun bt164 => ((backoff_Left.f bt164.1 bt164.2.1 bt164.2.2.1 bt164.2.2.2 a1_5).bind fun t168 => (some (decide (t168 > 0))))) else (some false)))) else (some false))) = some r := h
 clear h
 replace H := ob_ H
 obtain ⟨t162, A40, H⟩ := H
 replace H : (if t162 = true then (if a1_6 = true then (some false) else ((tick_Due.f a2 a1_7).bind fun t163 => (if t163 = true then ((saga_plan.f a0_0 a0_1 l0_2 a1_0 a1_1 a1_2 a1_3 a1_4 a1_5 a1_6 a1_7 a1_8).bind fun bt164 => ((backoff_Left.f bt164.1 bt164.2.1 bt164.2.2.1 bt164.2.2.2 a1_5).bind fun t168 => (some (decide (t168 > 0))))) else (some false)))) else (some false)) = some r := H
 have A4 := ak_ A40
 clear A40
 by_cases c5 : t162 = true
 · subst c5
   have H1 : (if a1_6 = true then (some false) else ((tick_Due.f a2 a1_7).bind fun t163 => (if t163 = true then ((saga_plan.f a0_0 a0_1 l0_2 a1_0 a1_1 a1_2 a1_3 a1_4 a1_5 a1_6 a1_7 a1_8).bind fun bt164 => ((backoff_Left.f bt164.1 bt164.2.1 bt164.2.2.1 bt164.2.2.2 a1_5).bind fun t168 => (some (decide (t168 > 0))))) else (some false)))) = some r := by rw [if_pos rfl] at H; exact H
   clear H
   have H := H1
   clear H1
   by_cases c6 : a1_6 = true
   · subst c6
     have H1 : (some false) = some r := by rw [if_pos rfl] at H; exact H
     clear H
     have H := H1
     clear H1
     obtain rfl := Option.some.inj H
     go_enter Tryd.func35, Tryd.ntmps35
     try go_wp2_with (first | ((with_reducible refine gate_dst (N := 3) rfl ?_); refine box_event ?hg (N := 3) ?hd (cs := #[.string a0_0, .int .i64 a0_1, .slice A0_2 l0_2.length c0_2]) (t := 24) ?hr ?_; (case hd | hg => rfl); (case hr => first | (go_simp; done) | (go_simp; rfl)); intro gb160 hg w7 hbox hb; have n0_ := ak_ (ps (by with_reducible repeat first | exact HB.out | apply pa | apply pd | apply pe) hb); have n1_ := ak_ (hbox); have n2_ := ak_ ((by rw [hg]; exact (below_size (by with_reducible repeat first | exact HB.out | apply pa | apply pd | apply pe)) : w.heap.size ≤ gb160)); have n3_ := ak_ ((by rw [hg]; exact (below_size (by with_reducible repeat first | exact HB.out | apply pa | apply pd | apply pe)) : w.heap.size ≤ gb160)); clear HB; have HB := n0_; have BK160 := n1_; have GW160 := n2_; have GE160 := n3_; clear n0_ n1_ n2_ n3_ hb hbox hg) | ((with_reducible refine gate_dst (N := 4) rfl ?_); refine box_event ?hg (N := 4) ?hd (cs := #[.int .i64 a1_0, .string a1_1, .int .i64 a1_2, .int .i64 a1_3, .int .i64 a1_4, .int .i64 a1_5, .bool true, .int .i64 a1_7, .int .i64 a1_8]) (t := 31) ?hr ?_; (case hd | hg => rfl); (case hr => first | (go_simp; done) | (go_simp; rfl)); intro gb161 hg w8 hbox hb; have n0_ := ak_ (blk_below (g := gb160) (o := .cells #[.string a0_0, .int .i64 a0_1, .slice A0_2 l0_2.length c0_2] 24 (0, 0)) (by (with_reducible repeat (first | apply zn | apply zd | apply za)); exact BK160.out) hb); have n1_ := ak_ (ps (by with_reducible repeat first | exact HB.out | apply pa | apply pd | apply pe | refine zs ?_ GE160.out) hb); have n2_ := ak_ (hbox); have n3_ := ak_ ((by rw [hg]; exact (below_size (by with_reducible repeat first | exact HB.out | apply pa | apply pd | apply pe | refine zs ?_ GE160.out)) : w.heap.size ≤ gb161)); have n4_ := ak_ ((by rw [hg]; exact (below_size (by with_reducible repeat first | exact HB.out | apply pa | apply pd | apply pe | refine zs ?_ GE160.out)) : w.heap.size ≤ gb161)); have n5_ := ak_ ((by rw [hg]; exact Nat.ne_of_lt (blk_lt (g := gb160) (by (with_reducible repeat (first | apply zn | apply zd | apply za)); exact BK160.out)) : gb160 ≠ gb161)); have n6_ := ak_ ((by rw [hg]; exact Nat.ne_of_gt (blk_lt (g := gb160) (by (with_reducible repeat (first | apply zn | apply zd | apply za)); exact BK160.out)) : gb161 ≠ gb160)); clear BK160 HB; have BK160 := n0_; have HB := n1_; have BK161 := n2_; have GW161 := n3_; have GE161 := n4_; have NB160_161 := n5_; have NB161_160 := n6_; clear n0_ n1_ n2_ n3_ n4_ n5_ n6_ hb hbox hg))
     have n0_ := ak_ (zd BK160.out)
     have n1_ := ak_ (zd BK161.out)
     have n2_ := ak_ (pe HB.out)
     clear BK160 BK161 HB
     have BK160 := n0_
     have BK161 := n1_
     have HB := n2_
     clear n0_ n1_ n2_
     refine start_ (n := 25) (S := fun w' => w'.cell? ⟨gb160, 0, none⟩ = some (.string a0_0) ∧ w'.cell? ⟨gb160, 1, none⟩ = some (.int .i64 a0_1) ∧ w'.cell? ⟨gb160, 2, none⟩ = some (.slice A0_2 l0_2.length c0_2) ∧ w'.cell? ⟨gb161, 0, none⟩ = some (.int .i64 a1_0) ∧ w'.cell? ⟨gb161, 1, none⟩ = some (.string a1_1) ∧ w'.cell? ⟨gb161, 2, none⟩ = some (.int .i64 a1_2) ∧ w'.cell? ⟨gb161, 3, none⟩ = some (.int .i64 a1_3) ∧ w'.cell? ⟨gb161, 4, none⟩ = some (.int .i64 a1_4) ∧ w'.cell? ⟨gb161, 5, none⟩ = some (.int .i64 a1_5) ∧ w'.cell? ⟨gb161, 6, none⟩ = some (.bool true) ∧ w'.cell? ⟨gb161, 7, none⟩ = some (.int .i64 a1_7) ∧ w'.cell? ⟨gb161, 8, none⟩ = some (.int .i64 a1_8)) (ds := []) #[false, false, false, false, false, false, false, false, false, false, false, false, false, false, false, false, false, false, false, false, false, false, false, false, false] (by kernel_rfl) rfl rfl ⟨(zc BK160.out 0).trans rfl, (zc BK160.out 1).trans rfl, (zc BK160.out 2).trans rfl, (zc BK161.out 0).trans rfl, (zc BK161.out 1).trans rfl, (zc BK161.out 2).trans rfl, (zc BK161.out 3).trans rfl, (zc BK161.out 4).trans rfl, (zc BK161.out 5).trans rfl, (zc BK161.out 6).trans rfl, (zc BK161.out 7).trans rfl, (zc BK161.out 8).trans rfl⟩ (fun hHeld => ?_); refine with_tabW saga_may.tab1 saga_may.bits1 (fun HT_ HW_ => ?_)
     generalize w8.drew = w9 at BK160 BK161 HB hHeld ⊢
     refine pure_ (i := 2) (N := some 9) (v := ?_) (a' := ?_) (b_ 25 4) rfl rfl (any_of HT_.out (by kernel_rfl)) (fun _ _ _ h => h) (Or.inl ⟨by rfl, ?_⟩) ?_ ?_; rotate_left; (· intro w'; go_simp; with_reducible rfl); rotate_left; (· simp only [Act.put, sa_, sz_, ss_, i64_w, i32_w]; rfl)
     refine take_ (i := 0) (N := some 7) (v := ?_) (a' := ?_) (b_ 25 5) rfl rfl (take_ofW HT_.out HW_.out (by kernel_rfl)) (fun _ _ _ h => h) (Or.inl ⟨by rfl, ?_⟩) hHeld ?_ ?_
     rotate_left
     · rintro w' ⟨s0, s1, s2, s3, s4, s5, s6, s7, s8, s9, s10, s11⟩
       go_simp
       with_reducible rfl
     rotate_left
     · simp only [Act.put, sa_, sz_, ss_, i64_w, i32_w]
       rfl
     refine take_ (i := 1) (N := some 8) (v := ?_) (a' := ?_) (b_ 25 7) rfl rfl (take_ofW HT_.out HW_.out (by kernel_rfl)) (fun _ _ _ h => h) (Or.inl ⟨by rfl, ?_⟩) hHeld ?_ ?_
     rotate_left
     · rintro w' ⟨s0, s1, s2, s3, s4, s5, s6, s7, s8, s9, s10, s11⟩
       go_simp
       with_reducible rfl
     rotate_left
     · simp only [Act.put, sa_, sz_, ss_, i64_w, i32_w]
       rfl
     refine one_ (i := 3) (N := some 10) (b_ 25 15) rfl rfl (one_of HT_.out (by kernel_rfl)) (by decide) (fun K hK => ?_)
     refine goes_ Tryd.func68 (by kernel_rfl) rfl #[.agg #[.string a0_0, .int .i64 a0_1, .slice A0_2 l0_2.length c0_2], .agg #[.int .i64 a1_0, .string a1_1, .int .i64 a1_2, .int .i64 a1_3, .int .i64 a1_4, .int .i64 a1_5, .bool true, .int .i64 a1_7, .int .i64 a1_8], .int .i64 a2] (by rfl) rfl rfl (by (try simp only [mt_, mc_, mn_]); first | done | rfl) ?_
     with_reducible refine (saga_ahead.calls a0_0 a0_1 _ _ l0_2 a1_0 a1_1 a1_2 a1_3 a1_4 a1_5 true a1_7 a1_8 a2 true _ ?side1 ?side2 A4.out).mono ?_
     (case side1 => repeat (first | exact (Kd.C_below HR0_2.out HB.out) | (with_reducible refine Kd.C_alloc ?_ _) | (with_reducible refine Kd.C_drewN ?_ _) | (with_reducible refine Kd.C_drew ?_)))
     (case side2 => exact HC0_2.out)
     rintro e w10 ⟨rfl, hb⟩
     refine ⟨_, rfl, ?_⟩
     have n0_ := ak_ (blk_below (g := gb160) (o := .cells #[.string a0_0, .int .i64 a0_1, .slice A0_2 l0_2.length c0_2] 24 (0, 0)) (by (with_reducible repeat (first | apply zn | apply zd | apply za)); exact BK160.out) hb)
     have n1_ := ak_ (blk_below (g := gb161) (o := .cells #[.int .i64 a1_0, .string a1_1, .int .i64 a1_2, .int .i64 a1_3, .int .i64 a1_4, .int .i64 a1_5, .bool true, .int .i64 a1_7, .int .i64 a1_8] 31 (0, 0)) (by (with_reducible repeat (first | apply zn | apply zd | apply za)); exact BK161.out) hb)
     have n2_ := ak_ (ps (by with_reducible repeat first | exact HB.out | apply pa | apply pd | apply pe | refine zs ?_ GE160.out | refine zs ?_ GE161.out) hb)
     clear BK160 BK161 HB
     have BK160 := n0_
     have BK161 := n1_
     have HB := n2_
     clear n0_ n1_ n2_
     (try clear hb hk hi)
     refine hK.out _ _ ⟨(zc BK160.out 0).trans rfl, (zc BK160.out 1).trans rfl, (zc BK160.out 2).trans rfl, (zc BK161.out 0).trans rfl, (zc BK161.out 1).trans rfl, (zc BK161.out 2).trans rfl, (zc BK161.out 3).trans rfl, (zc BK161.out 4).trans rfl, (zc BK161.out 5).trans rfl, (zc BK161.out 6).trans rfl, (zc BK161.out 7).trans rfl, (zc BK161.out 8).trans rfl⟩ (fun hHeld => ?_)
     clear hK K
     refine norm_ (a' := ?_) ?_ ?_
     rotate_left
     · show Act.put _ (some 10) _ = _
       simp only [Act.put, sa_, sz_, ss_, i64_w, i32_w]
       rfl
     refine pure_ (i := 4) (N := some 11) (v := ?_) (a' := ?_) (b_ 25 31) rfl rfl (any_of HT_.out (by kernel_rfl)) (fun _ _ _ h => h) (Or.inl ⟨by rfl, ?_⟩) ?_ ?_; rotate_left; (· intro w'; go_simp; with_reducible rfl); rotate_left; (· simp only [Act.put, sa_, sz_, ss_, i64_w, i32_w]; rfl)
     refine pure_ (i := 5) (N := some 12) (v := ?_) (a' := ?_) (b_ 25 63) rfl rfl (any_of HT_.out (by kernel_rfl)) (fun _ _ _ h => h) (Or.inl ⟨by rfl, ?_⟩) ?_ ?_; rotate_left; (· intro w'; go_simp; with_reducible rfl); rotate_left; (· simp only [Act.put, sa_, sz_, ss_, i64_w, i32_w]; rfl)
     refine take_ (i := 6) (N := some 13) (v := ?_) (a' := ?_) (b_ 25 127) rfl rfl (take_ofW HT_.out HW_.out (by kernel_rfl)) (fun _ _ _ h => h) (Or.inl ⟨by rfl, ?_⟩) hHeld ?_ ?_
     rotate_left
     · rintro w' ⟨s0, s1, s2, s3, s4, s5, s6, s7, s8, s9, s10, s11⟩
       go_simp
       with_reducible rfl
     rotate_left
     · simp only [Act.put, sa_, sz_, ss_, i64_w, i32_w]
       rfl
     refine pure_ (i := 7) (N := some 14) (v := ?_) (a' := ?_) (b_ 25 255) rfl rfl (any_of HT_.out (by kernel_rfl)) (fun _ _ _ h => h) (Or.inl ⟨by rfl, ?_⟩) ?_ ?_; rotate_left; (· intro w'; go_simp; with_reducible rfl); rotate_left; (· simp only [Act.put, sa_, sz_, ss_, i64_w, i32_w]; rfl)
     refine pure_ (i := 8) (N := some 15) (v := ?_) (a' := ?_) (b_ 25 511) rfl rfl (any_of HT_.out (by kernel_rfl)) (fun _ _ _ h => h) (Or.inl ⟨by rfl, ?_⟩) ?_ ?_; rotate_left; (· intro w'; go_simp; with_reducible rfl); rotate_left; (· simp only [Act.put, sa_, sz_, ss_, i64_w, i32_w]; rfl)
     refine pure_ (i := 9) (N := some 16) (v := ?_) (a' := ?_) (b_ 25 1023) rfl rfl (any_of HT_.out (by kernel_rfl)) (fun _ _ _ h => h) (Or.inl ⟨by rfl, ?_⟩) ?_ ?_; rotate_left; (· intro w'; go_simp; with_reducible rfl); rotate_left; (· simp only [Act.put, sa_, sz_, ss_, i64_w, i32_w]; rfl)
     refine pure_ (i := 10) (N := some 17) (v := undef) (a' := ?_) (b_ 25 2047) rfl rfl (any_of HT_.out (by kernel_rfl)) (fun _ _ _ h => h) (Or.inr ⟨by rfl, rfl⟩) ?_ ?_
     rotate_left
     · simp only [Act.put, sa_, sz_, ss_, i64_w, i32_w]
       rfl
     refine pure_ (i := 11) (N := some 18) (v := undef) (a' := ?_) (b_ 25 4095) rfl rfl (any_of HT_.out (by kernel_rfl)) (fun _ _ _ h => h) (Or.inr ⟨by rfl, rfl⟩) ?_ ?_
     rotate_left
     · simp only [Act.put, sa_, sz_, ss_, i64_w, i32_w]
       rfl
     refine pure_ (i := 12) (N := some 19) (v := undef) (a' := ?_) (b_ 25 8191) rfl rfl (any_of HT_.out (by kernel_rfl)) (fun _ _ _ h => h) (Or.inr ⟨by rfl, rfl⟩) ?_ ?_
     rotate_left
     · simp only [Act.put, sa_, sz_, ss_, i64_w, i32_w]
       rfl
     refine pure_ (i := 13) (N := some 20) (v := undef) (a' := ?_) (b_ 25 16383) rfl rfl (any_of HT_.out (by kernel_rfl)) (fun _ _ _ h => h) (Or.inr ⟨by rfl, rfl⟩) ?_ ?_
     rotate_left
     · simp only [Act.put, sa_, sz_, ss_, i64_w, i32_w]
       rfl
     refine pure_ (i := 14) (N := some 21) (v := ?_) (a' := ?_) (b_ 25 32767) rfl rfl (any_of HT_.out (by kernel_rfl)) (fun _ _ _ h => h) (Or.inl ⟨by rfl, ?_⟩) ?_ ?_; rotate_left; (· intro w'; go_simp; with_reducible rfl); rotate_left; (· simp only [Act.put, sa_, sz_, ss_, i64_w, i32_w]; rfl)
     refine pure_ (i := 15) (N := some 22) (v := ?_) (a' := ?_) (b_ 25 65535) rfl rfl (any_of HT_.out (by kernel_rfl)) (fun _ _ _ h => h) (Or.inl ⟨by rfl, ?_⟩) ?_ ?_; rotate_left; (· intro w'; go_simp; with_reducible rfl); rotate_left; (· simp only [Act.put, sa_, sz_, ss_, i64_w, i32_w]; rfl)
     refine pure_ (i := 16) (N := some 23) (v := undef) (a' := ?_) (b_ 25 131071) rfl rfl (any_of HT_.out (by kernel_rfl)) (fun _ _ _ h => h) (Or.inr ⟨by rfl, rfl⟩) ?_ ?_
     rotate_left
     · simp only [Act.put, sa_, sz_, ss_, i64_w, i32_w]
       rfl
     refine pure_ (i := 17) (N := some 24) (v := undef) (a' := ?_) (b_ 25 262143) rfl rfl (any_of HT_.out (by kernel_rfl)) (fun _ _ _ h => h) (Or.inr ⟨by rfl, rfl⟩) ?_ ?_
     rotate_left
     · simp only [Act.put, sa_, sz_, ss_, i64_w, i32_w]
       rfl
     refine pure_ (i := 18) (N := some 25) (v := undef) (a' := ?_) (b_ 25 524287) rfl rfl (any_of HT_.out (by kernel_rfl)) (fun _ _ _ h => h) (Or.inr ⟨by rfl, rfl⟩) ?_ ?_
     rotate_left
     · simp only [Act.put, sa_, sz_, ss_, i64_w, i32_w]
       rfl
     refine pure_ (i := 19) (N := some 26) (v := undef) (a' := ?_) (b_ 25 1048575) rfl rfl (any_of HT_.out (by kernel_rfl)) (fun _ _ _ h => h) (Or.inr ⟨by rfl, rfl⟩) ?_ ?_
     rotate_left
     · simp only [Act.put, sa_, sz_, ss_, i64_w, i32_w]
       rfl
     refine pure_ (i := 20) (N := some 27) (v := undef) (a' := ?_) (b_ 25 2097151) rfl rfl (any_of HT_.out (by kernel_rfl)) (fun _ _ _ h => h) (Or.inr ⟨by rfl, rfl⟩) ?_ ?_
     rotate_left
     · simp only [Act.put, sa_, sz_, ss_, i64_w, i32_w]
       rfl
     refine pure_ (i := 21) (N := some 28) (v := undef) (a' := ?_) (b_ 25 4194303) rfl rfl (any_of HT_.out (by kernel_rfl)) (fun _ _ _ h => h) (Or.inr ⟨by rfl, rfl⟩) ?_ ?_
     rotate_left
     · simp only [Act.put, sa_, sz_, ss_, i64_w, i32_w]
       rfl
     refine pure_ (i := 22) (N := some 29) (v := undef) (a' := ?_) (b_ 25 8388607) rfl rfl (any_of HT_.out (by kernel_rfl)) (fun _ _ _ h => h) (Or.inr ⟨by rfl, rfl⟩) ?_ ?_
     rotate_left
     · simp only [Act.put, sa_, sz_, ss_, i64_w, i32_w]
       rfl
     refine pure_ (i := 23) (N := some 30) (v := ?_) (a' := ?_) (b_ 25 16777215) rfl rfl (any_of HT_.out (by kernel_rfl)) (fun _ _ _ h => h) (Or.inl ⟨by rfl, ?_⟩) ?_ ?_; rotate_left; (· intro w'; go_simp; with_reducible rfl); rotate_left; (· simp only [Act.put, sa_, sz_, ss_, i64_w, i32_w]; rfl)
     refine pure_ (i := 24) (N := some 6) (v := ?_) (a' := ?_) (b_ 25 33554431) rfl rfl (any_of HT_.out (by kernel_rfl)) (fun _ _ _ h => h) (Or.inl ⟨by rfl, ?_⟩) ?_ ?_; rotate_left; (· intro w'; go_simp; with_reducible rfl); rotate_left; (· simp only [Act.put, sa_, sz_, ss_, i64_w, i32_w]; rfl)
     refine done_ (done_of HT_.out (by kernel_rfl)) ?_
     try go_wp2
     go_ret
     exact ⟨by first | rfl | simp [*], by repeat (first | (with_reducible first | exact HB.out | apply pa | apply pd | apply pe | refine zs ?_ GE160.out | refine zs ?_ GE161.out) | exact HB.out)⟩
   replace c6 := Bool.eq_false_iff.mpr c6
   subst c6
   have H1 : ((tick_Due.f a2 a1_7).bind fun t163 => (if t163 = true then ((saga_plan.f a0_0 a0_1 l0_2 a1_0 a1_1 a1_2 a1_3 a1_4 a1_5 false a1_7 a1_8).bind fun bt164 => ((backoff_Left.f bt164.1 bt164.2.1 bt164.2.2.1 bt164.2.2.2 a1_5).bind fun t168 => (some (decide (t168 > 0))))) else (some false))) = some r := by rw [if_neg (show ¬ (false = true) by decide)] at H; exact H
   clear H
   have H := H1
   clear H1
   replace H := ob_ H
   obtain ⟨t163, A110, H⟩ := H
   replace H : (if t163 = true then ((saga_plan.f a0_0 a0_1 l0_2 a1_0 a1_1 a1_2 a1_3 a1_4 a1_5 false a1_7 a1_8).bind fun bt164 => ((backoff_Left.f bt164.1 bt164.2.1 bt164.2.2.1 bt164.2.2.2 a1_5).bind fun t168 => (some (decide (t168 > 0))))) else (some false)) = some r := H
   have A11 := ak_ A110
   clear A110
   by_cases c12 : t163 = true
   · subst c12
     have H1 : ((saga_plan.f a0_0 a0_1 l0_2 a1_0 a1_1 a1_2 a1_3 a1_4 a1_5 false a1_7 a1_8).bind fun bt164 => ((backoff_Left.f bt164.1 bt164.2.1 bt164.2.2.1 bt164.2.2.2 a1_5).bind fun t168 => (some (decide (t168 > 0))))) = some r := by rw [if_pos rfl] at H; exact H
     clear H
     have H := H1
     clear H1
     replace H := ob_ H
     obtain ⟨⟨t164, t165, t166, t167⟩, A130, H⟩ := H
     replace H : ((backoff_Left.f t164 t165 t166 t167 a1_5).bind fun t168 => (some (decide (t168 > 0)))) = some r := H
     have A13 := ak_ A130
     clear A130
     replace H := ob_ H
     obtain ⟨t168, A140, H⟩ := H
     replace H : (some (decide (t168 > 0))) = some r := H
     have A14 := ak_ A140
     clear A140
     obtain rfl := Option.some.inj H
     go_enter Tryd.func35, Tryd.ntmps35
     try go_wp2_with (first | ((with_reducible refine gate_dst (N := 3) rfl ?_); refine box_event ?hg (N := 3) ?hd (cs := #[.string a0_0, .int .i64 a0_1, .slice A0_2 l0_2.length c0_2]) (t := 24) ?hr ?_; (case hd | hg => rfl); (case hr => first | (go_simp; done) | (go_simp; rfl)); intro gb160 hg w15 hbox hb; have n0_ := ak_ (ps (by with_reducible repeat first | exact HB.out | apply pa | apply pd | apply pe) hb); have n1_ := ak_ (hbox); have n2_ := ak_ ((by rw [hg]; exact (below_size (by with_reducible repeat first | exact HB.out | apply pa | apply pd | apply pe)) : w.heap.size ≤ gb160)); have n3_ := ak_ ((by rw [hg]; exact (below_size (by with_reducible repeat first | exact HB.out | apply pa | apply pd | apply pe)) : w.heap.size ≤ gb160)); clear HB; have HB := n0_; have BK160 := n1_; have GW160 := n2_; have GE160 := n3_; clear n0_ n1_ n2_ n3_ hb hbox hg) | ((with_reducible refine gate_dst (N := 4) rfl ?_); refine box_event ?hg (N := 4) ?hd (cs := #[.int .i64 a1_0, .string a1_1, .int .i64 a1_2, .int .i64 a1_3, .int .i64 a1_4, .int .i64 a1_5, .bool false, .int .i64 a1_7, .int .i64 a1_8]) (t := 31) ?hr ?_; (case hd | hg => rfl); (case hr => first | (go_simp; done) | (go_simp; rfl)); intro gb161 hg w16 hbox hb; have n0_ := ak_ (blk_below (g := gb160) (o := .cells #[.string a0_0, .int .i64 a0_1, .slice A0_2 l0_2.length c0_2] 24 (0, 0)) (by (with_reducible repeat (first | apply zn | apply zd | apply za)); exact BK160.out) hb); have n1_ := ak_ (ps (by with_reducible repeat first | exact HB.out | apply pa | apply pd | apply pe | refine zs ?_ GE160.out) hb); have n2_ := ak_ (hbox); have n3_ := ak_ ((by rw [hg]; exact (below_size (by with_reducible repeat first | exact HB.out | apply pa | apply pd | apply pe | refine zs ?_ GE160.out)) : w.heap.size ≤ gb161)); have n4_ := ak_ ((by rw [hg]; exact (below_size (by with_reducible repeat first | exact HB.out | apply pa | apply pd | apply pe | refine zs ?_ GE160.out)) : w.heap.size ≤ gb161)); have n5_ := ak_ ((by rw [hg]; exact Nat.ne_of_lt (blk_lt (g := gb160) (by (with_reducible repeat (first | apply zn | apply zd | apply za)); exact BK160.out)) : gb160 ≠ gb161)); have n6_ := ak_ ((by rw [hg]; exact Nat.ne_of_gt (blk_lt (g := gb160) (by (with_reducible repeat (first | apply zn | apply zd | apply za)); exact BK160.out)) : gb161 ≠ gb160)); clear BK160 HB; have BK160 := n0_; have HB := n1_; have BK161 := n2_; have GW161 := n3_; have GE161 := n4_; have NB160_161 := n5_; have NB161_160 := n6_; clear n0_ n1_ n2_ n3_ n4_ n5_ n6_ hb hbox hg))
     have n0_ := ak_ (zd BK160.out)
     have n1_ := ak_ (zd BK161.out)
     have n2_ := ak_ (pe HB.out)
     clear BK160 BK161 HB
     have BK160 := n0_
     have BK161 := n1_
     have HB := n2_
     clear n0_ n1_ n2_
     refine start_ (n := 25) (S := fun w' => w'.cell? ⟨gb160, 0, none⟩ = some (.string a0_0) ∧ w'.cell? ⟨gb160, 1, none⟩ = some (.int .i64 a0_1) ∧ w'.cell? ⟨gb160, 2, none⟩ = some (.slice A0_2 l0_2.length c0_2) ∧ w'.cell? ⟨gb161, 0, none⟩ = some (.int .i64 a1_0) ∧ w'.cell? ⟨gb161, 1, none⟩ = some (.string a1_1) ∧ w'.cell? ⟨gb161, 2, none⟩ = some (.int .i64 a1_2) ∧ w'.cell? ⟨gb161, 3, none⟩ = some (.int .i64 a1_3) ∧ w'.cell? ⟨gb161, 4, none⟩ = some (.int .i64 a1_4) ∧ w'.cell? ⟨gb161, 5, none⟩ = some (.int .i64 a1_5) ∧ w'.cell? ⟨gb161, 6, none⟩ = some (.bool false) ∧ w'.cell? ⟨gb161, 7, none⟩ = some (.int .i64 a1_7) ∧ w'.cell? ⟨gb161, 8, none⟩ = some (.int .i64 a1_8)) (ds := []) #[false, false, false, false, false, false, false, false, false, false, false, false, false, false, false, false, false, false, false, false, false, false, false, false, false] (by kernel_rfl) rfl rfl ⟨(zc BK160.out 0).trans rfl, (zc BK160.out 1).trans rfl, (zc BK160.out 2).trans rfl, (zc BK161.out 0).trans rfl, (zc BK161.out 1).trans rfl, (zc BK161.out 2).trans rfl, (zc BK161.out 3).trans rfl, (zc BK161.out 4).trans rfl, (zc BK161.out 5).trans rfl, (zc BK161.out 6).trans rfl, (zc BK161.out 7).trans rfl, (zc BK161.out 8).trans rfl⟩ (fun hHeld => ?_); refine with_tabW saga_may.tab1 saga_may.bits1 (fun HT_ HW_ => ?_)
     generalize w16.drew = w17 at BK160 BK161 HB hHeld ⊢
     refine pure_ (i := 2) (N := some 9) (v := ?_) (a' := ?_) (b_ 25 4) rfl rfl (any_of HT_.out (by kernel_rfl)) (fun _ _ _ h => h) (Or.inl ⟨by rfl, ?_⟩) ?_ ?_; rotate_left; (· intro w'; go_simp; with_reducible rfl); rotate_left; (· simp only [Act.put, sa_, sz_, ss_, i64_w, i32_w]; rfl)
     refine take_ (i := 0) (N := some 7) (v := ?_) (a' := ?_) (b_ 25 5) rfl rfl (take_ofW HT_.out HW_.out (by kernel_rfl)) (fun _ _ _ h => h) (Or.inl ⟨by rfl, ?_⟩) hHeld ?_ ?_
     rotate_left
     · rintro w' ⟨s0, s1, s2, s3, s4, s5, s6, s7, s8, s9, s10, s11⟩
       go_simp
       with_reducible rfl
     rotate_left
     · simp only [Act.put, sa_, sz_, ss_, i64_w, i32_w]
       rfl
     refine take_ (i := 1) (N := some 8) (v := ?_) (a' := ?_) (b_ 25 7) rfl rfl (take_ofW HT_.out HW_.out (by kernel_rfl)) (fun _ _ _ h => h) (Or.inl ⟨by rfl, ?_⟩) hHeld ?_ ?_
     rotate_left
     · rintro w' ⟨s0, s1, s2, s3, s4, s5, s6, s7, s8, s9, s10, s11⟩
       go_simp
       with_reducible rfl
     rotate_left
     · simp only [Act.put, sa_, sz_, ss_, i64_w, i32_w]
       rfl
     refine one_ (i := 3) (N := some 10) (b_ 25 15) rfl rfl (one_of HT_.out (by kernel_rfl)) (by decide) (fun K hK => ?_)
     refine goes_ Tryd.func68 (by kernel_rfl) rfl #[.agg #[.string a0_0, .int .i64 a0_1, .slice A0_2 l0_2.length c0_2], .agg #[.int .i64 a1_0, .string a1_1, .int .i64 a1_2, .int .i64 a1_3, .int .i64 a1_4, .int .i64 a1_5, .bool false, .int .i64 a1_7, .int .i64 a1_8], .int .i64 a2] (by rfl) rfl rfl (by (try simp only [mt_, mc_, mn_]); first | done | rfl) ?_
     with_reducible refine (saga_ahead.calls a0_0 a0_1 _ _ l0_2 a1_0 a1_1 a1_2 a1_3 a1_4 a1_5 false a1_7 a1_8 a2 true _ ?side1 ?side2 A4.out).mono ?_
     (case side1 => repeat (first | exact (Kd.C_below HR0_2.out HB.out) | (with_reducible refine Kd.C_alloc ?_ _) | (with_reducible refine Kd.C_drewN ?_ _) | (with_reducible refine Kd.C_drew ?_)))
     (case side2 => exact HC0_2.out)
     rintro e w18 ⟨rfl, hb⟩
     refine ⟨_, rfl, ?_⟩
     have n0_ := ak_ (blk_below (g := gb160) (o := .cells #[.string a0_0, .int .i64 a0_1, .slice A0_2 l0_2.length c0_2] 24 (0, 0)) (by (with_reducible repeat (first | apply zn | apply zd | apply za)); exact BK160.out) hb)
     have n1_ := ak_ (blk_below (g := gb161) (o := .cells #[.int .i64 a1_0, .string a1_1, .int .i64 a1_2, .int .i64 a1_3, .int .i64 a1_4, .int .i64 a1_5, .bool false, .int .i64 a1_7, .int .i64 a1_8] 31 (0, 0)) (by (with_reducible repeat (first | apply zn | apply zd | apply za)); exact BK161.out) hb)
     have n2_ := ak_ (ps (by with_reducible repeat first | exact HB.out | apply pa | apply pd | apply pe | refine zs ?_ GE160.out | refine zs ?_ GE161.out) hb)
     clear BK160 BK161 HB
     have BK160 := n0_
     have BK161 := n1_
     have HB := n2_
     clear n0_ n1_ n2_
     (try clear hb hk hi)
     refine hK.out _ _ ⟨(zc BK160.out 0).trans rfl, (zc BK160.out 1).trans rfl, (zc BK160.out 2).trans rfl, (zc BK161.out 0).trans rfl, (zc BK161.out 1).trans rfl, (zc BK161.out 2).trans rfl, (zc BK161.out 3).trans rfl, (zc BK161.out 4).trans rfl, (zc BK161.out 5).trans rfl, (zc BK161.out 6).trans rfl, (zc BK161.out 7).trans rfl, (zc BK161.out 8).trans rfl⟩ (fun hHeld => ?_)
     clear hK K
     refine norm_ (a' := ?_) ?_ ?_
     rotate_left
     · show Act.put _ (some 10) _ = _
       simp only [Act.put, sa_, sz_, ss_, i64_w, i32_w]
       rfl
     refine pure_ (i := 4) (N := some 11) (v := ?_) (a' := ?_) (b_ 25 31) rfl rfl (any_of HT_.out (by kernel_rfl)) (fun _ _ _ h => h) (Or.inl ⟨by rfl, ?_⟩) ?_ ?_; rotate_left; (· intro w'; go_simp; with_reducible rfl); rotate_left; (· simp only [Act.put, sa_, sz_, ss_, i64_w, i32_w]; rfl)
     refine pure_ (i := 5) (N := some 12) (v := ?_) (a' := ?_) (b_ 25 63) rfl rfl (any_of HT_.out (by kernel_rfl)) (fun _ _ _ h => h) (Or.inl ⟨by rfl, ?_⟩) ?_ ?_; rotate_left; (· intro w'; go_simp; with_reducible rfl); rotate_left; (· simp only [Act.put, sa_, sz_, ss_, i64_w, i32_w]; rfl)
     refine take_ (i := 6) (N := some 13) (v := ?_) (a' := ?_) (b_ 25 127) rfl rfl (take_ofW HT_.out HW_.out (by kernel_rfl)) (fun _ _ _ h => h) (Or.inl ⟨by rfl, ?_⟩) hHeld ?_ ?_
     rotate_left
     · rintro w' ⟨s0, s1, s2, s3, s4, s5, s6, s7, s8, s9, s10, s11⟩
       go_simp
       with_reducible rfl
     rotate_left
     · simp only [Act.put, sa_, sz_, ss_, i64_w, i32_w]
       rfl
     refine pure_ (i := 7) (N := some 14) (v := ?_) (a' := ?_) (b_ 25 255) rfl rfl (any_of HT_.out (by kernel_rfl)) (fun _ _ _ h => h) (Or.inl ⟨by rfl, ?_⟩) ?_ ?_; rotate_left; (· intro w'; go_simp; with_reducible rfl); rotate_left; (· simp only [Act.put, sa_, sz_, ss_, i64_w, i32_w]; rfl)
     refine pure_ (i := 8) (N := some 15) (v := ?_) (a' := ?_) (b_ 25 511) rfl rfl (any_of HT_.out (by kernel_rfl)) (fun _ _ _ h => h) (Or.inl ⟨by rfl, ?_⟩) ?_ ?_; rotate_left; (· intro w'; go_simp; with_reducible rfl); rotate_left; (· simp only [Act.put, sa_, sz_, ss_, i64_w, i32_w]; rfl)
     refine pure_ (i := 9) (N := some 16) (v := ?_) (a' := ?_) (b_ 25 1023) rfl rfl (any_of HT_.out (by kernel_rfl)) (fun _ _ _ h => h) (Or.inl ⟨by rfl, ?_⟩) ?_ ?_; rotate_left; (· intro w'; go_simp; with_reducible rfl); rotate_left; (· simp only [Act.put, sa_, sz_, ss_, i64_w, i32_w]; rfl)
     refine pure_ (i := 10) (N := some 17) (v := ?_) (a' := ?_) (b_ 25 2047) rfl rfl (any_of HT_.out (by kernel_rfl)) (fun _ _ _ h => h) (Or.inl ⟨by rfl, ?_⟩) ?_ ?_; rotate_left; (· intro w'; go_simp; with_reducible rfl); rotate_left; (· simp only [Act.put, sa_, sz_, ss_, i64_w, i32_w]; rfl)
     refine pure_ (i := 11) (N := some 18) (v := ?_) (a' := ?_) (b_ 25 4095) rfl rfl (any_of HT_.out (by kernel_rfl)) (fun _ _ _ h => h) (Or.inl ⟨by rfl, ?_⟩) ?_ ?_; rotate_left; (· intro w'; go_simp; with_reducible rfl); rotate_left; (· simp only [Act.put, sa_, sz_, ss_, i64_w, i32_w]; rfl)
     refine take_ (i := 12) (N := some 19) (v := ?_) (a' := ?_) (b_ 25 8191) rfl rfl (take_ofW HT_.out HW_.out (by kernel_rfl)) (fun _ _ _ h => h) (Or.inl ⟨by rfl, ?_⟩) hHeld ?_ ?_
     rotate_left
     · rintro w' ⟨s0, s1, s2, s3, s4, s5, s6, s7, s8, s9, s10, s11⟩
       go_simp
       with_reducible rfl
     rotate_left
     · simp only [Act.put, sa_, sz_, ss_, i64_w, i32_w]
       rfl
     refine one_ (i := 13) (N := some 20) (b_ 25 16383) rfl rfl (one_of HT_.out (by kernel_rfl)) (by decide) (fun K hK => ?_)
     refine goes_ Tryd.func63 (by kernel_rfl) rfl #[.int .i64 a2, .int .i64 a1_7] (by rfl) rfl rfl (by (try simp only [mt_, mc_, mn_]); first | done | rfl) ?_
     with_reducible refine (tick_Due.calls a2 a1_7 true _ A11.out).mono ?_
     rintro e w19 ⟨rfl, hb⟩
     refine ⟨_, rfl, ?_⟩
     have n0_ := ak_ (blk_below (g := gb160) (o := .cells #[.string a0_0, .int .i64 a0_1, .slice A0_2 l0_2.length c0_2] 24 (0, 0)) (by (with_reducible repeat (first | apply zn | apply zd | apply za)); exact BK160.out) hb)
     have n1_ := ak_ (blk_below (g := gb161) (o := .cells #[.int .i64 a1_0, .string a1_1, .int .i64 a1_2, .int .i64 a1_3, .int .i64 a1_4, .int .i64 a1_5, .bool false, .int .i64 a1_7, .int .i64 a1_8] 31 (0, 0)) (by (with_reducible repeat (first | apply zn | apply zd | apply za)); exact BK161.out) hb)
     have n2_ := ak_ (ps (by with_reducible repeat first | exact HB.out | apply pa | apply pd | apply pe | refine zs ?_ GE160.out | refine zs ?_ GE161.out) hb)
     clear BK160 BK161 HB
     have BK160 := n0_
     have BK161 := n1_
     have HB := n2_
     clear n0_ n1_ n2_
     (try clear hb hk hi)
     refine hK.out _ _ ⟨(zc BK160.out 0).trans rfl, (zc BK160.out 1).trans rfl, (zc BK160.out 2).trans rfl, (zc BK161.out 0).trans rfl, (zc BK161.out 1).trans rfl, (zc BK161.out 2).trans rfl, (zc BK161.out 3).trans rfl, (zc BK161.out 4).trans rfl, (zc BK161.out 5).trans rfl, (zc BK161.out 6).trans rfl, (zc BK161.out 7).trans rfl, (zc BK161.out 8).trans rfl⟩ (fun hHeld => ?_)
     clear hK K
     refine norm_ (a' := ?_) ?_ ?_
     rotate_left
     · show Act.put _ (some 20) _ = _
       simp only [Act.put, sa_, sz_, ss_, i64_w, i32_w]
       rfl
     refine pure_ (i := 14) (N := some 21) (v := ?_) (a' := ?_) (b_ 25 32767) rfl rfl (any_of HT_.out (by kernel_rfl)) (fun _ _ _ h => h) (Or.inl ⟨by rfl, ?_⟩) ?_ ?_; rotate_left; (· intro w'; go_simp; with_reducible rfl); rotate_left; (· simp only [Act.put, sa_, sz_, ss_, i64_w, i32_w]; rfl)
     refine pure_ (i := 15) (N := some 22) (v := ?_) (a' := ?_) (b_ 25 65535) rfl rfl (any_of HT_.out (by kernel_rfl)) (fun _ _ _ h => h) (Or.inl ⟨by rfl, ?_⟩) ?_ ?_; rotate_left; (· intro w'; go_simp; with_reducible rfl); rotate_left; (· simp only [Act.put, sa_, sz_, ss_, i64_w, i32_w]; rfl)
     refine pure_ (i := 19) (N := some 26) (v := ?_) (a' := ?_) (b_ 25 589823) rfl rfl (any_of HT_.out (by kernel_rfl)) (fun _ _ _ h => h) (Or.inl ⟨by rfl, ?_⟩) ?_ ?_; rotate_left; (· intro w'; go_simp; with_reducible rfl); rotate_left; (· simp only [Act.put, sa_, sz_, ss_, i64_w, i32_w]; rfl)
     refine take_ (i := 16) (N := some 23) (v := ?_) (a' := ?_) (b_ 25 655359) rfl rfl (take_ofW HT_.out HW_.out (by kernel_rfl)) (fun _ _ _ h => h) (Or.inl ⟨by rfl, ?_⟩) hHeld ?_ ?_
     rotate_left
     · rintro w' ⟨s0, s1, s2, s3, s4, s5, s6, s7, s8, s9, s10, s11⟩
       go_simp
       with_reducible rfl
     rotate_left
     · simp only [Act.put, sa_, sz_, ss_, i64_w, i32_w]
       rfl
     refine take_ (i := 17) (N := some 24) (v := ?_) (a' := ?_) (b_ 25 786431) rfl rfl (take_ofW HT_.out HW_.out (by kernel_rfl)) (fun _ _ _ h => h) (Or.inl ⟨by rfl, ?_⟩) hHeld ?_ ?_
     rotate_left
     · rintro w' ⟨s0, s1, s2, s3, s4, s5, s6, s7, s8, s9, s10, s11⟩
       go_simp
       with_reducible rfl
     rotate_left
     · simp only [Act.put, sa_, sz_, ss_, i64_w, i32_w]
       rfl
     refine take_ (i := 20) (N := some 27) (v := ?_) (a' := ?_) (b_ 25 1835007) rfl rfl (take_ofW HT_.out HW_.out (by kernel_rfl)) (fun _ _ _ h => h) (Or.inl ⟨by rfl, ?_⟩) hHeld ?_ ?_
     rotate_left
     · rintro w' ⟨s0, s1, s2, s3, s4, s5, s6, s7, s8, s9, s10, s11⟩
       go_simp
       with_reducible rfl
     rotate_left
     · simp only [Act.put, sa_, sz_, ss_, i64_w, i32_w]
       rfl
     refine one_ (i := 18) (N := some 25) (b_ 25 2097151) rfl rfl (one_of HT_.out (by kernel_rfl)) (by decide) (fun K hK => ?_)
     refine goes_ Tryd.func56 (by kernel_rfl) rfl #[.agg #[.string a0_0, .int .i64 a0_1, .slice A0_2 l0_2.length c0_2], .agg #[.int .i64 a1_0, .string a1_1, .int .i64 a1_2, .int .i64 a1_3, .int .i64 a1_4, .int .i64 a1_5, .bool false, .int .i64 a1_7, .int .i64 a1_8]] (by rfl) rfl rfl (by (try simp only [mt_, mc_, mn_]); first | done | rfl) ?_
     with_reducible refine (saga_plan.calls a0_0 a0_1 _ _ l0_2 a1_0 a1_1 a1_2 a1_3 a1_4 a1_5 false a1_7 a1_8 t164 t165 t166 t167 _ ?side1 ?side2 A13.out).mono ?_
     (case side1 => repeat (first | exact (Kd.C_below HR0_2.out HB.out) | (with_reducible refine Kd.C_alloc ?_ _) | (with_reducible refine Kd.C_drewN ?_ _) | (with_reducible refine Kd.C_drew ?_)))
     (case side2 => exact HC0_2.out)
     rintro e w20 ⟨rfl, hb⟩
     refine ⟨_, rfl, ?_⟩
     have n0_ := ak_ (blk_below (g := gb160) (o := .cells #[.string a0_0, .int .i64 a0_1, .slice A0_2 l0_2.length c0_2] 24 (0, 0)) (by (with_reducible repeat (first | apply zn | apply zd | apply za)); exact BK160.out) hb)
     have n1_ := ak_ (blk_below (g := gb161) (o := .cells #[.int .i64 a1_0, .string a1_1, .int .i64 a1_2, .int .i64 a1_3, .int .i64 a1_4, .int .i64 a1_5, .bool false, .int .i64 a1_7, .int .i64 a1_8] 31 (0, 0)) (by (with_reducible repeat (first | apply zn | apply zd | apply za)); exact BK161.out) hb)
     have n2_ := ak_ (ps (by with_reducible repeat first | exact HB.out | apply pa | apply pd | apply pe | refine zs ?_ GE160.out | refine zs ?_ GE161.out) hb)
     clear BK160 BK161 HB
     have BK160 := n0_
     have BK161 := n1_
     have HB := n2_
     clear n0_ n1_ n2_
     (try clear hb hk hi)
     refine hK.out _ _ ⟨(zc BK160.out 0).trans rfl, (zc BK160.out 1).trans rfl, (zc BK160.out 2).trans rfl, (zc BK161.out 0).trans rfl, (zc BK161.out 1).trans rfl, (zc BK161.out 2).trans rfl, (zc BK161.out 3).trans rfl, (zc BK161.out 4).trans rfl, (zc BK161.out 5).trans rfl, (zc BK161.out 6).trans rfl, (zc BK161.out 7).trans rfl, (zc BK161.out 8).trans rfl⟩ (fun hHeld => ?_)
     clear hK K
     refine norm_ (a' := ?_) ?_ ?_
     rotate_left
     · show Act.put _ (some 25) _ = _
       simp only [Act.put, sa_, sz_, ss_, i64_w, i32_w]
       rfl
     refine one_ (i := 21) (N := some 28) (b_ 25 4194303) rfl rfl (one_of HT_.out (by kernel_rfl)) (by decide) (fun K hK => ?_)
     refine goes_ Tryd.func55 (by kernel_rfl) rfl #[.agg #[.int .i64 t164, .int .i64 t165, .int .i64 t166, .int .i64 t167], .int .i64 a1_5] (by rfl) rfl rfl (by (try simp only [mt_, mc_, mn_]); first | done | rfl) ?_
     with_reducible refine (backoff_Left.calls t164 t165 t166 t167 a1_5 t168 _ A14.out).mono ?_
     rintro e w21 ⟨rfl, hb⟩
     refine ⟨_, rfl, ?_⟩
     have n0_ := ak_ (blk_below (g := gb160) (o := .cells #[.string a0_0, .int .i64 a0_1, .slice A0_2 l0_2.length c0_2] 24 (0, 0)) (by (with_reducible repeat (first | apply zn | apply zd | apply za)); exact BK160.out) hb)
     have n1_ := ak_ (blk_below (g := gb161) (o := .cells #[.int .i64 a1_0, .string a1_1, .int .i64 a1_2, .int .i64 a1_3, .int .i64 a1_4, .int .i64 a1_5, .bool false, .int .i64 a1_7, .int .i64 a1_8] 31 (0, 0)) (by (with_reducible repeat (first | apply zn | apply zd | apply za)); exact BK161.out) hb)
     have n2_ := ak_ (ps (by with_reducible repeat first | exact HB.out | apply pa | apply pd | apply pe | refine zs ?_ GE160.out | refine zs ?_ GE161.out) hb)
     clear BK160 BK161 HB
     have BK160 := n0_
     have BK161 := n1_
     have HB := n2_
     clear n0_ n1_ n2_
     (try clear hb hk hi)
     refine hK.out _ _ ⟨(zc BK160.out 0).trans rfl, (zc BK160.out 1).trans rfl, (zc BK160.out 2).trans rfl, (zc BK161.out 0).trans rfl, (zc BK161.out 1).trans rfl, (zc BK161.out 2).trans rfl, (zc BK161.out 3).trans rfl, (zc BK161.out 4).trans rfl, (zc BK161.out 5).trans rfl, (zc BK161.out 6).trans rfl, (zc BK161.out 7).trans rfl, (zc BK161.out 8).trans rfl⟩ (fun hHeld => ?_)
     clear hK K
     refine norm_ (a' := ?_) ?_ ?_
     rotate_left
     · show Act.put _ (some 28) _ = _
       simp only [Act.put, sa_, sz_, ss_, i64_w, i32_w]
       rfl
     refine pure_ (i := 22) (N := some 29) (v := ?_) (a' := ?_) (b_ 25 8388607) rfl rfl (any_of HT_.out (by kernel_rfl)) (fun _ _ _ h => h) (Or.inl ⟨by rfl, ?_⟩) ?_ ?_; rotate_left; (· intro w'; go_simp; with_reducible rfl); rotate_left; (· simp only [Act.put, sa_, sz_, ss_, i64_w, i32_w]; rfl)
     refine pure_ (i := 23) (N := some 30) (v := ?_) (a' := ?_) (b_ 25 16777215) rfl rfl (any_of HT_.out (by kernel_rfl)) (fun _ _ _ h => h) (Or.inl ⟨by rfl, ?_⟩) ?_ ?_; rotate_left; (· intro w'; go_simp; with_reducible rfl); rotate_left; (· simp only [Act.put, sa_, sz_, ss_, i64_w, i32_w]; rfl)
     refine pure_ (i := 24) (N := some 6) (v := ?_) (a' := ?_) (b_ 25 33554431) rfl rfl (any_of HT_.out (by kernel_rfl)) (fun _ _ _ h => h) (Or.inl ⟨by rfl, ?_⟩) ?_ ?_; rotate_left; (· intro w'; go_simp; with_reducible rfl); rotate_left; (· simp only [Act.put, sa_, sz_, ss_, i64_w, i32_w]; rfl)
     refine done_ (done_of HT_.out (by kernel_rfl)) ?_
     try go_wp2
     go_ret
     exact ⟨by first | rfl | simp [*], by repeat (first | (with_reducible first | exact HB.out | apply pa | apply pd | apply pe | refine zs ?_ GE160.out | refine zs ?_ GE161.out) | exact HB.out)⟩
   replace c12 := Bool.eq_false_iff.mpr c12
   subst c12
   have H1 : (some false) = some r := by rw [if_neg (show ¬ (false = true) by decide)] at H; exact H
   clear H
   have H := H1
   clear H1
   obtain rfl := Option.some.inj H
   go_enter Tryd.func35, Tryd.ntmps35
   try go_wp2_with (first | ((with_reducible refine gate_dst (N := 3) rfl ?_); refine box_event ?hg (N := 3) ?hd (cs := #[.string a0_0, .int .i64 a0_1, .slice A0_2 l0_2.length c0_2]) (t := 24) ?hr ?_; (case hd | hg => rfl); (case hr => first | (go_simp; done) | (go_simp; rfl)); intro gb160 hg w22 hbox hb; have n0_ := ak_ (ps (by with_reducible repeat first | exact HB.out | apply pa | apply pd | apply pe) hb); have n1_ := ak_ (hbox); have n2_ := ak_ ((by rw [hg]; exact (below_size (by with_reducible repeat first | exact HB.out | apply pa | apply pd | apply pe)) : w.heap.size ≤ gb160)); have n3_ := ak_ ((by rw [hg]; exact (below_size (by with_reducible repeat first | exact HB.out | apply pa | apply pd | apply pe)) : w.heap.size ≤ gb160)); clear HB; have HB := n0_; have BK160 := n1_; have GW160 := n2_; have GE160 := n3_; clear n0_ n1_ n2_ n3_ hb hbox hg) | ((with_reducible refine gate_dst (N := 4) rfl ?_); refine box_event ?hg (N := 4) ?hd (cs := #[.int .i64 a1_0, .string a1_1, .int .i64 a1_2, .int .i64 a1_3, .int .i64 a1_4, .int .i64 a1_5, .bool false, .int .i64 a1_7, .int .i64 a1_8]) (t := 31) ?hr ?_; (case hd | hg => rfl); (case hr => first | (go_simp; done) | (go_simp; rfl)); intro gb161 hg w23 hbox hb; have n0_ := ak_ (blk_below (g := gb160) (o := .cells #[.string a0_0, .int .i64 a0_1, .slice A0_2 l0_2.length c0_2] 24 (0, 0)) (by (with_reducible repeat (first | apply zn | apply zd | apply za)); exact BK160.out) hb); have n1_ := ak_ (ps (by with_reducible repeat first | exact HB.out | apply pa | apply pd | apply pe | refine zs ?_ GE160.out) hb); have n2_ := ak_ (hbox); have n3_ := ak_ ((by rw [hg]; exact (below_size (by with_reducible repeat first | exact HB.out | apply pa | apply pd | apply pe | refine zs ?_ GE160.out)) : w.heap.size ≤ gb161)); have n4_ := ak_ ((by rw [hg]; exact (below_size (by with_reducible repeat first | exact HB.out | apply pa | apply pd | apply pe | refine zs ?_ GE160.out)) : w.heap.size ≤ gb161)); have n5_ := ak_ ((by rw [hg]; exact Nat.ne_of_lt (blk_lt (g := gb160) (by (with_reducible repeat (first | apply zn | apply zd | apply za)); exact BK160.out)) : gb160 ≠ gb161)); have n6_ := ak_ ((by rw [hg]; exact Nat.ne_of_gt (blk_lt (g := gb160) (by (with_reducible repeat (first | apply zn | apply zd | apply za)); exact BK160.out)) : gb161 ≠ gb160)); clear BK160 HB; have BK160 := n0_; have HB := n1_; have BK161 := n2_; have GW161 := n3_; have GE161 := n4_; have NB160_161 := n5_; have NB161_160 := n6_; clear n0_ n1_ n2_ n3_ n4_ n5_ n6_ hb hbox hg))
   have n0_ := ak_ (zd BK160.out)
   have n1_ := ak_ (zd BK161.out)
   have n2_ := ak_ (pe HB.out)
   clear BK160 BK161 HB
   have BK160 := n0_
   have BK161 := n1_
   have HB := n2_
   clear n0_ n1_ n2_
   refine start_ (n := 25) (S := fun w' => w'.cell? ⟨gb160, 0, none⟩ = some (.string a0_0) ∧ w'.cell? ⟨gb160, 1, none⟩ = some (.int .i64 a0_1) ∧ w'.cell? ⟨gb160, 2, none⟩ = some (.slice A0_2 l0_2.length c0_2) ∧ w'.cell? ⟨gb161, 0, none⟩ = some (.int .i64 a1_0) ∧ w'.cell? ⟨gb161, 1, none⟩ = some (.string a1_1) ∧ w'.cell? ⟨gb161, 2, none⟩ = some (.int .i64 a1_2) ∧ w'.cell? ⟨gb161, 3, none⟩ = some (.int .i64 a1_3) ∧ w'.cell? ⟨gb161, 4, none⟩ = some (.int .i64 a1_4) ∧ w'.cell? ⟨gb161, 5, none⟩ = some (.int .i64 a1_5) ∧ w'.cell? ⟨gb161, 6, none⟩ = some (.bool false) ∧ w'.cell? ⟨gb161, 7, none⟩ = some (.int .i64 a1_7) ∧ w'.cell? ⟨gb161, 8, none⟩ = some (.int .i64 a1_8)) (ds := []) #[false, false, false, false, false, false, false, false, false, false, false, false, false, false, false, false, false, false, false, false, false, false, false, false, false] (by kernel_rfl) rfl rfl ⟨(zc BK160.out 0).trans rfl, (zc BK160.out 1).trans rfl, (zc BK160.out 2).trans rfl, (zc BK161.out 0).trans rfl, (zc BK161.out 1).trans rfl, (zc BK161.out 2).trans rfl, (zc BK161.out 3).trans rfl, (zc BK161.out 4).trans rfl, (zc BK161.out 5).trans rfl, (zc BK161.out 6).trans rfl, (zc BK161.out 7).trans rfl, (zc BK161.out 8).trans rfl⟩ (fun hHeld => ?_); refine with_tabW saga_may.tab1 saga_may.bits1 (fun HT_ HW_ => ?_)
   generalize w23.drew = w24 at BK160 BK161 HB hHeld ⊢
   refine pure_ (i := 2) (N := some 9) (v := ?_) (a' := ?_) (b_ 25 4) rfl rfl (any_of HT_.out (by kernel_rfl)) (fun _ _ _ h => h) (Or.inl ⟨by rfl, ?_⟩) ?_ ?_; rotate_left; (· intro w'; go_simp; with_reducible rfl); rotate_left; (· simp only [Act.put, sa_, sz_, ss_, i64_w, i32_w]; rfl)
   refine take_ (i := 0) (N := some 7) (v := ?_) (a' := ?_) (b_ 25 5) rfl rfl (take_ofW HT_.out HW_.out (by kernel_rfl)) (fun _ _ _ h => h) (Or.inl ⟨by rfl, ?_⟩) hHeld ?_ ?_
   rotate_left
   · rintro w' ⟨s0, s1, s2, s3, s4, s5, s6, s7, s8, s9, s10, s11⟩
     go_simp
     with_reducible rfl
   rotate_left
   · simp only [Act.put, sa_, sz_, ss_, i64_w, i32_w]
     rfl
   refine take_ (i := 1) (N := some 8) (v := ?_) (a' := ?_) (b_ 25 7) rfl rfl (take_ofW HT_.out HW_.out (by kernel_rfl)) (fun _ _ _ h => h) (Or.inl ⟨by rfl, ?_⟩) hHeld ?_ ?_
   rotate_left
   · rintro w' ⟨s0, s1, s2, s3, s4, s5, s6, s7, s8, s9, s10, s11⟩
     go_simp
     with_reducible rfl
   rotate_left
   · simp only [Act.put, sa_, sz_, ss_, i64_w, i32_w]
     rfl
   refine one_ (i := 3) (N := some 10) (b_ 25 15) rfl rfl (one_of HT_.out (by kernel_rfl)) (by decide) (fun K hK => ?_)
   refine goes_ Tryd.func68 (by kernel_rfl) rfl #[.agg #[.string a0_0, .int .i64 a0_1, .slice A0_2 l0_2.length c0_2], .agg #[.int .i64 a1_0, .string a1_1, .int .i64 a1_2, .int .i64 a1_3, .int .i64 a1_4, .int .i64 a1_5, .bool false, .int .i64 a1_7, .int .i64 a1_8], .int .i64 a2] (by rfl) rfl rfl (by (try simp only [mt_, mc_, mn_]); first | done | rfl) ?_
   with_reducible refine (saga_ahead.calls a0_0 a0_1 _ _ l0_2 a1_0 a1_1 a1_2 a1_3 a1_4 a1_5 false a1_7 a1_8 a2 true _ ?side1 ?side2 A4.out).mono ?_
   (case side1 => repeat (first | exact (Kd.C_below HR0_2.out HB.out) | (with_reducible refine Kd.C_alloc ?_ _) | (with_reducible refine Kd.C_drewN ?_ _) | (with_reducible refine Kd.C_drew ?_)))
   (case side2 => exact HC0_2.out)
   rintro e w25 ⟨rfl, hb⟩
   refine ⟨_, rfl, ?_⟩
   have n0_ := ak_ (blk_below (g := gb160) (o := .cells #[.string a0_0, .int .i64 a0_1, .slice A0_2 l0_2.length c0_2] 24 (0, 0)) (by (with_reducible repeat (first | apply zn | apply zd | apply za)); exact BK160.out) hb)
   have n1_ := ak_ (blk_below (g := gb161) (o := .cells #[.int .i64 a1_0, .string a1_1, .int .i64 a1_2, .int .i64 a1_3, .int .i64 a1_4, .int .i64 a1_5, .bool false, .int .i64 a1_7, .int .i64 a1_8] 31 (0, 0)) (by (with_reducible repeat (first | apply zn | apply zd | apply za)); exact BK161.out) hb)
   have n2_ := ak_ (ps (by with_reducible repeat first | exact HB.out | apply pa | apply pd | apply pe | refine zs ?_ GE160.out | refine zs ?_ GE161.out) hb)
   clear BK160 BK161 HB
   have BK160 := n0_
   have BK161 := n1_
   have HB := n2_
   clear n0_ n1_ n2_
   (try clear hb hk hi)
   refine hK.out _ _ ⟨(zc BK160.out 0).trans rfl, (zc BK160.out 1).trans rfl, (zc BK160.out 2).trans rfl, (zc BK161.out 0).trans rfl, (zc BK161.out 1).trans rfl, (zc BK161.out 2).trans rfl, (zc BK161.out 3).trans rfl, (zc BK161.out 4).trans rfl, (zc BK161.out 5).trans rfl, (zc BK161.out 6).trans rfl, (zc BK161.out 7).trans rfl, (zc BK161.out 8).trans rfl⟩ (fun hHeld => ?_)
   clear hK K
   refine norm_ (a' := ?_) ?_ ?_
   rotate_left
   · show Act.put _ (some 10) _ = _
     simp only [Act.put, sa_, sz_, ss_, i64_w, i32_w]
     rfl
   refine pure_ (i := 4) (N := some 11) (v := ?_) (a' := ?_) (b_ 25 31) rfl rfl (any_of HT_.out (by kernel_rfl)) (fun _ _ _ h => h) (Or.inl ⟨by rfl, ?_⟩) ?_ ?_; rotate_left; (· intro w'; go_simp; with_reducible rfl); rotate_left; (· simp only [Act.put, sa_, sz_, ss_, i64_w, i32_w]; rfl)
   refine pure_ (i := 5) (N := some 12) (v := ?_) (a' := ?_) (b_ 25 63) rfl rfl (any_of HT_.out (by kernel_rfl)) (fun _ _ _ h => h) (Or.inl ⟨by rfl, ?_⟩) ?_ ?_; rotate_left; (· intro w'; go_simp; with_reducible rfl); rotate_left; (· simp only [Act.put, sa_, sz_, ss_, i64_w, i32_w]; rfl)
   refine take_ (i := 6) (N := some 13) (v := ?_) (a' := ?_) (b_ 25 127) rfl rfl (take_ofW HT_.out HW_.out (by kernel_rfl)) (fun _ _ _ h => h) (Or.inl ⟨by rfl, ?_⟩) hHeld ?_ ?_
   rotate_left
   · rintro w' ⟨s0, s1, s2, s3, s4, s5, s6, s7, s8, s9, s10, s11⟩
     go_simp
     with_reducible rfl
   rotate_left
   · simp only [Act.put, sa_, sz_, ss_, i64_w, i32_w]
     rfl
   refine pure_ (i := 7) (N := some 14) (v := ?_) (a' := ?_) (b_ 25 255) rfl rfl (any_of HT_.out (by kernel_rfl)) (fun _ _ _ h => h) (Or.inl ⟨by rfl, ?_⟩) ?_ ?_; rotate_left; (· intro w'; go_simp; with_reducible rfl); rotate_left; (· simp only [Act.put, sa_, sz_, ss_, i64_w, i32_w]; rfl)
   refine pure_ (i := 8) (N := some 15) (v := ?_) (a' := ?_) (b_ 25 511) rfl rfl (any_of HT_.out (by kernel_rfl)) (fun _ _ _ h => h) (Or.inl ⟨by rfl, ?_⟩) ?_ ?_; rotate_left; (· intro w'; go_simp; with_reducible rfl); rotate_left; (· simp only [Act.put, sa_, sz_, ss_, i64_w, i32_w]; rfl)
   refine pure_ (i := 9) (N := some 16) (v := ?_) (a' := ?_) (b_ 25 1023) rfl rfl (any_of HT_.out (by kernel_rfl)) (fun _ _ _ h => h) (Or.inl ⟨by rfl, ?_⟩) ?_ ?_; rotate_left; (· intro w'; go_simp; with_reducible rfl); rotate_left; (· simp only [Act.put, sa_, sz_, ss_, i64_w, i32_w]; rfl)
   refine pure_ (i := 10) (N := some 17) (v := ?_) (a' := ?_) (b_ 25 2047) rfl rfl (any_of HT_.out (by kernel_rfl)) (fun _ _ _ h => h) (Or.inl ⟨by rfl, ?_⟩) ?_ ?_; rotate_left; (· intro w'; go_simp; with_reducible rfl); rotate_left; (· simp only [Act.put, sa_, sz_, ss_, i64_w, i32_w]; rfl)
   refine pure_ (i := 11) (N := some 18) (v := ?_) (a' := ?_) (b_ 25 4095) rfl rfl (any_of HT_.out (by kernel_rfl)) (fun _ _ _ h => h) (Or.inl ⟨by rfl, ?_⟩) ?_ ?_; rotate_left; (· intro w'; go_simp; with_reducible rfl); rotate_left; (· simp only [Act.put, sa_, sz_, ss_, i64_w, i32_w]; rfl)
   refine take_ (i := 12) (N := some 19) (v := ?_) (a' := ?_) (b_ 25 8191) rfl rfl (take_ofW HT_.out HW_.out (by kernel_rfl)) (fun _ _ _ h => h) (Or.inl ⟨by rfl, ?_⟩) hHeld ?_ ?_
   rotate_left
   · rintro w' ⟨s0, s1, s2, s3, s4, s5, s6, s7, s8, s9, s10, s11⟩
     go_simp
     with_reducible rfl
   rotate_left
   · simp only [Act.put, sa_, sz_, ss_, i64_w, i32_w]
     rfl
   refine one_ (i := 13) (N := some 20) (b_ 25 16383) rfl rfl (one_of HT_.out (by kernel_rfl)) (by decide) (fun K hK => ?_)
   refine goes_ Tryd.func63 (by kernel_rfl) rfl #[.int .i64 a2, .int .i64 a1_7] (by rfl) rfl rfl (by (try simp only [mt_, mc_, mn_]); first | done | rfl) ?_
   with_reducible refine (tick_Due.calls a2 a1_7 false _ A11.out).mono ?_
   rintro e w26 ⟨rfl, hb⟩
   refine ⟨_, rfl, ?_⟩
   have n0_ := ak_ (blk_below (g := gb160) (o := .cells #[.string a0_0, .int .i64 a0_1, .slice A0_2 l0_2.length c0_2] 24 (0, 0)) (by (with_reducible repeat (first | apply zn | apply zd | apply za)); exact BK160.out) hb)
   have n1_ := ak_ (blk_below (g := gb161) (o := .cells #[.int .i64 a1_0, .string a1_1, .int .i64 a1_2, .int .i64 a1_3, .int .i64 a1_4, .int .i64 a1_5, .bool false, .int .i64 a1_7, .int .i64 a1_8] 31 (0, 0)) (by (with_reducible repeat (first | apply zn | apply zd | apply za)); exact BK161.out) hb)
   have n2_ := ak_ (ps (by with_reducible repeat first | exact HB.out | apply pa | apply pd | apply pe | refine zs ?_ GE160.out | refine zs ?_ GE161.out) hb)
   clear BK160 BK161 HB
   have BK160 := n0_
   have BK161 := n1_
   have HB := n2_
   clear n0_ n1_ n2_
   (try clear hb hk hi)
   refine hK.out _ _ ⟨(zc BK160.out 0).trans rfl, (zc BK160.out 1).trans rfl, (zc BK160.out 2).trans rfl, (zc BK161.out 0).trans rfl, (zc BK161.out 1).trans rfl, (zc BK161.out 2).trans rfl, (zc BK161.out 3).trans rfl, (zc BK161.out 4).trans rfl, (zc BK161.out 5).trans rfl, (zc BK161.out 6).trans rfl, (zc BK161.out 7).trans rfl, (zc BK161.out 8).trans rfl⟩ (fun hHeld => ?_)
   clear hK K
   refine norm_ (a' := ?_) ?_ ?_
   rotate_left
   · show Act.put _ (some 20) _ = _
     simp only [Act.put, sa_, sz_, ss_, i64_w, i32_w]
     rfl
   refine pure_ (i := 14) (N := some 21) (v := ?_) (a' := ?_) (b_ 25 32767) rfl rfl (any_of HT_.out (by kernel_rfl)) (fun _ _ _ h => h) (Or.inl ⟨by rfl, ?_⟩) ?_ ?_; rotate_left; (· intro w'; go_simp; with_reducible rfl); rotate_left; (· simp only [Act.put, sa_, sz_, ss_, i64_w, i32_w]; rfl)
   refine pure_ (i := 15) (N := some 22) (v := ?_) (a' := ?_) (b_ 25 65535) rfl rfl (any_of HT_.out (by kernel_rfl)) (fun _ _ _ h => h) (Or.inl ⟨by rfl, ?_⟩) ?_ ?_; rotate_left; (· intro w'; go_simp; with_reducible rfl); rotate_left; (· simp only [Act.put, sa_, sz_, ss_, i64_w, i32_w]; rfl)
   refine pure_ (i := 16) (N := some 23) (v := undef) (a' := ?_) (b_ 25 131071) rfl rfl (any_of HT_.out (by kernel_rfl)) (fun _ _ _ h => h) (Or.inr ⟨by rfl, rfl⟩) ?_ ?_
   rotate_left
   · simp only [Act.put, sa_, sz_, ss_, i64_w, i32_w]
     rfl
   refine pure_ (i := 17) (N := some 24) (v := undef) (a' := ?_) (b_ 25 262143) rfl rfl (any_of HT_.out (by kernel_rfl)) (fun _ _ _ h => h) (Or.inr ⟨by rfl, rfl⟩) ?_ ?_
   rotate_left
   · simp only [Act.put, sa_, sz_, ss_, i64_w, i32_w]
     rfl
   refine pure_ (i := 18) (N := some 25) (v := undef) (a' := ?_) (b_ 25 524287) rfl rfl (any_of HT_.out (by kernel_rfl)) (fun _ _ _ h => h) (Or.inr ⟨by rfl, rfl⟩) ?_ ?_
   rotate_left
   · simp only [Act.put, sa_, sz_, ss_, i64_w, i32_w]
     rfl
   refine pure_ (i := 19) (N := some 26) (v := undef) (a' := ?_) (b_ 25 1048575) rfl rfl (any_of HT_.out (by kernel_rfl)) (fun _ _ _ h => h) (Or.inr ⟨by rfl, rfl⟩) ?_ ?_
   rotate_left
   · simp only [Act.put, sa_, sz_, ss_, i64_w, i32_w]
     rfl
   refine pure_ (i := 20) (N := some 27) (v := undef) (a' := ?_) (b_ 25 2097151) rfl rfl (any_of HT_.out (by kernel_rfl)) (fun _ _ _ h => h) (Or.inr ⟨by rfl, rfl⟩) ?_ ?_
   rotate_left
   · simp only [Act.put, sa_, sz_, ss_, i64_w, i32_w]
     rfl
   refine pure_ (i := 21) (N := some 28) (v := undef) (a' := ?_) (b_ 25 4194303) rfl rfl (any_of HT_.out (by kernel_rfl)) (fun _ _ _ h => h) (Or.inr ⟨by rfl, rfl⟩) ?_ ?_
   rotate_left
   · simp only [Act.put, sa_, sz_, ss_, i64_w, i32_w]
     rfl
   refine pure_ (i := 22) (N := some 29) (v := undef) (a' := ?_) (b_ 25 8388607) rfl rfl (any_of HT_.out (by kernel_rfl)) (fun _ _ _ h => h) (Or.inr ⟨by rfl, rfl⟩) ?_ ?_
   rotate_left
   · simp only [Act.put, sa_, sz_, ss_, i64_w, i32_w]
     rfl
   refine pure_ (i := 23) (N := some 30) (v := ?_) (a' := ?_) (b_ 25 16777215) rfl rfl (any_of HT_.out (by kernel_rfl)) (fun _ _ _ h => h) (Or.inl ⟨by rfl, ?_⟩) ?_ ?_; rotate_left; (· intro w'; go_simp; with_reducible rfl); rotate_left; (· simp only [Act.put, sa_, sz_, ss_, i64_w, i32_w]; rfl)
   refine pure_ (i := 24) (N := some 6) (v := ?_) (a' := ?_) (b_ 25 33554431) rfl rfl (any_of HT_.out (by kernel_rfl)) (fun _ _ _ h => h) (Or.inl ⟨by rfl, ?_⟩) ?_ ?_; rotate_left; (· intro w'; go_simp; with_reducible rfl); rotate_left; (· simp only [Act.put, sa_, sz_, ss_, i64_w, i32_w]; rfl)
   refine done_ (done_of HT_.out (by kernel_rfl)) ?_
   try go_wp2
   go_ret
   exact ⟨by first | rfl | simp [*], by repeat (first | (with_reducible first | exact HB.out | apply pa | apply pd | apply pe | refine zs ?_ GE160.out | refine zs ?_ GE161.out) | exact HB.out)⟩
 replace c5 := Bool.eq_false_iff.mpr c5
 subst c5
 have H1 : (some false) = some r := by rw [if_neg (show ¬ (false = true) by decide)] at H; exact H
 clear H
 have H := H1
 clear H1
 obtain rfl := Option.some.inj H
 go_enter Tryd.func35, Tryd.ntmps35
 try go_wp2_with (first | ((with_reducible refine gate_dst (N := 3) rfl ?_); refine box_event ?hg (N := 3) ?hd (cs := #[.string a0_0, .int .i64 a0_1, .slice A0_2 l0_2.length c0_2]) (t := 24) ?hr ?_; (case hd | hg => rfl); (case hr => first | (go_simp; done) | (go_simp; rfl)); intro gb160 hg w27 hbox hb; have n0_ := ak_ (ps (by with_reducible repeat first | exact HB.out | apply pa | apply pd | apply pe) hb); have n1_ := ak_ (hbox); have n2_ := ak_ ((by rw [hg]; exact (below_size (by with_reducible repeat first | exact HB.out | apply pa | apply pd | apply pe)) : w.heap.size ≤ gb160)); have n3_ := ak_ ((by rw [hg]; exact (below_size (by with_reducible repeat first | exact HB.out | apply pa | apply pd | apply pe)) : w.heap.size ≤ gb160)); clear HB; have HB := n0_; have BK160 := n1_; have GW160 := n2_; have GE160 := n3_; clear n0_ n1_ n2_ n3_ hb hbox hg) | ((with_reducible refine gate_dst (N := 4) rfl ?_); refine box_event ?hg (N := 4) ?hd (cs := #[.int .i64 a1_0, .string a1_1, .int .i64 a1_2, .int .i64 a1_3, .int .i64 a1_4, .int .i64 a1_5, .bool a1_6, .int .i64 a1_7, .int .i64 a1_8]) (t := 31) ?hr ?_; (case hd | hg => rfl); (case hr => first | (go_simp; done) | (go_simp; rfl)); intro gb161 hg w28 hbox hb; have n0_ := ak_ (blk_below (g := gb160) (o := .cells #[.string a0_0, .int .i64 a0_1, .slice A0_2 l0_2.length c0_2] 24 (0, 0)) (by (with_reducible repeat (first | apply zn | apply zd | apply za)); exact BK160.out) hb); have n1_ := ak_ (ps (by with_reducible repeat first | exact HB.out | apply pa | apply pd | apply pe | refine zs ?_ GE160.out) hb); have n2_ := ak_ (hbox); have n3_ := ak_ ((by rw [hg]; exact (below_size (by with_reducible repeat first | exact HB.out | apply pa | apply pd | apply pe | refine zs ?_ GE160.out)) : w.heap.size ≤ gb161)); have n4_ := ak_ ((by rw [hg]; exact (below_size (by with_reducible repeat first | exact HB.out | apply pa | apply pd | apply pe | refine zs ?_ GE160.out)) : w.heap.size ≤ gb161)); have n5_ := ak_ ((by rw [hg]; exact Nat.ne_of_lt (blk_lt (g := gb160) (by (with_reducible repeat (first | apply zn | apply zd | apply za)); exact BK160.out)) : gb160 ≠ gb161)); have n6_ := ak_ ((by rw [hg]; exact Nat.ne_of_gt (blk_lt (g := gb160) (by (with_reducible repeat (first | apply zn | apply zd | apply za)); exact BK160.out)) : gb161 ≠ gb160)); clear BK160 HB; have BK160 := n0_; have HB := n1_; have BK161 := n2_; have GW161 := n3_; have GE161 := n4_; have NB160_161 := n5_; have NB161_160 := n6_; clear n0_ n1_ n2_ n3_ n4_ n5_ n6_ hb hbox hg))
 have n0_ := ak_ (zd BK160.out)
 have n1_ := ak_ (zd BK161.out)
 have n2_ := ak_ (pe HB.out)
 clear BK160 BK161 HB
 have BK160 := n0_
 have BK161 := n1_
 have HB := n2_
 clear n0_ n1_ n2_
 refine start_ (n := 25) (S := fun w' => w'.cell? ⟨gb160, 0, none⟩ = some (.string a0_0) ∧ w'.cell? ⟨gb160, 1, none⟩ = some (.int .i64 a0_1) ∧ w'.cell? ⟨gb160, 2, none⟩ = some (.slice A0_2 l0_2.length c0_2) ∧ w'.cell? ⟨gb161, 0, none⟩ = some (.int .i64 a1_0) ∧ w'.cell? ⟨gb161, 1, none⟩ = some (.string a1_1) ∧ w'.cell? ⟨gb161, 2, none⟩ = some (.int .i64 a1_2) ∧ w'.cell? ⟨gb161, 3, none⟩ = some (.int .i64 a1_3) ∧ w'.cell? ⟨gb161, 4, none⟩ = some (.int .i64 a1_4) ∧ w'.cell? ⟨gb161, 5, none⟩ = some (.int .i64 a1_5) ∧ w'.cell? ⟨gb161, 6, none⟩ = some (.bool a1_6) ∧ w'.cell? ⟨gb161, 7, none⟩ = some (.int .i64 a1_7) ∧ w'.cell? ⟨gb161, 8, none⟩ = some (.int .i64 a1_8)) (ds := []) #[false, false, false, false, false, false, false, false, false, false, false, false, false, false, false, false, false, false, false, false, false, false, false, false, false] (by kernel_rfl) rfl rfl ⟨(zc BK160.out 0).trans rfl, (zc BK160.out 1).trans rfl, (zc BK160.out 2).trans rfl, (zc BK161.out 0).trans rfl, (zc BK161.out 1).trans rfl, (zc BK161.out 2).trans rfl, (zc BK161.out 3).trans rfl, (zc BK161.out 4).trans rfl, (zc BK161.out 5).trans rfl, (zc BK161.out 6).trans rfl, (zc BK161.out 7).trans rfl, (zc BK161.out 8).trans rfl⟩ (fun hHeld => ?_); refine with_tabW saga_may.tab1 saga_may.bits1 (fun HT_ HW_ => ?_)
 generalize w28.drew = w29 at BK160 BK161 HB hHeld ⊢
 refine pure_ (i := 2) (N := some 9) (v := ?_) (a' := ?_) (b_ 25 4) rfl rfl (any_of HT_.out (by kernel_rfl)) (fun _ _ _ h => h) (Or.inl ⟨by rfl, ?_⟩) ?_ ?_; rotate_left; (· intro w'; go_simp; with_reducible rfl); rotate_left; (· simp only [Act.put, sa_, sz_, ss_, i64_w, i32_w]; rfl)
 refine take_ (i := 0) (N := some 7) (v := ?_) (a' := ?_) (b_ 25 5) rfl rfl (take_ofW HT_.out HW_.out (by kernel_rfl)) (fun _ _ _ h => h) (Or.inl ⟨by rfl, ?_⟩) hHeld ?_ ?_
 rotate_left
 · rintro w' ⟨s0, s1, s2, s3, s4, s5, s6, s7, s8, s9, s10, s11⟩
   go_simp
   with_reducible rfl
 rotate_left
 · simp only [Act.put, sa_, sz_, ss_, i64_w, i32_w]
   rfl
 refine take_ (i := 1) (N := some 8) (v := ?_) (a' := ?_) (b_ 25 7) rfl rfl (take_ofW HT_.out HW_.out (by kernel_rfl)) (fun _ _ _ h => h) (Or.inl ⟨by rfl, ?_⟩) hHeld ?_ ?_
 rotate_left
 · rintro w' ⟨s0, s1, s2, s3, s4, s5, s6, s7, s8, s9, s10, s11⟩
   go_simp
   with_reducible rfl
 rotate_left
 · simp only [Act.put, sa_, sz_, ss_, i64_w, i32_w]
   rfl
 refine one_ (i := 3) (N := some 10) (b_ 25 15) rfl rfl (one_of HT_.out (by kernel_rfl)) (by decide) (fun K hK => ?_)
 refine goes_ Tryd.func68 (by kernel_rfl) rfl #[.agg #[.string a0_0, .int .i64 a0_1, .slice A0_2 l0_2.length c0_2], .agg #[.int .i64 a1_0, .string a1_1, .int .i64 a1_2, .int .i64 a1_3, .int .i64 a1_4, .int .i64 a1_5, .bool a1_6, .int .i64 a1_7, .int .i64 a1_8], .int .i64 a2] (by rfl) rfl rfl (by (try simp only [mt_, mc_, mn_]); first | done | rfl) ?_
 with_reducible refine (saga_ahead.calls a0_0 a0_1 _ _ l0_2 a1_0 a1_1 a1_2 a1_3 a1_4 a1_5 a1_6 a1_7 a1_8 a2 false _ ?side1 ?side2 A4.out).mono ?_
 (case side1 => repeat (first | exact (Kd.C_below HR0_2.out HB.out) | (with_reducible refine Kd.C_alloc ?_ _) | (with_reducible refine Kd.C_drewN ?_ _) | (with_reducible refine Kd.C_drew ?_)))
 (case side2 => exact HC0_2.out)
 rintro e w30 ⟨rfl, hb⟩
 refine ⟨_, rfl, ?_⟩
 have n0_ := ak_ (blk_below (g := gb160) (o := .cells #[.string a0_0, .int .i64 a0_1, .slice A0_2 l0_2.length c0_2] 24 (0, 0)) (by (with_reducible repeat (first | apply zn | apply zd | apply za)); exact BK160.out) hb)
 have n1_ := ak_ (blk_below (g := gb161) (o := .cells #[.int .i64 a1_0, .string a1_1, .int .i64 a1_2, .int .i64 a1_3, .int .i64 a1_4, .int .i64 a1_5, .bool a1_6, .int .i64 a1_7, .int .i64 a1_8] 31 (0, 0)) (by (with_reducible repeat (first | apply zn | apply zd | apply za)); exact BK161.out) hb)
 have n2_ := ak_ (ps (by with_reducible repeat first | exact HB.out | apply pa | apply pd | apply pe | refine zs ?_ GE160.out | refine zs ?_ GE161.out) hb)
 clear BK160 BK161 HB
 have BK160 := n0_
 have BK161 := n1_
 have HB := n2_
 clear n0_ n1_ n2_
 (try clear hb hk hi)
 refine hK.out _ _ ⟨(zc BK160.out 0).trans rfl, (zc BK160.out 1).trans rfl, (zc BK160.out 2).trans rfl, (zc BK161.out 0).trans rfl, (zc BK161.out 1).trans rfl, (zc BK161.out 2).trans rfl, (zc BK161.out 3).trans rfl, (zc BK161.out 4).trans rfl, (zc BK161.out 5).trans rfl, (zc BK161.out 6).trans rfl, (zc BK161.out 7).trans rfl, (zc BK161.out 8).trans rfl⟩ (fun hHeld => ?_)
 clear hK K
 refine norm_ (a' := ?_) ?_ ?_
 rotate_left
 · show Act.put _ (some 10) _ = _
   simp only [Act.put, sa_, sz_, ss_, i64_w, i32_w]
   rfl
 refine pure_ (i := 4) (N := some 11) (v := ?_) (a' := ?_) (b_ 25 31) rfl rfl (any_of HT_.out (by kernel_rfl)) (fun _ _ _ h => h) (Or.inl ⟨by rfl, ?_⟩) ?_ ?_; rotate_left; (· intro w'; go_simp; with_reducible rfl); rotate_left; (· simp only [Act.put, sa_, sz_, ss_, i64_w, i32_w]; rfl)
 refine pure_ (i := 5) (N := some 12) (v := undef) (a' := ?_) (b_ 25 63) rfl rfl (any_of HT_.out (by kernel_rfl)) (fun _ _ _ h => h) (Or.inr ⟨by rfl, rfl⟩) ?_ ?_
 rotate_left
 · simp only [Act.put, sa_, sz_, ss_, i64_w, i32_w]
   rfl
 refine pure_ (i := 6) (N := some 13) (v := undef) (a' := ?_) (b_ 25 127) rfl rfl (any_of HT_.out (by kernel_rfl)) (fun _ _ _ h => h) (Or.inr ⟨by rfl, rfl⟩) ?_ ?_
 rotate_left
 · simp only [Act.put, sa_, sz_, ss_, i64_w, i32_w]
   rfl
 refine pure_ (i := 7) (N := some 14) (v := undef) (a' := ?_) (b_ 25 255) rfl rfl (any_of HT_.out (by kernel_rfl)) (fun _ _ _ h => h) (Or.inr ⟨by rfl, rfl⟩) ?_ ?_
 rotate_left
 · simp only [Act.put, sa_, sz_, ss_, i64_w, i32_w]
   rfl
 refine pure_ (i := 8) (N := some 15) (v := ?_) (a' := ?_) (b_ 25 511) rfl rfl (any_of HT_.out (by kernel_rfl)) (fun _ _ _ h => h) (Or.inl ⟨by rfl, ?_⟩) ?_ ?_; rotate_left; (· intro w'; go_simp; with_reducible rfl); rotate_left; (· simp only [Act.put, sa_, sz_, ss_, i64_w, i32_w]; rfl)
 refine pure_ (i := 9) (N := some 16) (v := ?_) (a' := ?_) (b_ 25 1023) rfl rfl (any_of HT_.out (by kernel_rfl)) (fun _ _ _ h => h) (Or.inl ⟨by rfl, ?_⟩) ?_ ?_; rotate_left; (· intro w'; go_simp; with_reducible rfl); rotate_left; (· simp only [Act.put, sa_, sz_, ss_, i64_w, i32_w]; rfl)
 refine pure_ (i := 10) (N := some 17) (v := undef) (a' := ?_) (b_ 25 2047) rfl rfl (any_of HT_.out (by kernel_rfl)) (fun _ _ _ h => h) (Or.inr ⟨by rfl, rfl⟩) ?_ ?_
 rotate_left
 · simp only [Act.put, sa_, sz_, ss_, i64_w, i32_w]
   rfl
 refine pure_ (i := 11) (N := some 18) (v := undef) (a' := ?_) (b_ 25 4095) rfl rfl (any_of HT_.out (by kernel_rfl)) (fun _ _ _ h => h) (Or.inr ⟨by rfl, rfl⟩) ?_ ?_
 rotate_left
 · simp only [Act.put, sa_, sz_, ss_, i64_w, i32_w]
   rfl
 refine pure_ (i := 12) (N := some 19) (v := undef) (a' := ?_) (b_ 25 8191) rfl rfl (any_of HT_.out (by kernel_rfl)) (fun _ _ _ h => h) (Or.inr ⟨by rfl, rfl⟩) ?_ ?_
 rotate_left
 · simp only [Act.put, sa_, sz_, ss_, i64_w, i32_w]
   rfl
 refine pure_ (i := 13) (N := some 20) (v := undef) (a' := ?_) (b_ 25 16383) rfl rfl (any_of HT_.out (by kernel_rfl)) (fun _ _ _ h => h) (Or.inr ⟨by rfl, rfl⟩) ?_ ?_
 rotate_left
 · simp only [Act.put, sa_, sz_, ss_, i64_w, i32_w]
   rfl
 refine pure_ (i := 14) (N := some 21) (v := ?_) (a' := ?_) (b_ 25 32767) rfl rfl (any_of HT_.out (by kernel_rfl)) (fun _ _ _ h => h) (Or.inl ⟨by rfl, ?_⟩) ?_ ?_; rotate_left; (· intro w'; go_simp; with_reducible rfl); rotate_left; (· simp only [Act.put, sa_, sz_, ss_, i64_w, i32_w]; rfl)
 refine pure_ (i := 15) (N := some 22) (v := ?_) (a' := ?_) (b_ 25 65535) rfl rfl (any_of HT_.out (by kernel_rfl)) (fun _ _ _ h => h) (Or.inl ⟨by rfl, ?_⟩) ?_ ?_; rotate_left; (· intro w'; go_simp; with_reducible rfl); rotate_left; (· simp only [Act.put, sa_, sz_, ss_, i64_w, i32_w]; rfl)
 refine pure_ (i := 16) (N := some 23) (v := undef) (a' := ?_) (b_ 25 131071) rfl rfl (any_of HT_.out (by kernel_rfl)) (fun _ _ _ h => h) (Or.inr ⟨by rfl, rfl⟩) ?_ ?_
 rotate_left
 · simp only [Act.put, sa_, sz_, ss_, i64_w, i32_w]
   rfl
 refine pure_ (i := 17) (N := some 24) (v := undef) (a' := ?_) (b_ 25 262143) rfl rfl (any_of HT_.out (by kernel_rfl)) (fun _ _ _ h => h) (Or.inr ⟨by rfl, rfl⟩) ?_ ?_
 rotate_left
 · simp only [Act.put, sa_, sz_, ss_, i64_w, i32_w]
   rfl
 refine pure_ (i := 18) (N := some 25) (v := undef) (a' := ?_) (b_ 25 524287) rfl rfl (any_of HT_.out (by kernel_rfl)) (fun _ _ _ h => h) (Or.inr ⟨by rfl, rfl⟩) ?_ ?_
 rotate_left
 · simp only [Act.put, sa_, sz_, ss_, i64_w, i32_w]
   rfl
 refine pure_ (i := 19) (N := some 26) (v := undef) (a' := ?_) (b_ 25 1048575) rfl rfl (any_of HT_.out (by kernel_rfl)) (fun _ _ _ h => h) (Or.inr ⟨by rfl, rfl⟩) ?_ ?_
 rotate_left
 · simp only [Act.put, sa_, sz_, ss_, i64_w, i32_w]
   rfl
 refine pure_ (i := 20) (N := some 27) (v := undef) (a' := ?_) (b_ 25 2097151) rfl rfl (any_of HT_.out (by kernel_rfl)) (fun _ _ _ h => h) (Or.inr ⟨by rfl, rfl⟩) ?_ ?_
 rotate_left
 · simp only [Act.put, sa_, sz_, ss_, i64_w, i32_w]
   rfl
 refine pure_ (i := 21) (N := some 28) (v := undef) (a' := ?_) (b_ 25 4194303) rfl rfl (any_of HT_.out (by kernel_rfl)) (fun _ _ _ h => h) (Or.inr ⟨by rfl, rfl⟩) ?_ ?_
 rotate_left
 · simp only [Act.put, sa_, sz_, ss_, i64_w, i32_w]
   rfl
 refine pure_ (i := 22) (N := some 29) (v := undef) (a' := ?_) (b_ 25 8388607) rfl rfl (any_of HT_.out (by kernel_rfl)) (fun _ _ _ h => h) (Or.inr ⟨by rfl, rfl⟩) ?_ ?_
 rotate_left
 · simp only [Act.put, sa_, sz_, ss_, i64_w, i32_w]
   rfl
 refine pure_ (i := 23) (N := some 30) (v := ?_) (a' := ?_) (b_ 25 16777215) rfl rfl (any_of HT_.out (by kernel_rfl)) (fun _ _ _ h => h) (Or.inl ⟨by rfl, ?_⟩) ?_ ?_; rotate_left; (· intro w'; go_simp; with_reducible rfl); rotate_left; (· simp only [Act.put, sa_, sz_, ss_, i64_w, i32_w]; rfl)
 refine pure_ (i := 24) (N := some 6) (v := ?_) (a' := ?_) (b_ 25 33554431) rfl rfl (any_of HT_.out (by kernel_rfl)) (fun _ _ _ h => h) (Or.inl ⟨by rfl, ?_⟩) ?_ ?_; rotate_left; (· intro w'; go_simp; with_reducible rfl); rotate_left; (· simp only [Act.put, sa_, sz_, ss_, i64_w, i32_w]; rfl)
 refine done_ (done_of HT_.out (by kernel_rfl)) ?_
 try go_wp2
 go_ret
 exact ⟨by first | rfl | simp [*], by repeat (first | (with_reducible first | exact HB.out | apply pa | apply pd | apply pe | refine zs ?_ GE160.out | refine zs ?_ GE161.out) | exact HB.out)⟩
def plS (l : List S70) (ph sp : Int) : S54 := if ph = 0 then (rd_T70 l sp).f3 else (rd_T70 l sp).f4
def leftS (p : S54) (n : Int) : Int := if planP p = true then mx (p.f0 + 1 - mx n 0) 0 else 0
def ofT (a : Int) : Int := mn (mx a 0) 1099511627776
def tickB (a : Int) : Bool := decide (0 ≤ a ∧ a ≤ 1099511627776)
def overS (ph : Int) : Bool := decide (ph = 3) || (decide (ph = 4) || decide (ph = 5))
def triesS (l : List S70) (ph sp tr : Int) (out : Bool) : Bool :=
  if tr < 0 then false else if tr > (plS l ph sp).f0 + 1 ∧ overS ph = false then false
  else if out = true then (if tr > 0 then decide (ph ≤ 1) else false) else if ph = 2 then leftS (plS l ph sp) tr == 0 else true
def goodS (n : ByteArray) (dl : Int) (l : List S70) (id : Int) (df : ByteArray) (st ph sp tr : Int) (out : Bool) (at_ sk : Int) : Bool :=
  if (chkD n dl l).2 = 0 ∧ df.toList = n.toList ∧ 0 ≤ id ∧ (0 ≤ ph ∧ ph ≤ 5) ∧ (0 ≤ sp ∧ sp < (l.length : Int)) ∧ (0 ≤ st ∧ st ≤ 1099511627776) ∧ (0 ≤ at_ ∧ at_ ≤ 1099511627776) ∧ (0 ≤ sk ∧ sk ≤ 32) then triesS l ph sp tr out else false
def endS (dl st : Int) : Int := if dl = 0 then 1099511627777 else ofT (ofT st + ofT dl)
def maySg (dl : Int) (l : List S70) (st ph sp tr : Int) (out : Bool) (at_ now : Int) : Bool :=
  if ph = 1 ∨ (ph = 0 ∧ now < endS dl st) then (if out = true then false else if ofT at_ ≤ ofT now then decide (leftS (plS l ph sp) tr > 0) else false) else false
theorem ofT_id {a : Int} (h0 : 0 ≤ a) (h1 : a ≤ 1099511627776) : ofT a = a := by
  unfold ofT mn mx
  split <;> split <;> omega
theorem ofT_range (a : Int) : 0 ≤ ofT a ∧ ofT a ≤ 1099511627776 := by
  unfold ofT mn mx
  split <;> split <;> omega
theorem tickOf_f (a : Int) : tick_Of.f a = some (ofT a) := rfl
theorem tickAdd_f (a b : Int) : tick_Add.f a b = some (ofT (ofT a + ofT b)) := by
  unfold tick_Add.f
  rw [tickOf_f, bs_, tickOf_f, bs_]
  have h1 := ofT_range a; have h2 := ofT_range b
  rw [show wrap64 (ofT a + ofT b) = ofT a + ofT b by unfold wrap64; omega, tickOf_f, bs_]
theorem tickDue_f (a b : Int) : tick_Due.f a b = some (decide (ofT b ≤ ofT a)) := by
  unfold tick_Due.f
  rw [tickOf_f, bs_, tickOf_f, bs_]
theorem end_f (n : ByteArray) (dl : Int) (l : List S70) (st : Int) : def_End.f n dl l st = some (endS dl st) := by
  unfold def_End.f endS
  split
  · rfl
  · rw [tickAdd_f, bs_]
theorem planP_r {p : S54} (h : planP p = true) : 0 ≤ p.f0 ∧ p.f0 ≤ 1000 := by
  unfold planP at h
  have := of_decide_eq_true h
  omega
theorem left_f (p : S54) (n : Int) (hn : -9223372036854775808 ≤ n ∧ n ≤ 9223372036854775807) : backoff_Left.f p.f0 p.f1 p.f2 p.f3 n = some (leftS p n) := by
  unfold backoff_Left.f leftS
  rw [backoff_Good_f, bs_]
  split
  · rename_i h
    have hp := planP_r h
    have e1 : wrap64 (p.f0 + 1) = p.f0 + 1 := by unfold wrap64; omega
    have e2 : wrap64 (p.f0 + 1 - mx n 0) = p.f0 + 1 - mx n 0 := by unfold wrap64 mx; split <;> omega
    rw [e1, e2]
  · rfl
theorem over_f (a0 : Int) (a1 : ByteArray) (a2 ph a4 a5 : Int) (a6 : Bool) (a7 a8 : Int) : saga_Over.f a0 a1 a2 ph a4 a5 a6 a7 a8 = some (overS ph) := by
  unfold saga_Over.f overS
  by_cases h3 : ph = 3
  · rw [if_pos h3, dt_ h3]; rfl
  rw [if_neg h3, df_ h3]
  by_cases h4 : ph = 4
  · rw [if_pos h4, dt_ h4]; rfl
  rw [if_neg h4, df_ h4]
  by_cases h5 : ph = 5
  · rw [if_pos h5, dt_ h5]; rfl
  rw [if_neg h5, df_ h5]; rfl
theorem plan_fS (n : ByteArray) (dl : Int) (l : List S70) (a0 : Int) (a1 : ByteArray) (a2 ph sp a5 : Int) (a6 : Bool) (a7 a8 : Int) (h0 : 0 ≤ sp) (h1 : sp < (l.length : Int)) :
    saga_plan.f n dl l a0 a1 a2 ph sp a5 a6 a7 a8 = some ((plS l ph sp).f0, (plS l ph sp).f1, (plS l ph sp).f2, (plS l ph sp).f3) := by
  unfold saga_plan.f plS
  simp only [if_pos h0, if_pos h1]
  split <;> rfl
theorem chkL_at (l : List S70) : ∀ (d i : Nat), l.length - i ≤ d → (chkL l d i).2 = 0 → ∀ j, i ≤ j → ∀ (hj : j < l.length), stepR l j l[j] = 0
  | 0, i, hd, _, j, hij, hj => absurd hj (by omega)
  | d + 1, i, hd, h, j, hij, hj => by
    rw [chkL, dif_pos (by omega)] at h
    by_cases h0 : stepR l i (l[i]'(by omega)) = 0
    · rw [if_pos h0] at h
      by_cases e : j = i
      · subst e; exact h0
      · exact chkL_at l d (i + 1) (by omega) h j (by omega) hj
    · rw [if_neg h0] at h
      exact absurd h h0
theorem chkD_at {n : ByteArray} {dl : Int} {l : List S70} (h : (chkD n dl l).2 = 0) : Utf.goodD n.data.toList = true ∧ (0 ≤ dl ∧ dl ≤ 1099511627776) ∧ 0 < l.length ∧ l.length ≤ 32 ∧ ∀ j (hj : j < l.length), stepR l j l[j] = 0 := by
  unfold chkD at h
  split at h
  · exact absurd h (by decide)
  split at h
  · exact absurd h (by decide)
  split at h
  · exact absurd h (by decide)
  split at h
  · exact absurd h (by decide)
  rename_i h1 h2 h3 h4
  refine ⟨by simpa using h1, Classical.not_not.1 h2, by omega, by omega, fun j hj => chkL_at l l.length 0 (by omega) h j (by omega) hj⟩
theorem stepR_plan {l : List S70} {i : Nat} {x : S70} (h : stepR l i x = 0) : planP x.f3 = true ∧ planP x.f4 = true ∧ (1 ≤ x.f2 ∧ x.f2 ≤ 1099511627776) := by
  unfold stepR stepB at h
  split at h
  · exact absurd h (by decide)
  split at h
  · exact absurd h (by decide)
  split at h
  · exact absurd h (by decide)
  split at h
  · exact absurd h (by decide)
  rename_i h1 h2 h3 h4
  have hn : numB x = false := by simpa using h3
  have hp : (planP x.f3 && planP x.f4) = true := by
    cases e : (planP x.f3 && planP x.f4) with
    | true => rfl
    | false => exact absurd e h4
  rw [Bool.and_eq_true] at hp
  unfold numB at hn
  have := of_decide_eq_false hn
  exact ⟨hp.1, hp.2, by omega⟩
theorem plS_good {n : ByteArray} {dl : Int} {l : List S70} (h : (chkD n dl l).2 = 0) {ph sp : Int} (h0 : 0 ≤ sp) (h1 : sp < (l.length : Int)) : planP (plS l ph sp) = true := by
  obtain ⟨j, rfl⟩ := Int.eq_ofNat_of_zero_le h0
  have hj : j < l.length := by omega
  have hp := stepR_plan ((chkD_at h).2.2.2.2 j hj)
  unfold plS
  rw [rdS_at hj]
  split
  · exact hp.1
  · exact hp.2.1
theorem tries_f {n : ByteArray} {dl : Int} {l : List S70} (k : Nat) (hc : (chkD n dl l).2 = 0) (a0 : Int) (a1 : ByteArray) (a2 ph sp tr : Int) (out : Bool) (a7 a8 : Int) (h0 : 0 ≤ sp) (h1 : sp < (l.length : Int)) (ht : -9223372036854775808 ≤ tr ∧ tr ≤ 9223372036854775807) :
    saga_tries.f (k + 1) n dl l a0 a1 a2 ph sp tr out a7 a8 = some (triesS l ph sp tr out) := by
  have hp := planP_r (plS_good hc (ph := ph) h0 h1)
  have e1 : wrap64 ((plS l ph sp).f0 + 1) = (plS l ph sp).f0 + 1 := by unfold wrap64; omega
  unfold saga_tries.f triesS
  rw [plan_fS n dl l a0 a1 a2 ph sp tr out a7 a8 h0 h1, bs_]
  dsimp only
  rw [left_f _ _ ht, bs_]
  by_cases h2 : tr < 0
  · rw [if_pos h2, if_pos h2, saga_tries.j0, if_pos rfl]
  rw [if_neg h2, if_neg h2, bs_]
  dsimp only
  rw [e1]
  have hj : ∀ b : Bool, saga_tries.j0 (k + 1) (leftS (plS l ph sp) tr) b a0 a1 a2 ph sp tr out a7 a8 = some (if b = true then false else if out = true then (if tr > 0 then decide (ph ≤ 1) else false) else if ph = 2 then leftS (plS l ph sp) tr == 0 else true) := by
    intro b
    rw [saga_tries.j0]
    cases b
    · rw [if_neg (by decide), if_neg (c := false = true) (by decide)]
      cases out
      · rw [if_neg (c := false = true) (by decide), if_neg (c := false = true) (by decide)]
        split <;> rfl
      · rw [if_pos (c := true = true) rfl, if_pos (c := true = true) rfl]
        split <;> rfl
    · rw [if_pos rfl, if_pos rfl]
  by_cases h3 : tr > (plS l ph sp).f0 + 1
  · rw [if_pos h3, over_f, bs_, hj]
    cases ho : overS ph
    · rw [if_pos (by decide), if_pos ⟨h3, rfl⟩]
    · rw [if_neg (c := (!true) = true) (by decide), if_neg (c := tr > (plS l ph sp).f0 + 1 ∧ true = false) (fun h => absurd h.2 (by decide))]
  · rw [if_neg h3, hj, if_neg (c := false = true) (by decide), if_neg (c := tr > (plS l ph sp).f0 + 1 ∧ overS ph = false) (fun h => h3 h.1)]
theorem good_fS (n : ByteArray) (dl : Int) (l : List S70) {m : Nat} (hm : m ≤ 140737488351232) (hn : NmS m l) (hz : n.size ≤ m) (k : Nat) (hk : 40 ≤ k) (id : Int) (df : ByteArray) (st ph sp tr : Int) (out : Bool) (at_ sk : Int) (ht : -9223372036854775808 ≤ tr ∧ tr ≤ 9223372036854775807) :
    saga_Good.f k n dl l id df st ph sp tr out at_ sk = some (goodS n dl l id df st ph sp tr out at_ sk) := by
  obtain ⟨k, rfl⟩ : ∃ j, k = j + 3 := ⟨k - 3, by omega⟩
  unfold saga_Good.f
  rw [def_check_f n dl l hm hn hz (k + 3) (by omega), bs_]
  have jT : saga_Good.j0 (k + 3) true n dl l id df st ph sp tr out at_ sk = some false := by rw [saga_Good.j0, if_pos rfl]
  unfold goodS
  by_cases hc : (chkD n dl l).2 = 0
  · rw [if_pos hc]
    by_cases h1 : df.toList = n.toList
    · rw [if_pos h1]
      by_cases h2 : id < 0
      · rw [if_pos h2, jT, if_neg (by omega)]
      rw [if_neg h2]
      by_cases h3 : ph < 0
      · rw [if_pos h3, jT, if_neg (by omega)]
      rw [if_neg h3]
      by_cases h4 : ph > 5
      · rw [if_pos h4, jT, if_neg (by omega)]
      rw [if_neg h4]
      by_cases h5 : sp < 0
      · rw [if_pos h5, jT, if_neg (by omega)]
      rw [if_neg h5]
      by_cases h6 : sp ≥ (l.length : Int)
      · rw [dt_ h6, jT, if_neg (by omega)]
      rw [df_ h6, saga_Good.j0, if_neg (by decide), tick_Good_f, bs_]
      have j1 : ∀ b : Bool, saga_Good.j1 (k + 2) b n dl l id df st ph sp tr out at_ sk = some (if b = true then false else triesS l ph sp tr out) := by
        intro b
        rw [saga_Good.j1]
        cases b
        · rw [if_neg (by decide), if_neg (by decide), tries_f k hc id df st ph sp tr out at_ sk (by omega) (by omega) ht, bs_]
        · rw [if_pos rfl, if_pos rfl]
      by_cases h7 : 0 ≤ st ∧ st ≤ 1099511627776
      · rw [if_pos (dt_ h7), tick_Good_f, bs_]
        by_cases h8 : 0 ≤ at_ ∧ at_ ≤ 1099511627776
        · rw [if_pos (dt_ h8)]
          by_cases h9 : sk < 0
          · rw [if_pos h9, j1, if_pos rfl, if_neg (by omega)]
          rw [if_neg h9, j1]
          by_cases h10 : sk > 32
          · rw [dt_ h10, if_pos rfl, if_neg (by omega)]
          · rw [df_ h10, if_neg (by decide), if_pos ⟨hc, h1, by omega, by omega, by omega, h7, h8, by omega⟩]
        · rw [if_neg (by rw [df_ h8]; decide), j1, if_pos rfl, if_neg (fun h => h8 h.2.2.2.2.2.2.1)]
      · rw [if_neg (by rw [df_ h7]; decide), j1, if_pos rfl, if_neg (fun h => h7 h.2.2.2.2.2.1)]
    · rw [if_neg h1, jT, if_neg (fun h => h1 h.2.1)]
  · rw [if_neg hc, if_neg (fun h => hc h.1)]
def checkS (g : Bool) (ph now : Int) : Int := if g = true ∧ (0 ≤ now ∧ now ≤ 1099511627776) then (if overS ph = true then 19 else 0) else 1
theorem check_fS (n : ByteArray) (dl : Int) (l : List S70) {m : Nat} (hm : m ≤ 140737488351232) (hn : NmS m l) (hz : n.size ≤ m) (k : Nat) (hk : 40 ≤ k) (id : Int) (df : ByteArray) (st ph sp tr : Int) (out : Bool) (at_ sk now : Int) (ht : -9223372036854775808 ≤ tr ∧ tr ≤ 9223372036854775807) :
    saga_check.f k n dl l id df st ph sp tr out at_ sk now = some (checkS (goodS n dl l id df st ph sp tr out at_ sk) ph now) := by
  unfold saga_check.f checkS
  rw [good_fS n dl l hm hn hz k hk id df st ph sp tr out at_ sk ht, bs_]
  obtain ⟨k, rfl⟩ : ∃ j, k = j + 1 := ⟨k - 1, by omega⟩
  cases hg : goodS n dl l id df st ph sp tr out at_ sk
  · rw [if_neg (by decide), saga_check.j0, if_pos rfl, if_neg (by simp)]
  · rw [if_pos rfl, tick_Good_f, bs_, saga_check.j0]
    by_cases h : 0 ≤ now ∧ now ≤ 1099511627776
    · rw [dt_ h, if_neg (by decide), over_f, bs_, if_pos (c := true = true ∧ (0 ≤ now ∧ now ≤ 1099511627776)) ⟨rfl, h⟩]
      cases overS ph <;> rfl
    · rw [df_ h, if_pos (by decide), if_neg (fun q => h q.2)]
theorem may_fS (n : ByteArray) (dl : Int) (l : List S70) (id : Int) (df : ByteArray) (st ph sp tr : Int) (out : Bool) (at_ sk now : Int) (h0 : 0 ≤ sp) (h1 : sp < (l.length : Int)) (ht : -9223372036854775808 ≤ tr ∧ tr ≤ 9223372036854775807) :
    saga_may.f n dl l id df st ph sp tr out at_ sk now = some (maySg dl l st ph sp tr out at_ now) := by
  unfold saga_may.f saga_ahead.f maySg
  have hrest : ((if out = true then some false else (tick_Due.f now at_).bind fun t163 => (if t163 = true then ((saga_plan.f n dl l id df st ph sp tr out at_ sk).bind fun bt164 => ((backoff_Left.f bt164.1 bt164.2.1 bt164.2.2.1 bt164.2.2.2 tr).bind fun t168 => (some (decide (t168 > 0))))) else (some false))) : Option Bool) = some (if out = true then false else if ofT at_ ≤ ofT now then decide (leftS (plS l ph sp) tr > 0) else false) := by
    split
    · rfl
    · rw [tickDue_f, bs_]
      by_cases hd : ofT at_ ≤ ofT now
      · rw [if_pos (dt_ hd), if_pos hd, plan_fS n dl l id df st ph sp tr out at_ sk h0 h1, bs_]
        dsimp only
        rw [left_f _ _ ht, bs_]
      · rw [if_neg (by rw [df_ hd]; decide), if_neg hd]
  by_cases hp1 : ph = 1
  · rw [if_pos hp1, bs_, if_pos rfl, hrest, if_pos (c := ph = 1 ∨ (ph = 0 ∧ now < endS dl st)) (.inl hp1)]
  rw [if_neg hp1]
  by_cases hp0 : ph = 0
  · rw [if_pos hp0, end_f, bs_, bs_]
    by_cases he : now < endS dl st
    · rw [if_pos (dt_ he), hrest, if_pos (c := ph = 1 ∨ (ph = 0 ∧ now < endS dl st)) (.inr ⟨hp0, he⟩)]
    · rw [if_neg (by rw [df_ he]; decide), if_neg (c := ph = 1 ∨ (ph = 0 ∧ now < endS dl st)) (by rintro (h | h); exact hp1 h; exact he h.2)]
  · rw [if_neg hp0, bs_, if_neg (by decide), if_neg (c := ph = 1 ∨ (ph = 0 ∧ now < endS dl st)) (by rintro (h | h); exact hp1 h; exact hp0 h.1)]
def saga_Begin.f (a0_0 : ByteArray) (a0_1 : Int) (l0_2 : List (S70)) (a1 : Int) (a2 : Int) : Option (Int × ByteArray × Int × Int × Int × Int × Bool × Int × Int) := (tick_Of.f a2).bind fun t103 => ((tick_Of.f a2).bind fun t104 => (some (a1, a0_0, t103, 0, 0, 0, false, t104, 0)))
def saga_Begin.T1 : Bool × List (List Nat × List Nat) := (true, [([], []), ([], []), ([1], [1]), ([], []), ([3], [3]), ([], []), ([5, 4], [5]), ([0, 2, 4, 6], [0, 2, 4, 6]), ([7, 6, 0, 1, 2, 3, 4, 5, 6, 7], [7])])
def saga_Begin.B1 : List Nat := [0, 0, 2, 0, 8, 0, 56, 127, 255]
theorem saga_Begin.tab1 : rtab .any (opsOf Tryd.f11 1) = saga_Begin.T1 := by kernel_rfl
theorem saga_Begin.bits1 : waitsOk saga_Begin.T1.2 saga_Begin.B1 = true := by kernel_rfl
theorem saga_Begin.calls (a0_0 : ByteArray) (a0_1 : Int) (A0_2 : Option Addr) (c0_2 : Nat) (l0_2 : List (S70)) (a1 : Int) (a2 : Int) (r1 : Int) (r2 : ByteArray) (r3 : Int) (r4 : Int) (r5 : Int) (r6 : Int) (r7 : Bool) (r8 : Int) (r9 : Int) (w : World) (hr0_2 : Kd.C k70 w A0_2 l0_2.length l0_2) (hc0_2 : l0_2.length ≤ c0_2) (h : saga_Begin.f a0_0 a0_1 l0_2 a1 a2 = some (r1, r2, r3, r4, r5, r6, r7, r8, r9)) :
 Calls Tryd.prog 11 #[.agg #[.string a0_0, .int .i64 a0_1, .slice A0_2 l0_2.length c0_2], .int .i64 a1, .int .i64 a2] w fun e w' => e = .returned (.agg #[.int .i64 r1, .string r2, .int .i64 r3, .int .i64 r4, .int .i64 r5, .int .i64 r6, .bool r7, .int .i64 r8, .int .i64 r9]) ∧ Below w.heap.size w w' := by
 have hu24 := Tryd.underlying24
 have hu31 := Tryd.underlying31
 have HR0_2 := ak_ hr0_2
 have HC0_2 := ak_ hc0_2
 clear hr0_2 hc0_2
 have HB := ak_ (Below.refl w.heap.size w)
 have H : ((tick_Of.f a2).bind fun t103 => ((tick_Of.f a2).bind fun t104 => (some (a1, a0_0, t103, 0, 0, 0, false, t104, 0)))) = some (r1, r2, r3, r4, r5, r6, r7, r8, r9) := h
 clear h
 replace H := ob_ H
 obtain ⟨t103, A40, H⟩ := H
 replace H : ((tick_Of.f a2).bind fun t104 => (some (a1, a0_0, t103, 0, 0, 0, false, t104, 0))) = some (r1, r2, r3, r4, r5, r6, r7, r8, r9) := H
 have A4 := ak_ A40
 clear A40
 replace H := ob_ H
 obtain ⟨t104, A50, H⟩ := H
 replace H : (some (a1, a0_0, t103, 0, 0, 0, false, t104, 0)) = some (r1, r2, r3, r4, r5, r6, r7, r8, r9) := H
 have A5 := ak_ A50
 have E5 := ak_ (Option.some.inj (A5.out.symm.trans A4.out))
 clear A50
 simp only [Option.some.injEq, Prod.mk.injEq] at H
 obtain ⟨rfl, rfl, rfl, rfl, rfl, rfl, rfl, rfl, rfl⟩ := H
 go_enter Tryd.func11, Tryd.ntmps11
 try go_wp2_with (first | ((with_reducible refine gate_dst (N := 3) rfl ?_); refine box_event ?hg (N := 3) ?hd (cs := #[.string a0_0, .int .i64 a0_1, .slice A0_2 l0_2.length c0_2]) (t := 24) ?hr ?_; (case hd | hg => rfl); (case hr => first | (go_simp; done) | (go_simp; rfl)); intro gb101 hg w6 hbox hb; have n0_ := ak_ (ps (by with_reducible repeat first | exact HB.out | apply pa | apply pd | apply pe) hb); have n1_ := ak_ (hbox); have n2_ := ak_ ((by rw [hg]; exact (below_size (by with_reducible repeat first | exact HB.out | apply pa | apply pd | apply pe)) : w.heap.size ≤ gb101)); have n3_ := ak_ ((by rw [hg]; exact (below_size (by with_reducible repeat first | exact HB.out | apply pa | apply pd | apply pe)) : w.heap.size ≤ gb101)); clear HB; have HB := n0_; have BK101 := n1_; have GW101 := n2_; have GE101 := n3_; clear n0_ n1_ n2_ n3_ hb hbox hg) | ((with_reducible refine gate_dst (N := 6) rfl ?_); refine box_event ?hg (N := 6) ?hd (cs := #[.int .i64 0, .string ⟨#[]⟩, .int .i64 0, .int .i64 0, .int .i64 0, .int .i64 0, .bool false, .int .i64 0, .int .i64 0]) (t := 31) ?hr ?_; (case hd | hg => rfl); (case hr => first | (go_simp; done) | (go_simp; rfl)); intro gb102 hg w7 hbox hb; have n0_ := ak_ (blk_below (g := gb101) (o := .cells #[.string a0_0, .int .i64 a0_1, .slice A0_2 l0_2.length c0_2] 24 (0, 0)) (by (with_reducible repeat (first | apply zn | apply zd | apply za)); exact BK101.out) hb); have n1_ := ak_ (ps (by with_reducible repeat first | exact HB.out | apply pa | apply pd | apply pe | refine zs ?_ GE101.out) hb); have n2_ := ak_ (hbox); have n3_ := ak_ ((by rw [hg]; exact (below_size (by with_reducible repeat first | exact HB.out | apply pa | apply pd | apply pe | refine zs ?_ GE101.out)) : w.heap.size ≤ gb102)); have n4_ := ak_ ((by rw [hg]; exact (below_size (by with_reducible repeat first | exact HB.out | apply pa | apply pd | apply pe | refine zs ?_ GE101.out)) : w.heap.size ≤ gb102)); have n5_ := ak_ ((by rw [hg]; exact Nat.ne_of_lt (blk_lt (g := gb101) (by (with_reducible repeat (first | apply zn | apply zd | apply za)); exact BK101.out)) : gb101 ≠ gb102)); have n6_ := ak_ ((by rw [hg]; exact Nat.ne_of_gt (blk_lt (g := gb101) (by (with_reducible repeat (first | apply zn | apply zd | apply za)); exact BK101.out)) : gb102 ≠ gb101)); clear BK101 HB; have BK101 := n0_; have HB := n1_; have BK102 := n2_; have GW102 := n3_; have GE102 := n4_; have NB101_102 := n5_; have NB102_101 := n6_; clear n0_ n1_ n2_ n3_ n4_ n5_ n6_ hb hbox hg))
 have n0_ := ak_ (zd BK101.out)
 have n1_ := ak_ (zd BK102.out)
 have n2_ := ak_ (pe HB.out)
 clear BK101 BK102 HB
 have BK101 := n0_
 have BK102 := n1_
 have HB := n2_
 clear n0_ n1_ n2_
 refine start_ (n := 9) (S := fun w' => w'.cell? ⟨gb101, 0, none⟩ = some (.string a0_0) ∧ w'.cell? ⟨gb101, 1, none⟩ = some (.int .i64 a0_1) ∧ w'.cell? ⟨gb101, 2, none⟩ = some (.slice A0_2 l0_2.length c0_2)) (ds := []) #[false, false, false, false, false, false, false, false, false] (by kernel_rfl) rfl rfl ⟨(zc BK101.out 0).trans rfl, (zc BK101.out 1).trans rfl, (zc BK101.out 2).trans rfl⟩ (fun hHeld => ?_); refine with_tabW saga_Begin.tab1 saga_Begin.bits1 (fun HT_ HW_ => ?_)
 generalize w7.drew = w8 at BK101 BK102 HB hHeld ⊢
 refine pure_ (i := 0) (N := some 7) (v := ?_) (a' := ?_) (b_ 9 1) rfl rfl (any_of HT_.out (by kernel_rfl)) (fun _ _ _ h => h) (Or.inl ⟨by rfl, ?_⟩) ?_ ?_; rotate_left; (· intro w'; go_simp; with_reducible rfl); rotate_left; (· simp only [Act.put, sa_, sz_, ss_, i64_w, i32_w]; rfl)
 refine pure_ (i := 1) (N := some 8) (v := ?_) (a' := ?_) (b_ 9 3) rfl rfl (any_of HT_.out (by kernel_rfl)) (fun _ _ _ h => h) (Or.inl ⟨by rfl, ?_⟩) ?_ ?_; rotate_left; (· intro w'; go_simp; with_reducible rfl); rotate_left; (· simp only [Act.put, sa_, sz_, ss_, i64_w, i32_w]; rfl)
 refine pure_ (i := 3) (N := some 10) (v := ?_) (a' := ?_) (b_ 9 11) rfl rfl (any_of HT_.out (by kernel_rfl)) (fun _ _ _ h => h) (Or.inl ⟨by rfl, ?_⟩) ?_ ?_; rotate_left; (· intro w'; go_simp; with_reducible rfl); rotate_left; (· simp only [Act.put, sa_, sz_, ss_, i64_w, i32_w]; rfl)
 refine pure_ (i := 5) (N := some 12) (v := ?_) (a' := ?_) (b_ 9 43) rfl rfl (any_of HT_.out (by kernel_rfl)) (fun _ _ _ h => h) (Or.inl ⟨by rfl, ?_⟩) ?_ ?_; rotate_left; (· intro w'; go_simp; with_reducible rfl); rotate_left; (· simp only [Act.put, sa_, sz_, ss_, i64_w, i32_w]; rfl)
 refine take_ (i := 2) (N := some 9) (v := ?_) (a' := ?_) (b_ 9 47) rfl rfl (take_ofW HT_.out HW_.out (by kernel_rfl)) (fun _ _ _ h => h) (Or.inl ⟨by rfl, ?_⟩) hHeld ?_ ?_
 rotate_left
 · rintro w' ⟨s0, s1, s2⟩
   go_simp
   with_reducible rfl
 rotate_left
 · simp only [Act.put, sa_, sz_, ss_, i64_w, i32_w]
   rfl
 refine one_ (i := 4) (N := some 11) (b_ 9 63) rfl rfl (one_of HT_.out (by kernel_rfl)) (by decide) (fun K hK => ?_)
 refine goes_ Tryd.func33 (by kernel_rfl) rfl #[.int .i64 a2] (by rfl) rfl rfl (by (try simp only [mt_, mc_, mn_]); first | done | rfl) ?_
 with_reducible refine (tick_Of.calls a2 t103 _ A4.out).mono ?_
 rintro e w9 ⟨rfl, hb⟩
 refine ⟨_, rfl, ?_⟩
 have n0_ := ak_ (blk_below (g := gb101) (o := .cells #[.string a0_0, .int .i64 a0_1, .slice A0_2 l0_2.length c0_2] 24 (0, 0)) (by (with_reducible repeat (first | apply zn | apply zd | apply za)); exact BK101.out) hb)
 have n1_ := ak_ (blk_below (g := gb102) (o := .cells #[.int .i64 0, .string ⟨#[]⟩, .int .i64 0, .int .i64 0, .int .i64 0, .int .i64 0, .bool false, .int .i64 0, .int .i64 0] 31 (0, 0)) (by (with_reducible repeat (first | apply zn | apply zd | apply za)); exact BK102.out) hb)
 have n2_ := ak_ (ps (by with_reducible repeat first | exact HB.out | apply pa | apply pd | apply pe | refine zs ?_ GE101.out | refine zs ?_ GE102.out) hb)
 clear BK101 BK102 HB
 have BK101 := n0_
 have BK102 := n1_
 have HB := n2_
 clear n0_ n1_ n2_
 (try clear hb hk hi)
 refine hK.out _ _ ⟨(zc BK101.out 0).trans rfl, (zc BK101.out 1).trans rfl, (zc BK101.out 2).trans rfl⟩ (fun hHeld => ?_)
 clear hK K
 refine norm_ (a' := ?_) ?_ ?_
 rotate_left
 · show Act.put _ (some 11) _ = _
   simp only [Act.put, sa_, sz_, ss_, i64_w, i32_w]
   rfl
 refine one_ (i := 6) (N := some 13) (b_ 9 127) rfl rfl (one_of HT_.out (by kernel_rfl)) (by decide) (fun K hK => ?_)
 refine goes_ Tryd.func33 (by kernel_rfl) rfl #[.int .i64 a2] (by rfl) rfl rfl (by (try simp only [mt_, mc_, mn_]); first | done | rfl) ?_
 with_reducible refine (tick_Of.calls a2 t104 _ A5.out).mono ?_
 rintro e w10 ⟨rfl, hb⟩
 refine ⟨_, rfl, ?_⟩
 have n0_ := ak_ (blk_below (g := gb101) (o := .cells #[.string a0_0, .int .i64 a0_1, .slice A0_2 l0_2.length c0_2] 24 (0, 0)) (by (with_reducible repeat (first | apply zn | apply zd | apply za)); exact BK101.out) hb)
 have n1_ := ak_ (blk_below (g := gb102) (o := .cells #[.int .i64 0, .string ⟨#[]⟩, .int .i64 0, .int .i64 0, .int .i64 0, .int .i64 0, .bool false, .int .i64 0, .int .i64 0] 31 (0, 0)) (by (with_reducible repeat (first | apply zn | apply zd | apply za)); exact BK102.out) hb)
 have n2_ := ak_ (ps (by with_reducible repeat first | exact HB.out | apply pa | apply pd | apply pe | refine zs ?_ GE101.out | refine zs ?_ GE102.out) hb)
 clear BK101 BK102 HB
 have BK101 := n0_
 have BK102 := n1_
 have HB := n2_
 clear n0_ n1_ n2_
 (try clear hb hk hi)
 refine hK.out _ _ ⟨(zc BK101.out 0).trans rfl, (zc BK101.out 1).trans rfl, (zc BK101.out 2).trans rfl⟩ (fun hHeld => ?_)
 clear hK K
 refine norm_ (a' := ?_) ?_ ?_
 rotate_left
 · show Act.put _ (some 13) _ = _
   simp only [Act.put, sa_, sz_, ss_, i64_w, i32_w]
   rfl
 refine pure_ (i := 7) (N := some 14) (v := ?_) (a' := ?_) (b_ 9 255) rfl rfl (any_of HT_.out (by kernel_rfl)) (fun _ _ _ h => h) (Or.inl ⟨by rfl, ?_⟩) ?_ ?_; rotate_left; (· intro w'; go_simp; with_reducible rfl); rotate_left; (· simp only [Act.put, sa_, sz_, ss_, i64_w, i32_w]; rfl)
 refine one_ (i := 8) (N := none) (b_ 9 511) rfl rfl (one_of HT_.out (by kernel_rfl)) (by decide) (fun K hK => ?_)
 have hs11 : w10.cell? ⟨gb102, 0, none⟩ = some (.int .i64 0) := (zc BK102.out 0).trans rfl
 have hfs11 := zf BK102.out 0
 have hns11_0 := NB101_102.out
 have hms11_0 := NB102_101.out
 have hs12 : w10.cell? ⟨gb102, 1, none⟩ = some (.string ⟨#[]⟩) := (zc BK102.out 1).trans rfl
 have hfs12 := zf BK102.out 1
 have hns12_0 := NB101_102.out
 have hms12_0 := NB102_101.out
 have hs13 : w10.cell? ⟨gb102, 2, none⟩ = some (.int .i64 0) := (zc BK102.out 2).trans rfl
 have hfs13 := zf BK102.out 2
 have hns13_0 := NB101_102.out
 have hms13_0 := NB102_101.out
 have hs14 : w10.cell? ⟨gb102, 3, none⟩ = some (.int .i64 0) := (zc BK102.out 3).trans rfl
 have hfs14 := zf BK102.out 3
 have hns14_0 := NB101_102.out
 have hms14_0 := NB102_101.out
 have hs15 : w10.cell? ⟨gb102, 4, none⟩ = some (.int .i64 0) := (zc BK102.out 4).trans rfl
 have hfs15 := zf BK102.out 4
 have hns15_0 := NB101_102.out
 have hms15_0 := NB102_101.out
 have hs16 : w10.cell? ⟨gb102, 5, none⟩ = some (.int .i64 0) := (zc BK102.out 5).trans rfl
 have hfs16 := zf BK102.out 5
 have hns16_0 := NB101_102.out
 have hms16_0 := NB102_101.out
 have hs17 : w10.cell? ⟨gb102, 6, none⟩ = some (.bool false) := (zc BK102.out 6).trans rfl
 have hfs17 := zf BK102.out 6
 have hns17_0 := NB101_102.out
 have hms17_0 := NB102_101.out
 have hs18 : w10.cell? ⟨gb102, 7, none⟩ = some (.int .i64 0) := (zc BK102.out 7).trans rfl
 have hfs18 := zf BK102.out 7
 have hns18_0 := NB101_102.out
 have hms18_0 := NB102_101.out
 have hs19 : w10.cell? ⟨gb102, 8, none⟩ = some (.int .i64 0) := (zc BK102.out 8).trans rfl
 have hfs19 := zf BK102.out 8
 have hns19_0 := NB101_102.out
 have hms19_0 := NB102_101.out
 refine skip_ (w1 := ?_) (by rfl) rfl ?_ ?_
 rotate_left
 · go_simp
   rfl
 refine hK.out _ _ ⟨((cell_far (p := ⟨gb102, _, none⟩) NB101_102.out _).trans (((cell_far (p := ⟨gb102, _, none⟩) NB101_102.out _).trans (((cell_far (p := ⟨gb102, _, none⟩) NB101_102.out _).trans (((cell_far (p := ⟨gb102, _, none⟩) NB101_102.out _).trans (((cell_far (p := ⟨gb102, _, none⟩) NB101_102.out _).trans (((cell_far (p := ⟨gb102, _, none⟩) NB101_102.out _).trans (((cell_far (p := ⟨gb102, _, none⟩) NB101_102.out _).trans (((cell_far (p := ⟨gb102, _, none⟩) NB101_102.out _).trans (((cell_far (p := ⟨gb102, _, none⟩) NB101_102.out _).trans (hHeld.1)))))))))))))))))), ((cell_far (p := ⟨gb102, _, none⟩) NB101_102.out _).trans (((cell_far (p := ⟨gb102, _, none⟩) NB101_102.out _).trans (((cell_far (p := ⟨gb102, _, none⟩) NB101_102.out _).trans (((cell_far (p := ⟨gb102, _, none⟩) NB101_102.out _).trans (((cell_far (p := ⟨gb102, _, none⟩) NB101_102.out _).trans (((cell_far (p := ⟨gb102, _, none⟩) NB101_102.out _).trans (((cell_far (p := ⟨gb102, _, none⟩) NB101_102.out _).trans (((cell_far (p := ⟨gb102, _, none⟩) NB101_102.out _).trans (((cell_far (p := ⟨gb102, _, none⟩) NB101_102.out _).trans (hHeld.2.1)))))))))))))))))), ((cell_far (p := ⟨gb102, _, none⟩) NB101_102.out _).trans (((cell_far (p := ⟨gb102, _, none⟩) NB101_102.out _).trans (((cell_far (p := ⟨gb102, _, none⟩) NB101_102.out _).trans (((cell_far (p := ⟨gb102, _, none⟩) NB101_102.out _).trans (((cell_far (p := ⟨gb102, _, none⟩) NB101_102.out _).trans (((cell_far (p := ⟨gb102, _, none⟩) NB101_102.out _).trans (((cell_far (p := ⟨gb102, _, none⟩) NB101_102.out _).trans (((cell_far (p := ⟨gb102, _, none⟩) NB101_102.out _).trans (((cell_far (p := ⟨gb102, _, none⟩) NB101_102.out _).trans (hHeld.2.2))))))))))))))))))⟩ (fun hHeld => ?_)
 clear hK K
 refine done_ (done_of HT_.out (by kernel_rfl)) ?_
 try go_wp2
 refine bodyPost_ret (results_cell_row rfl _ _ gb102 31 #[.int .i64 a1, .string a0_0, .int .i64 t103, .int .i64 0, .int .i64 0, .int .i64 0, .bool false, .int .i64 t104, .int .i64 0] (0, 0) _ rfl (by (with_reducible repeat (first | apply zn | apply zd | apply za)); refine zp (cs := #[.int .i64 a1, .string a0_0, .int .i64 t103, .int .i64 0, .int .i64 0, .int .i64 0, .bool false, .int .i64 t104, .int .i64 0]) ?_ 8 _ rfl; (with_reducible repeat (first | apply zn | apply zd | apply za)); refine zp (cs := #[.int .i64 a1, .string a0_0, .int .i64 t103, .int .i64 0, .int .i64 0, .int .i64 0, .bool false, .int .i64 0, .int .i64 0]) ?_ 7 _ rfl; (with_reducible repeat (first | apply zn | apply zd | apply za)); refine zp (cs := #[.int .i64 a1, .string a0_0, .int .i64 t103, .int .i64 0, .int .i64 0, .int .i64 0, .bool false, .int .i64 0, .int .i64 0]) ?_ 6 _ rfl; (with_reducible repeat (first | apply zn | apply zd | apply za)); refine zp (cs := #[.int .i64 a1, .string a0_0, .int .i64 t103, .int .i64 0, .int .i64 0, .int .i64 0, .bool false, .int .i64 0, .int .i64 0]) ?_ 5 _ rfl; (with_reducible repeat (first | apply zn | apply zd | apply za)); refine zp (cs := #[.int .i64 a1, .string a0_0, .int .i64 t103, .int .i64 0, .int .i64 0, .int .i64 0, .bool false, .int .i64 0, .int .i64 0]) ?_ 4 _ rfl; (with_reducible repeat (first | apply zn | apply zd | apply za)); refine zp (cs := #[.int .i64 a1, .string a0_0, .int .i64 t103, .int .i64 0, .int .i64 0, .int .i64 0, .bool false, .int .i64 0, .int .i64 0]) ?_ 3 _ rfl; (with_reducible repeat (first | apply zn | apply zd | apply za)); refine zp (cs := #[.int .i64 a1, .string a0_0, .int .i64 0, .int .i64 0, .int .i64 0, .int .i64 0, .bool false, .int .i64 0, .int .i64 0]) ?_ 2 _ rfl; (with_reducible repeat (first | apply zn | apply zd | apply za)); refine zp (cs := #[.int .i64 a1, .string ⟨#[]⟩, .int .i64 0, .int .i64 0, .int .i64 0, .int .i64 0, .bool false, .int .i64 0, .int .i64 0]) ?_ 1 _ rfl; (with_reducible repeat (first | apply zn | apply zd | apply za)); refine zp (cs := #[.int .i64 0, .string ⟨#[]⟩, .int .i64 0, .int .i64 0, .int .i64 0, .int .i64 0, .bool false, .int .i64 0, .int .i64 0]) ?_ 0 _ rfl; (with_reducible repeat (first | apply zn | apply zd | apply za)); exact BK102.out) Tryd.underlying31 rfl (by kernel_rfl)) rfl ?_
 exact ⟨by first | rfl | (simp only [E5.out]; done) | (simp only [E5.out]; rfl) | (simp [errW_none, errW_some] <;> rfl) | (simp [*, errW_none, errW_some] <;> rfl), by repeat (first | (with_reducible first | exact HB.out | apply pa | apply pd | apply pe | refine zs ?_ GE101.out | refine zs ?_ GE102.out) | exact HB.out)⟩
def strconv_bool2_int.f (a0 : Bool) : Option (Int) := if a0 = true then (some 1) else (some 0)
def strconv_isPowerOfTwo.f (a0 : Int) : Option (Bool) := some ((Go.bits .and .i64 a0 (wrap64 (a0 - 1))) == 0)
def def_way.f (a0 : Bool) : Option (ByteArray) := if a0 = true then (some (⟨#[117, 110, 100, 111]⟩ : ByteArray)) else (some (⟨#[100, 111]⟩ : ByteArray))
theorem def_way.calls (a0 : Bool) (r : ByteArray) (w : World) (h : def_way.f a0 = some r) :
 Calls Tryd.prog 70 #[.bool a0] w fun e w' => e = .returned (.string r) ∧ Drawn0 w w' := by
 have H : (if a0 = true then (some (⟨#[117, 110, 100, 111]⟩ : ByteArray)) else (some (⟨#[100, 111]⟩ : ByteArray))) = some r := h
 clear h
 have HF2 := ak_ H
 clear H
 go_enter Tryd.func70, Tryd.ntmps70
 go_upto_if 3 with (fail)
 have H := HF2.out
 clear HF2
 by_cases c3 : a0 = true
 · subst c3
   have H1 : (some (⟨#[117, 110, 100, 111]⟩ : ByteArray)) = some r := by rw [if_pos rfl] at H; exact H
   clear H
   have H := H1
   clear H1
   obtain rfl := Option.some.inj H
   go_wp2
   go_ret
   exact ⟨by first | rfl | simp [*], by repeat (first | exact Drawn0.refl _ | apply Drawn0.step)⟩
 · replace c3 := Bool.eq_false_iff.mpr c3
   subst c3
   have H1 : (some (⟨#[100, 111]⟩ : ByteArray)) = some r := by rw [if_neg (show ¬ (false = true) by decide)] at H; exact H
   clear H
   have H := H1
   clear H1
   obtain rfl := Option.some.inj H
   go_wp2
   go_ret
   exact ⟨by first | rfl | simp [*], by repeat (first | exact Drawn0.refl _ | apply Drawn0.step)⟩
def strconv_Itoa_69.f (a0 : Int) : Option (ByteArray) := if -9223372036854775808 ≤ a0 ∧ a0 ≤ 9223372036854775807 then some ⟨(Lib.itoa a0).toArray⟩ else none
theorem strconv_Itoa_69.calls (a0 : Int) (r : ByteArray) (w : World) (hTab_ : Tabs_ w) (h : strconv_Itoa_69.f a0 = some r) :
 Calls Tryd.prog 69 #[.int .i64 a0] w fun e w' => e = .returned (.string r) ∧ Below w.heap.size w w' := by
 unfold strconv_Itoa_69.f at h
 by_cases hl : -9223372036854775808 ≤ a0 ∧ a0 ≤ 9223372036854775807
 · rw [if_pos hl] at h
   obtain rfl := Option.some.inj h
   refine (Tryd.strconv_Itoa a0 hl.1 hl.2 w hTab_.2).mono ?_
   rintro e w' ⟨rfl, k, os, rfl⟩
   exact ⟨rfl, Lib.below_grow _ w (Nat.le_refl _) k os⟩
 · rw [if_neg hl] at h
   cases h
end Go.Proofs.YtmfddmhomkcikaaDoor.Q
