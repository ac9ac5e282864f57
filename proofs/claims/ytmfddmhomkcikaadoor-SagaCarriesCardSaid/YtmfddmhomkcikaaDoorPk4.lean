/- Part 4 of a claim's texts. -/
import Derived.Test.YtmfddmhomkcikaaDoorPk1
import Derived.Test.YtmfddmhomkcikaaDoorPk3
import Derived.Test.YtmfddmhomkcikaaDoorPk2
namespace Go.Proofs.YtmfddmhomkcikaaDoor.Q
open Go.RowKit Go.Proofs.YtmfddmhomkcikaaDoorW.PrintWords Go.Proofs.YtmfddmhomkcikaaDoorW.PrintLast Go.Proofs.YtmfddmhomkcikaaDoorW.PrintMore
attribute [local go_sem] max2_int min2_int max_two min_two max_three min_three max_four min_four
set_option linter.unusedVariables false
set_option linter.unusedSimpArgs false
set_option maxHeartbeats 8000000
set_option maxRecDepth 100000
open Go.Proofs.YtmfddmhomkcikaaDoor.Q.H_
def backoff_Left.f (a0_0 : Int) (a0_1 : Int) (a0_2 : Int) (a0_3 : Int) (a1 : Int) : Option (Int) := (backoff_Good.f a0_0 a0_1 a0_2 a0_3).bind fun t120 => (if t120 = true then (some (mx (wrap64 ((wrap64 (a0_0 + 1)) - (mx a1 0))) 0)) else (some 0))
theorem backoff_Left.calls (a0_0 : Int) (a0_1 : Int) (a0_2 : Int) (a0_3 : Int) (a1 : Int) (r : Int) (w : World) (h : backoff_Left.f a0_0 a0_1 a0_2 a0_3 a1 = some r) :
 Calls Tryd.prog 55 #[.agg #[.int .i64 a0_0, .int .i64 a0_1, .int .i64 a0_2, .int .i64 a0_3], .int .i64 a1] w fun e w' => e = .returned (.int .i64 r) ∧ Below w.heap.size w w' := by
 have hu54 := Tryd.underlying54
 have HB := ak_ (Below.refl w.heap.size w)
 have H : ((backoff_Good.f a0_0 a0_1 a0_2 a0_3).bind fun t120 => (if t120 = true then (some (mx (wrap64 ((wrap64 (a0_0 + 1)) - (mx a1 0))) 0)) else (some 0))) = some r := h
 clear h
 replace H := ob_ H
 obtain ⟨t120, A30, H⟩ := H
 replace H : (if t120 = true then (some (mx (wrap64 ((wrap64 (a0_0 + 1)) - (mx a1 0))) 0)) else (some 0)) = some r := H
 have A3 := ak_ A30
 clear A30
 have HF4 := ak_ H
 clear H
 go_enter Tryd.func55, Tryd.ntmps55
 go_upto_if 7 with (first | ((with_reducible refine gate_dst (N := 2) rfl ?_); refine box_event ?hg (N := 2) ?hd (cs := #[.int .i64 a0_0, .int .i64 a0_1, .int .i64 a0_2, .int .i64 a0_3]) (t := 54) ?hr ?_; (case hd | hg => rfl); (case hr => first | (go_simp; done) | (go_simp; rfl)); intro gb119 hg w5 hbox hb; have n0_ := ak_ (below_step (by with_reducible repeat first | exact HB.out | apply below_alloc | apply pw_below_drewN | apply below_drew1) hb); have n1_ := ak_ (hbox); have n2_ := ak_ ((by rw [hg]; exact (below_size (by with_reducible repeat first | exact HB.out | apply below_alloc | apply pw_below_drewN | apply below_drew1)) : w.heap.size ≤ gb119)); have n3_ := ak_ ((by rw [hg]; exact (below_size (by with_reducible repeat first | exact HB.out | apply below_alloc | apply pw_below_drewN | apply below_drew1)) : w.heap.size ≤ gb119)); clear HB; have HB := n0_; have BK119 := n1_; have GW119 := n2_; have GE119 := n3_; clear n0_ n1_ n2_ n3_ hb hbox hg; have hcz6_0 : w5.cell? ⟨gb119, 0, none⟩ = some (.int .i64 a0_0) := (zc BK119.out 0).trans rfl; have hcz6_1 : w5.cell? ⟨gb119, 1, none⟩ = some (.int .i64 a0_1) := (zc BK119.out 1).trans rfl; have hcz6_2 : w5.cell? ⟨gb119, 2, none⟩ = some (.int .i64 a0_2) := (zc BK119.out 2).trans rfl; have hcz6_3 : w5.cell? ⟨gb119, 3, none⟩ = some (.int .i64 a0_3) := (zc BK119.out 3).trans rfl; have hfz6_0 := zf BK119.out 0; have hfz6_1 := zf BK119.out 1; have hfz6_2 := zf BK119.out 2; have hfz6_3 := zf BK119.out 3) | ((with_reducible refine gate_callee (f := 77) rfl ?_); refine goesL_ (some 6) rfl rfl Tryd.func77 (by kernel_rfl) rfl #[.agg #[.int .i64 a0_0, .int .i64 a0_1, .int .i64 a0_2, .int .i64 a0_3]] rfl (by (try simp only [mt_, mc_, mn_]); first | done | rfl) ?_; (with_reducible refine (backoff_Good.calls a0_0 a0_1 a0_2 a0_3 t120 _ A3.out).mono ?_); rintro e w7 ⟨rfl, hb⟩; refine ⟨_, rfl, ?_⟩; have n0_ := ak_ (blk_below (g := gb119) (o := .cells #[.int .i64 a0_0, .int .i64 a0_1, .int .i64 a0_2, .int .i64 a0_3] 54 (0, 0)) (by (with_reducible repeat (first | refine blk_drewN ?_ _ | refine blk_drew ?_ | refine blk_alloc ?_ _)); exact BK119.out) hb); have n1_ := ak_ (below_step (by with_reducible repeat first | exact HB.out | apply below_alloc | apply pw_below_drewN | apply below_drew1 | refine below_set ?_ GE119.out) hb); clear BK119 HB; have BK119 := n0_; have HB := n1_; clear n0_ n1_))
 (try simp only [Act.put, sa_, sz_, ss_])
 have H := HF4.out
 clear HF4
 by_cases c8 : t120 = true
 · subst c8
   have H1 : (some (mx (wrap64 ((wrap64 (a0_0 + 1)) - (mx a1 0))) 0)) = some r := by rw [if_pos rfl] at H; exact H
   clear H
   have H := H1
   clear H1
   obtain ⟨ji9, hji9⟩ : ∃ j_ : Int, (mx a1 0) = j_ := ⟨_, rfl⟩
   replace H : (some (mx (wrap64 ((wrap64 (a0_0 + 1)) - (ji9))) 0)) = some r := by first | (rw [hji9] at H; exact H) | (simp only [hji9] at H ⊢; exact H)
   (try (have hji9l : 0 ≤ ji9 := by (rw [← hji9]; unfold mx; (repeat' split) <;> omega)))
   (try (have hji9m : 0 ≤ ji9 := by omega))
   have hji9_ : (if a1 < 0 then 0 else a1) = ji9 := hji9
   obtain ⟨ji10, hji10⟩ : ∃ j_ : Int, (mx (wrap64 ((wrap64 (a0_0 + 1)) - (ji9))) 0) = j_ := ⟨_, rfl⟩
   replace H : (some ji10) = some r := by first | (rw [hji10] at H; exact H) | (simp only [hji10] at H ⊢; exact H)
   have hji10_ : (if (wrap64 ((wrap64 (a0_0 + 1)) - (ji9))) < 0 then 0 else (wrap64 ((wrap64 (a0_0 + 1)) - (ji9)))) = ji10 := hji10
   obtain rfl := Option.some.inj H
   have hcz11_0 : w7.cell? ⟨gb119, 0, none⟩ = some (.int .i64 a0_0) := (zc BK119.out 0).trans rfl
   have hcz11_1 : w7.cell? ⟨gb119, 1, none⟩ = some (.int .i64 a0_1) := (zc BK119.out 1).trans rfl
   have hcz11_2 : w7.cell? ⟨gb119, 2, none⟩ = some (.int .i64 a0_2) := (zc BK119.out 2).trans rfl
   have hcz11_3 : w7.cell? ⟨gb119, 3, none⟩ = some (.int .i64 a0_3) := (zc BK119.out 3).trans rfl
   have hfz11_0 := zf BK119.out 0
   have hfz11_1 := zf BK119.out 1
   have hfz11_2 := zf BK119.out 2
   have hfz11_3 := zf BK119.out 3
   go_wp2
   go_ret
   exact ⟨by first | rfl | (simp [errW_none, errW_some] <;> rfl) | (simp only [← hji9, ← hji10]; first | rfl | (simp [errW_none, errW_some] <;> rfl)) | (simp [*, errW_none, errW_some] <;> rfl), by repeat (first | (with_reducible first | exact HB.out | apply below_alloc | apply pw_below_drewN | apply below_drew1 | refine below_set ?_ GE119.out) | exact HB.out)⟩
 · replace c8 := Bool.eq_false_iff.mpr c8
   subst c8
   have H1 : (some 0) = some r := by rw [if_neg (show ¬ (false = true) by decide)] at H; exact H
   clear H
   have H := H1
   clear H1
   obtain rfl := Option.some.inj H
   go_wp2
   go_ret
   exact ⟨by first | rfl | simp [*], by repeat (first | (with_reducible first | exact HB.out | apply below_alloc | apply pw_below_drewN | apply below_drew1 | refine below_set ?_ GE119.out) | exact HB.out)⟩
def saga_plan.f (a0_0 : ByteArray) (a0_1 : Int) (l0_2 : List (S70)) (a1_0 : Int) (a1_1 : ByteArray) (a1_2 : Int) (a1_3 : Int) (a1_4 : Int) (a1_5 : Int) (a1_6 : Bool) (a1_7 : Int) (a1_8 : Int) : Option (Int × Int × Int × Int) := if a1_3 = 0 then (if 0 ≤ a1_4 then (if a1_4 < (l0_2.length : Int) then (some ((rd_T70 l0_2 a1_4).f3.f0, (rd_T70 l0_2 a1_4).f3.f1, (rd_T70 l0_2 a1_4).f3.f2, (rd_T70 l0_2 a1_4).f3.f3)) else (none)) else (none)) else (if 0 ≤ a1_4 then (if a1_4 < (l0_2.length : Int) then (some ((rd_T70 l0_2 a1_4).f4.f0, (rd_T70 l0_2 a1_4).f4.f1, (rd_T70 l0_2 a1_4).f4.f2, (rd_T70 l0_2 a1_4).f4.f3)) else (none)) else (none))
theorem saga_plan.calls (a0_0 : ByteArray) (a0_1 : Int) (A0_2 : Option Addr) (c0_2 : Nat) (l0_2 : List (S70)) (a1_0 : Int) (a1_1 : ByteArray) (a1_2 : Int) (a1_3 : Int) (a1_4 : Int) (a1_5 : Int) (a1_6 : Bool) (a1_7 : Int) (a1_8 : Int) (r1 : Int) (r2 : Int) (r3 : Int) (r4 : Int) (w : World) (hr0_2 : Kd.C k70 w A0_2 l0_2.length l0_2) (hc0_2 : l0_2.length ≤ c0_2) (h : saga_plan.f a0_0 a0_1 l0_2 a1_0 a1_1 a1_2 a1_3 a1_4 a1_5 a1_6 a1_7 a1_8 = some (r1, r2, r3, r4)) :
 Calls Tryd.prog 56 #[.agg #[.string a0_0, .int .i64 a0_1, .slice A0_2 l0_2.length c0_2], .agg #[.int .i64 a1_0, .string a1_1, .int .i64 a1_2, .int .i64 a1_3, .int .i64 a1_4, .int .i64 a1_5, .bool a1_6, .int .i64 a1_7, .int .i64 a1_8]] w fun e w' => e = .returned (.agg #[.int .i64 r1, .int .i64 r2, .int .i64 r3, .int .i64 r4]) ∧ Below w.heap.size w w' := by
 have hu24 := Tryd.underlying24
 have hu31 := Tryd.underlying31
 have hu54 := Tryd.underlying54
 have HR0_2 := ak_ hr0_2
 have HC0_2 := ak_ hc0_2
 clear hr0_2 hc0_2
 have HB := ak_ (Below.refl w.heap.size w)
 have H : (if a1_3 = 0 then (if 0 ≤ a1_4 then (if a1_4 < (l0_2.length : Int) then (some ((rd_T70 l0_2 a1_4).f3.f0, (rd_T70 l0_2 a1_4).f3.f1, (rd_T70 l0_2 a1_4).f3.f2, (rd_T70 l0_2 a1_4).f3.f3)) else (none)) else (none)) else (if 0 ≤ a1_4 then (if a1_4 < (l0_2.length : Int) then (some ((rd_T70 l0_2 a1_4).f4.f0, (rd_T70 l0_2 a1_4).f4.f1, (rd_T70 l0_2 a1_4).f4.f2, (rd_T70 l0_2 a1_4).f4.f3)) else (none)) else (none))) = some (r1, r2, r3, r4) := h
 clear h
 have HF3 := ak_ H
 clear H
 go_enter Tryd.func56, Tryd.ntmps56
 go_upto_if 7 with (first | ((with_reducible refine gate_dst (N := 2) rfl ?_); refine box_event ?hg (N := 2) ?hd (cs := #[.string a0_0, .int .i64 a0_1, .slice A0_2 l0_2.length c0_2]) (t := 24) ?hr ?_; (case hd | hg => rfl); (case hr => first | (go_simp; done) | (go_simp; rfl)); intro gb121 hg w4 hbox hb; have n0_ := ak_ (ps (by with_reducible repeat first | exact HB.out | apply pa | apply pd | apply pe) hb); have n1_ := ak_ (hbox); have n2_ := ak_ ((by rw [hg]; exact (below_size (by with_reducible repeat first | exact HB.out | apply pa | apply pd | apply pe)) : w.heap.size ≤ gb121)); have n3_ := ak_ ((by rw [hg]; exact (below_size (by with_reducible repeat first | exact HB.out | apply pa | apply pd | apply pe)) : w.heap.size ≤ gb121)); clear HB; have HB := n0_; have BK121 := n1_; have GW121 := n2_; have GE121 := n3_; clear n0_ n1_ n2_ n3_ hb hbox hg) | ((with_reducible refine gate_dst (N := 3) rfl ?_); refine box_event ?hg (N := 3) ?hd (cs := #[.int .i64 a1_0, .string a1_1, .int .i64 a1_2, .int .i64 a1_3, .int .i64 a1_4, .int .i64 a1_5, .bool a1_6, .int .i64 a1_7, .int .i64 a1_8]) (t := 31) ?hr ?_; (case hd | hg => rfl); (case hr => first | (go_simp; done) | (go_simp; rfl)); intro gb122 hg w5 hbox hb; have n0_ := ak_ (blk_below (g := gb121) (o := .cells #[.string a0_0, .int .i64 a0_1, .slice A0_2 l0_2.length c0_2] 24 (0, 0)) (by (with_reducible repeat (first | apply zn | apply zd | apply za)); exact BK121.out) hb); have n1_ := ak_ (ps (by with_reducible repeat first | exact HB.out | apply pa | apply pd | apply pe | refine zs ?_ GE121.out) hb); have n2_ := ak_ (hbox); have n3_ := ak_ ((by rw [hg]; exact (below_size (by with_reducible repeat first | exact HB.out | apply pa | apply pd | apply pe | refine zs ?_ GE121.out)) : w.heap.size ≤ gb122)); have n4_ := ak_ ((by rw [hg]; exact (below_size (by with_reducible repeat first | exact HB.out | apply pa | apply pd | apply pe | refine zs ?_ GE121.out)) : w.heap.size ≤ gb122)); have n5_ := ak_ ((by rw [hg]; exact Nat.ne_of_lt (blk_lt (g := gb121) (by (with_reducible repeat (first | apply zn | apply zd | apply za)); exact BK121.out)) : gb121 ≠ gb122)); have n6_ := ak_ ((by rw [hg]; exact Nat.ne_of_gt (blk_lt (g := gb121) (by (with_reducible repeat (first | apply zn | apply zd | apply za)); exact BK121.out)) : gb122 ≠ gb121)); clear BK121 HB; have BK121 := n0_; have HB := n1_; have BK122 := n2_; have GW122 := n3_; have GE122 := n4_; have NB121_122 := n5_; have NB122_121 := n6_; clear n0_ n1_ n2_ n3_ n4_ n5_ n6_ hb hbox hg) | ((with_reducible refine gate_dst (N := 4) rfl ?_); refine box_event ?hg (N := 4) ?hd (cs := #[.int .i64 0, .int .i64 0, .int .i64 0, .int .i64 0]) (t := 54) ?hr ?_; (case hd | hg => rfl); (case hr => first | (go_simp; done) | (go_simp; rfl)); intro gb123 hg w6 hbox hb; have n0_ := ak_ (blk_below (g := gb121) (o := .cells #[.string a0_0, .int .i64 a0_1, .slice A0_2 l0_2.length c0_2] 24 (0, 0)) (by (with_reducible repeat (first | apply zn | apply zd | apply za)); exact BK121.out) hb); have n1_ := ak_ (blk_below (g := gb122) (o := .cells #[.int .i64 a1_0, .string a1_1, .int .i64 a1_2, .int .i64 a1_3, .int .i64 a1_4, .int .i64 a1_5, .bool a1_6, .int .i64 a1_7, .int .i64 a1_8] 31 (0, 0)) (by (with_reducible repeat (first | apply zn | apply zd | apply za)); exact BK122.out) hb); have n2_ := ak_ (ps (by with_reducible repeat first | exact HB.out | apply pa | apply pd | apply pe | refine zs ?_ GE121.out | refine zs ?_ GE122.out) hb); have n3_ := ak_ (hbox); have n4_ := ak_ ((by rw [hg]; exact (below_size (by with_reducible repeat first | exact HB.out | apply pa | apply pd | apply pe | refine zs ?_ GE121.out | refine zs ?_ GE122.out)) : w.heap.size ≤ gb123)); have n5_ := ak_ ((by rw [hg]; exact (below_size (by with_reducible repeat first | exact HB.out | apply pa | apply pd | apply pe | refine zs ?_ GE121.out | refine zs ?_ GE122.out)) : w.heap.size ≤ gb123)); have n6_ := ak_ ((by rw [hg]; exact Nat.ne_of_lt (blk_lt (g := gb121) (by (with_reducible repeat (first | apply zn | apply zd | apply za)); exact BK121.out)) : gb121 ≠ gb123)); have n7_ := ak_ ((by rw [hg]; exact Nat.ne_of_gt (blk_lt (g := gb121) (by (with_reducible repeat (first | apply zn | apply zd | apply za)); exact BK121.out)) : gb123 ≠ gb121)); have n8_ := ak_ ((by rw [hg]; exact Nat.ne_of_lt (blk_lt (g := gb122) (by (with_reducible repeat (first | apply zn | apply zd | apply za)); exact BK122.out)) : gb122 ≠ gb123)); have n9_ := ak_ ((by rw [hg]; exact Nat.ne_of_gt (blk_lt (g := gb122) (by (with_reducible repeat (first | apply zn | apply zd | apply za)); exact BK122.out)) : gb123 ≠ gb122)); clear BK121 BK122 HB; have BK121 := n0_; have BK122 := n1_; have HB := n2_; have BK123 := n3_; have GW123 := n4_; have GE123 := n5_; have NB121_123 := n6_; have NB123_121 := n7_; have NB122_123 := n8_; have NB123_122 := n9_; clear n0_ n1_ n2_ n3_ n4_ n5_ n6_ n7_ n8_ n9_ hb hbox hg; have hnb7 := NB122_121.out; have hnc7 := NB121_122.out; have hnb8 := NB122_123.out; have hnc8 := NB123_122.out; have hcz9_0 : w6.cell? ⟨gb122, 0, none⟩ = some (.int .i64 a1_0) := (zc BK122.out 0).trans rfl; have hcz9_1 : w6.cell? ⟨gb122, 1, none⟩ = some (.string a1_1) := (zc BK122.out 1).trans rfl; have hcz9_2 : w6.cell? ⟨gb122, 2, none⟩ = some (.int .i64 a1_2) := (zc BK122.out 2).trans rfl; have hcz9_3 : w6.cell? ⟨gb122, 3, none⟩ = some (.int .i64 a1_3) := (zc BK122.out 3).trans rfl; have hcz9_4 : w6.cell? ⟨gb122, 4, none⟩ = some (.int .i64 a1_4) := (zc BK122.out 4).trans rfl; have hcz9_5 : w6.cell? ⟨gb122, 5, none⟩ = some (.int .i64 a1_5) := (zc BK122.out 5).trans rfl; have hcz9_6 : w6.cell? ⟨gb122, 6, none⟩ = some (.bool a1_6) := (zc BK122.out 6).trans rfl; have hcz9_7 : w6.cell? ⟨gb122, 7, none⟩ = some (.int .i64 a1_7) := (zc BK122.out 7).trans rfl; have hcz9_8 : w6.cell? ⟨gb122, 8, none⟩ = some (.int .i64 a1_8) := (zc BK122.out 8).trans rfl; have hfz9_0 := zf BK122.out 0; have hfz9_1 := zf BK122.out 1; have hfz9_2 := zf BK122.out 2; have hfz9_3 := zf BK122.out 3; have hfz9_4 := zf BK122.out 4; have hfz9_5 := zf BK122.out 5; have hfz9_6 := zf BK122.out 6; have hfz9_7 := zf BK122.out 7; have hfz9_8 := zf BK122.out 8))
 (try simp only [Act.put, sa_, sz_, ss_])
 have H := HF3.out
 clear HF3
 by_cases c10 : a1_3 = 0
 · rw [if_pos c10] at H
   have c10b0 : (a1_3 == 0) = true := beq_iff_eq.mpr c10
   have c10b1 : (a1_3 != 0) = false := bne_eq_false_iff_eq.mpr c10
   clear c10
   (first | rw [c10b0] | (simp only [i64_w, i32_w]; rw [c10b0]) | skip)
   by_cases c11 : 0 ≤ a1_4
   · rw [if_pos c11] at H
     have c11b0 : decide (0 ≤ a1_4) = true := dt_ c11
     clear c11
     by_cases c12 : a1_4 < (l0_2.length : Int)
     · rw [if_pos c12] at H
       have c12b0 : decide (a1_4 < (l0_2.length : Int)) = true := dt_ c12
       clear c12
       simp only [Option.some.injEq, Prod.mk.injEq] at H
       obtain ⟨rfl, rfl, rfl, rfl⟩ := H
       have hnb13 := NB121_122.out
       have hnc13 := NB122_121.out
       have hnb14 := NB121_123.out
       have hnc14 := NB123_121.out
       have hcz15_0 : w6.cell? ⟨gb121, 0, none⟩ = some (.string a0_0) := (zc BK121.out 0).trans rfl
       have hcz15_1 : w6.cell? ⟨gb121, 1, none⟩ = some (.int .i64 a0_1) := (zc BK121.out 1).trans rfl
       have hcz15_2 : w6.cell? ⟨gb121, 2, none⟩ = some (.slice A0_2 l0_2.length c0_2) := (zc BK121.out 2).trans rfl
       have hfz15_0 := zf BK121.out 0
       have hfz15_1 := zf BK121.out 1
       have hfz15_2 := zf BK121.out 2
       have hnb16 := NB122_123.out
       have hnc16 := NB123_122.out
       have hcz17_0 : w6.cell? ⟨gb122, 0, none⟩ = some (.int .i64 a1_0) := (zc BK122.out 0).trans rfl
       have hcz17_1 : w6.cell? ⟨gb122, 1, none⟩ = some (.string a1_1) := (zc BK122.out 1).trans rfl
       have hcz17_2 : w6.cell? ⟨gb122, 2, none⟩ = some (.int .i64 a1_2) := (zc BK122.out 2).trans rfl
       have hcz17_3 : w6.cell? ⟨gb122, 3, none⟩ = some (.int .i64 a1_3) := (zc BK122.out 3).trans rfl
       have hcz17_4 : w6.cell? ⟨gb122, 4, none⟩ = some (.int .i64 a1_4) := (zc BK122.out 4).trans rfl
       have hcz17_5 : w6.cell? ⟨gb122, 5, none⟩ = some (.int .i64 a1_5) := (zc BK122.out 5).trans rfl
       have hcz17_6 : w6.cell? ⟨gb122, 6, none⟩ = some (.bool a1_6) := (zc BK122.out 6).trans rfl
       have hcz17_7 : w6.cell? ⟨gb122, 7, none⟩ = some (.int .i64 a1_7) := (zc BK122.out 7).trans rfl
       have hcz17_8 : w6.cell? ⟨gb122, 8, none⟩ = some (.int .i64 a1_8) := (zc BK122.out 8).trans rfl
       have hfz17_0 := zf BK122.out 0
       have hfz17_1 := zf BK122.out 1
       have hfz17_2 := zf BK122.out 2
       have hfz17_3 := zf BK122.out 3
       have hfz17_4 := zf BK122.out 4
       have hfz17_5 := zf BK122.out 5
       have hfz17_6 := zf BK122.out 6
       have hfz17_7 := zf BK122.out 7
       have hfz17_8 := zf BK122.out 8
       have p124 : 0 ≤ (a1_4 : Int) := of_decide_eq_true (by assumption)
       have q124 : a1_4 < (l0_2.length : Int) := of_decide_eq_true (by assumption)
       obtain ⟨ad124, e124, hx124_0, hx124_1, hx124_2, hx124_3, hx124_4, hx124_5, hx124_6, hx124_7, hx124_8, hx124_9, hx124_10, hx124_11⟩ := at_T70 HR0_2.out a1_4 p124 q124
       cases e124
       replace hx124_0 := (HB.out.cell (bl_ w _ hx124_0)).trans hx124_0
       replace hx124_1 := (HB.out.cell (bl_ w _ hx124_1)).trans hx124_1
       replace hx124_2 := (HB.out.cell (bl_ w _ hx124_2)).trans hx124_2
       replace hx124_3 := (HB.out.cell (bl_ w _ hx124_3)).trans hx124_3
       replace hx124_4 := (HB.out.cell (bl_ w _ hx124_4)).trans hx124_4
       replace hx124_5 := (HB.out.cell (bl_ w _ hx124_5)).trans hx124_5
       replace hx124_6 := (HB.out.cell (bl_ w _ hx124_6)).trans hx124_6
       replace hx124_7 := (HB.out.cell (bl_ w _ hx124_7)).trans hx124_7
       replace hx124_8 := (HB.out.cell (bl_ w _ hx124_8)).trans hx124_8
       replace hx124_9 := (HB.out.cell (bl_ w _ hx124_9)).trans hx124_9
       replace hx124_10 := (HB.out.cell (bl_ w _ hx124_10)).trans hx124_10
       replace hx124_11 := (HB.out.cell (bl_ w _ hx124_11)).trans hx124_11
       replace p124 := eq_true p124
       replace q124 := eq_true q124
       have hcz18_0 : w6.cell? ⟨gb123, 0, none⟩ = some (.int .i64 0) := (zc BK123.out 0).trans rfl
       have hcz18_1 : w6.cell? ⟨gb123, 1, none⟩ = some (.int .i64 0) := (zc BK123.out 1).trans rfl
       have hcz18_2 : w6.cell? ⟨gb123, 2, none⟩ = some (.int .i64 0) := (zc BK123.out 2).trans rfl
       have hcz18_3 : w6.cell? ⟨gb123, 3, none⟩ = some (.int .i64 0) := (zc BK123.out 3).trans rfl
       have hfz18_0 := zf BK123.out 0
       have hfz18_1 := zf BK123.out 1
       have hfz18_2 := zf BK123.out 2
       have hfz18_3 := zf BK123.out 3
       go_wp2
       refine bodyPost_ret (results_cell_row rfl _ _ gb123 54 #[.int .i64 ((rd_T70 l0_2 a1_4).f3.f0), .int .i64 ((rd_T70 l0_2 a1_4).f3.f1), .int .i64 ((rd_T70 l0_2 a1_4).f3.f2), .int .i64 ((rd_T70 l0_2 a1_4).f3.f3)] (0, 0) _ rfl (by (with_reducible repeat (first | apply zn | apply zd | apply za)); refine zp (cs := #[.int .i64 ((rd_T70 l0_2 a1_4).f3.f0), .int .i64 ((rd_T70 l0_2 a1_4).f3.f1), .int .i64 ((rd_T70 l0_2 a1_4).f3.f2), .int .i64 0]) ?_ 3 _ rfl; (with_reducible repeat (first | apply zn | apply zd | apply za)); refine zp (cs := #[.int .i64 ((rd_T70 l0_2 a1_4).f3.f0), .int .i64 ((rd_T70 l0_2 a1_4).f3.f1), .int .i64 0, .int .i64 0]) ?_ 2 _ rfl; (with_reducible repeat (first | apply zn | apply zd | apply za)); refine zp (cs := #[.int .i64 ((rd_T70 l0_2 a1_4).f3.f0), .int .i64 0, .int .i64 0, .int .i64 0]) ?_ 1 _ rfl; (with_reducible repeat (first | apply zn | apply zd | apply za)); refine zp (cs := #[.int .i64 0, .int .i64 0, .int .i64 0, .int .i64 0]) ?_ 0 _ rfl; (with_reducible repeat (first | apply zn | apply zd | apply za)); exact BK123.out) Tryd.underlying54 rfl (by kernel_rfl)) rfl ?_
       exact ⟨by first | rfl | simp [*], by repeat (first | (with_reducible first | exact HB.out | apply pa | apply pd | apply pe | refine zs ?_ GE121.out | refine zs ?_ GE122.out | refine zs ?_ GE123.out) | exact HB.out)⟩
     rw [if_neg c12] at H
     exact absurd H (by simp)
   rw [if_neg c11] at H
   exact absurd H (by simp)
 rw [if_neg c10] at H
 have c10b0 : (a1_3 == 0) = false := beq_eq_false_iff_ne.mpr c10
 have c10b1 : (a1_3 != 0) = true := bne_iff_ne.mpr c10
 (first | rw [c10b0] | (simp only [i64_w, i32_w]; rw [c10b0]) | skip)
 by_cases c19 : 0 ≤ a1_4
 · rw [if_pos c19] at H
   have c19b0 : decide (0 ≤ a1_4) = true := dt_ c19
   clear c19
   by_cases c20 : a1_4 < (l0_2.length : Int)
   · rw [if_pos c20] at H
     have c20b0 : decide (a1_4 < (l0_2.length : Int)) = true := dt_ c20
     clear c20
     simp only [Option.some.injEq, Prod.mk.injEq] at H
     obtain ⟨rfl, rfl, rfl, rfl⟩ := H
     have hnb21 := NB121_122.out
     have hnc21 := NB122_121.out
     have hnb22 := NB121_123.out
     have hnc22 := NB123_121.out
     have hcz23_0 : w6.cell? ⟨gb121, 0, none⟩ = some (.string a0_0) := (zc BK121.out 0).trans rfl
     have hcz23_1 : w6.cell? ⟨gb121, 1, none⟩ = some (.int .i64 a0_1) := (zc BK121.out 1).trans rfl
     have hcz23_2 : w6.cell? ⟨gb121, 2, none⟩ = some (.slice A0_2 l0_2.length c0_2) := (zc BK121.out 2).trans rfl
     have hfz23_0 := zf BK121.out 0
     have hfz23_1 := zf BK121.out 1
     have hfz23_2 := zf BK121.out 2
     have hnb24 := NB122_123.out
     have hnc24 := NB123_122.out
     have hcz25_0 : w6.cell? ⟨gb122, 0, none⟩ = some (.int .i64 a1_0) := (zc BK122.out 0).trans rfl
     have hcz25_1 : w6.cell? ⟨gb122, 1, none⟩ = some (.string a1_1) := (zc BK122.out 1).trans rfl
     have hcz25_2 : w6.cell? ⟨gb122, 2, none⟩ = some (.int .i64 a1_2) := (zc BK122.out 2).trans rfl
     have hcz25_3 : w6.cell? ⟨gb122, 3, none⟩ = some (.int .i64 a1_3) := (zc BK122.out 3).trans rfl
     have hcz25_4 : w6.cell? ⟨gb122, 4, none⟩ = some (.int .i64 a1_4) := (zc BK122.out 4).trans rfl
     have hcz25_5 : w6.cell? ⟨gb122, 5, none⟩ = some (.int .i64 a1_5) := (zc BK122.out 5).trans rfl
     have hcz25_6 : w6.cell? ⟨gb122, 6, none⟩ = some (.bool a1_6) := (zc BK122.out 6).trans rfl
     have hcz25_7 : w6.cell? ⟨gb122, 7, none⟩ = some (.int .i64 a1_7) := (zc BK122.out 7).trans rfl
     have hcz25_8 : w6.cell? ⟨gb122, 8, none⟩ = some (.int .i64 a1_8) := (zc BK122.out 8).trans rfl
     have hfz25_0 := zf BK122.out 0
     have hfz25_1 := zf BK122.out 1
     have hfz25_2 := zf BK122.out 2
     have hfz25_3 := zf BK122.out 3
     have hfz25_4 := zf BK122.out 4
     have hfz25_5 := zf BK122.out 5
     have hfz25_6 := zf BK122.out 6
     have hfz25_7 := zf BK122.out 7
     have hfz25_8 := zf BK122.out 8
     have p125 : 0 ≤ (a1_4 : Int) := of_decide_eq_true (by assumption)
     have q125 : a1_4 < (l0_2.length : Int) := of_decide_eq_true (by assumption)
     obtain ⟨ad125, e125, hx125_0, hx125_1, hx125_2, hx125_3, hx125_4, hx125_5, hx125_6, hx125_7, hx125_8, hx125_9, hx125_10, hx125_11⟩ := at_T70 HR0_2.out a1_4 p125 q125
     cases e125
     replace hx125_0 := (HB.out.cell (bl_ w _ hx125_0)).trans hx125_0
     replace hx125_1 := (HB.out.cell (bl_ w _ hx125_1)).trans hx125_1
     replace hx125_2 := (HB.out.cell (bl_ w _ hx125_2)).trans hx125_2
     replace hx125_3 := (HB.out.cell (bl_ w _ hx125_3)).trans hx125_3
     replace hx125_4 := (HB.out.cell (bl_ w _ hx125_4)).trans hx125_4
     replace hx125_5 := (HB.out.cell (bl_ w _ hx125_5)).trans hx125_5
     replace hx125_6 := (HB.out.cell (bl_ w _ hx125_6)).trans hx125_6
     replace hx125_7 := (HB.out.cell (bl_ w _ hx125_7)).trans hx125_7
     replace hx125_8 := (HB.out.cell (bl_ w _ hx125_8)).trans hx125_8
     replace hx125_9 := (HB.out.cell (bl_ w _ hx125_9)).trans hx125_9
     replace hx125_10 := (HB.out.cell (bl_ w _ hx125_10)).trans hx125_10
     replace hx125_11 := (HB.out.cell (bl_ w _ hx125_11)).trans hx125_11
     replace p125 := eq_true p125
     replace q125 := eq_true q125
     have hcz26_0 : w6.cell? ⟨gb123, 0, none⟩ = some (.int .i64 0) := (zc BK123.out 0).trans rfl
     have hcz26_1 : w6.cell? ⟨gb123, 1, none⟩ = some (.int .i64 0) := (zc BK123.out 1).trans rfl
     have hcz26_2 : w6.cell? ⟨gb123, 2, none⟩ = some (.int .i64 0) := (zc BK123.out 2).trans rfl
     have hcz26_3 : w6.cell? ⟨gb123, 3, none⟩ = some (.int .i64 0) := (zc BK123.out 3).trans rfl
     have hfz26_0 := zf BK123.out 0
     have hfz26_1 := zf BK123.out 1
     have hfz26_2 := zf BK123.out 2
     have hfz26_3 := zf BK123.out 3
     go_wp2
     refine bodyPost_ret (results_cell_row rfl _ _ gb123 54 #[.int .i64 ((rd_T70 l0_2 a1_4).f4.f0), .int .i64 ((rd_T70 l0_2 a1_4).f4.f1), .int .i64 ((rd_T70 l0_2 a1_4).f4.f2), .int .i64 ((rd_T70 l0_2 a1_4).f4.f3)] (0, 0) _ rfl (by (with_reducible repeat (first | apply zn | apply zd | apply za)); refine zp (cs := #[.int .i64 ((rd_T70 l0_2 a1_4).f4.f0), .int .i64 ((rd_T70 l0_2 a1_4).f4.f1), .int .i64 ((rd_T70 l0_2 a1_4).f4.f2), .int .i64 0]) ?_ 3 _ rfl; (with_reducible repeat (first | apply zn | apply zd | apply za)); refine zp (cs := #[.int .i64 ((rd_T70 l0_2 a1_4).f4.f0), .int .i64 ((rd_T70 l0_2 a1_4).f4.f1), .int .i64 0, .int .i64 0]) ?_ 2 _ rfl; (with_reducible repeat (first | apply zn | apply zd | apply za)); refine zp (cs := #[.int .i64 ((rd_T70 l0_2 a1_4).f4.f0), .int .i64 0, .int .i64 0, .int .i64 0]) ?_ 1 _ rfl; (with_reducible repeat (first | apply zn | apply zd | apply za)); refine zp (cs := #[.int .i64 0, .int .i64 0, .int .i64 0, .int .i64 0]) ?_ 0 _ rfl; (with_reducible repeat (first | apply zn | apply zd | apply za)); exact BK123.out) Tryd.underlying54 rfl (by kernel_rfl)) rfl ?_
     exact ⟨by first | rfl | simp [*], by repeat (first | (with_reducible first | exact HB.out | apply pa | apply pd | apply pe | refine zs ?_ GE121.out | refine zs ?_ GE122.out | refine zs ?_ GE123.out) | exact HB.out)⟩
   rw [if_neg c20] at H
   exact absurd H (by simp)
 rw [if_neg c19] at H
 exact absurd H (by simp)
def saga_tries.j0 : Nat → Int → Bool → Int → ByteArray → Int → Int → Int → Int → Bool → Int → Int → Option (Bool)
 | 0, _, _, _, _, _, _, _, _, _, _, _ => none
 | k + 1, x5, x12, x128000, x128001, x128002, x128003, x128004, x128005, x128006, x128007, x128008 => if x12 = true then (some false) else (if x128006 = true then (if x128005 > 0 then (some (decide (x128003 ≤ 1))) else (some false)) else (if x128003 = 2 then (some (x5 == 0)) else (some true)))
def saga_tries.f (k : Nat) (a0_0 : ByteArray) (a0_1 : Int) (l0_2 : List (S70)) (a1_0 : Int) (a1_1 : ByteArray) (a1_2 : Int) (a1_3 : Int) (a1_4 : Int) (a1_5 : Int) (a1_6 : Bool) (a1_7 : Int) (a1_8 : Int) : Option (Bool) := (saga_plan.f a0_0 a0_1 l0_2 a1_0 a1_1 a1_2 a1_3 a1_4 a1_5 a1_6 a1_7 a1_8).bind fun bt128 => ((backoff_Left.f bt128.1 bt128.2.1 bt128.2.2.1 bt128.2.2.2 a1_5).bind fun t132 => (if a1_5 < 0 then (saga_tries.j0 k t132 true a1_0 a1_1 a1_2 a1_3 a1_4 a1_5 a1_6 a1_7 a1_8) else ((saga_plan.f a0_0 a0_1 l0_2 a1_0 a1_1 a1_2 a1_3 a1_4 a1_5 a1_6 a1_7 a1_8).bind fun bt133 => (if a1_5 > (wrap64 (bt133.1 + 1)) then ((saga_Over.f a1_0 a1_1 a1_2 a1_3 a1_4 a1_5 a1_6 a1_7 a1_8).bind fun t137 => (saga_tries.j0 k t132 (!t137) a1_0 a1_1 a1_2 a1_3 a1_4 a1_5 a1_6 a1_7 a1_8)) else (saga_tries.j0 k t132 false a1_0 a1_1 a1_2 a1_3 a1_4 a1_5 a1_6 a1_7 a1_8)))))
def saga_tries.T2 : Bool × List (List Nat × List Nat) := (true, [([], []), ([0], [0]), ([1], [1]), ([2], [2]), ([3], [3]), ([4, 3], [3, 4]), ([3], [3]), ([3], [3]), ([6, 7, 3, 3], [3, 6, 7]), ([8, 3], [3, 8]), ([9, 3], [3, 9]), ([5, 10, 3], [3, 5, 10]), ([11, 8, 3], [3, 11]), ([12], [12]), ([13, 12, 12], [12, 13]), ([14, 12], [12, 14]), ([12, 15, 3], [3, 12, 15]), ([3, 16], [3, 16]), ([17, 14], [17])])
def saga_tries.B2 : List Nat := [0, 1, 3, 7, 15, 31, 15, 15, 207, 463, 975, 2047, 4095, 8191, 16383, 32767, 65535, 131071, 262143]
theorem saga_tries.tab2 : rtab .any (opsOf Tryd.f52 2) = saga_tries.T2 := by kernel_rfl
theorem saga_tries.bits2 : waitsOk saga_tries.T2.2 saga_tries.B2 = true := by kernel_rfl
theorem saga_tries.calls (k : Nat) (a0_0 : ByteArray) (a0_1 : Int) (A0_2 : Option Addr) (c0_2 : Nat) (l0_2 : List (S70)) (a1_0 : Int) (a1_1 : ByteArray) (a1_2 : Int) (a1_3 : Int) (a1_4 : Int) (a1_5 : Int) (a1_6 : Bool) (a1_7 : Int) (a1_8 : Int) (r : Bool) (w : World) (hr0_2 : Kd.C k70 w A0_2 l0_2.length l0_2) (hc0_2 : l0_2.length ≤ c0_2) (h : saga_tries.f k a0_0 a0_1 l0_2 a1_0 a1_1 a1_2 a1_3 a1_4 a1_5 a1_6 a1_7 a1_8 = some r) :
 Calls Tryd.prog 52 #[.agg #[.string a0_0, .int .i64 a0_1, .slice A0_2 l0_2.length c0_2], .agg #[.int .i64 a1_0, .string a1_1, .int .i64 a1_2, .int .i64 a1_3, .int .i64 a1_4, .int .i64 a1_5, .bool a1_6, .int .i64 a1_7, .int .i64 a1_8]] w fun e w' => e = .returned (.bool r) ∧ Below w.heap.size w w' := by
 have hu24 := Tryd.underlying24
 have hu31 := Tryd.underlying31
 have hu54 := Tryd.underlying54
 have hfd54_0 : ∀ (x0 : Int) (x1 : Int) (x2 : Int) (x3 : Int) (W : World), (Instr.field 54 (.agg #[.int .i64 x0, .int .i64 x1, .int .i64 x2, .int .i64 x3]) 0).run Tryd.prog W = .ok (.int .i64 x0) W := fun _ _ _ _ _ => by kernel_rfl
 have HR0_2 := ak_ hr0_2
 have HC0_2 := ak_ hc0_2
 clear hr0_2 hc0_2
 have HB := ak_ (Below.refl w.heap.size w)
 have H : ((saga_plan.f a0_0 a0_1 l0_2 a1_0 a1_1 a1_2 a1_3 a1_4 a1_5 a1_6 a1_7 a1_8).bind fun bt128 => ((backoff_Left.f bt128.1 bt128.2.1 bt128.2.2.1 bt128.2.2.2 a1_5).bind fun t132 => (if a1_5 < 0 then (saga_tries.j0 k t132 true a1_0 a1_1 a1_2 a1_3 a1_4 a1_5 a1_6 a1_7 a1_8) else ((saga_plan.f a0_0 a0_1 l0_2 a1_0 a1_1 a1_2 a1_3 a1_4 a1_5 a1_6 a1_7 a1_8).bind fun bt133 => (if a1_5 > (wrap64 (bt133.1 + 1)) then ((saga_Over.f a1_0 a1_1 a1_2 a1_3 a1_4 a1_5 a1_6 a1_7 a1_8).bind fun t137 => (saga_tries.j0 k t132 (!t137) a1_0 a1_1 a1_2 a1_3 a1_4 a1_5 a1_6 a1_7 a1_8)) else (saga_tries.j0 k t132 false a1_0 a1_1 a1_2 a1_3 a1_4 a1_5 a1_6 a1_7 a1_8)))))) = some r := h
 clear h
 replace H := ob_ H
 obtain ⟨⟨t128, t129, t130, t131⟩, A30, H⟩ := H
 replace H : ((backoff_Left.f t128 t129 t130 t131 a1_5).bind fun t132 => (if a1_5 < 0 then (saga_tries.j0 k t132 true a1_0 a1_1 a1_2 a1_3 a1_4 a1_5 a1_6 a1_7 a1_8) else ((saga_plan.f a0_0 a0_1 l0_2 a1_0 a1_1 a1_2 a1_3 a1_4 a1_5 a1_6 a1_7 a1_8).bind fun bt133 => (if a1_5 > (wrap64 (bt133.1 + 1)) then ((saga_Over.f a1_0 a1_1 a1_2 a1_3 a1_4 a1_5 a1_6 a1_7 a1_8).bind fun t137 => (saga_tries.j0 k t132 (!t137) a1_0 a1_1 a1_2 a1_3 a1_4 a1_5 a1_6 a1_7 a1_8)) else (saga_tries.j0 k t132 false a1_0 a1_1 a1_2 a1_3 a1_4 a1_5 a1_6 a1_7 a1_8))))) = some r := H
 have A3 := ak_ A30
 clear A30
 replace H := ob_ H
 obtain ⟨t132, A40, H⟩ := H
 replace H : (if a1_5 < 0 then (saga_tries.j0 k t132 true a1_0 a1_1 a1_2 a1_3 a1_4 a1_5 a1_6 a1_7 a1_8) else ((saga_plan.f a0_0 a0_1 l0_2 a1_0 a1_1 a1_2 a1_3 a1_4 a1_5 a1_6 a1_7 a1_8).bind fun bt133 => (if a1_5 > (wrap64 (bt133.1 + 1)) then ((saga_Over.f a1_0 a1_1 a1_2 a1_3 a1_4 a1_5 a1_6 a1_7 a1_8).bind fun t137 => (saga_tries.j0 k t132 (!t137) a1_0 a1_1 a1_2 a1_3 a1_4 a1_5 a1_6 a1_7 a1_8)) else (saga_tries.j0 k t132 false a1_0 a1_1 a1_2 a1_3 a1_4 a1_5 a1_6 a1_7 a1_8)))) = some r := H
 have A4 := ak_ A40
 clear A40
 have HC5 := ak_ H
 clear H
 go_enter Tryd.func52, Tryd.ntmps52
 try go_wp2_with (first | ((with_reducible refine gate_dst (N := 2) rfl ?_); refine box_event ?hg (N := 2) ?hd (cs := #[.string a0_0, .int .i64 a0_1, .slice A0_2 l0_2.length c0_2]) (t := 24) ?hr ?_; (case hd | hg => rfl); (case hr => first | (go_simp; done) | (go_simp; rfl)); intro gb126 hg w6 hbox hb; have n0_ := ak_ (ps (by with_reducible repeat first | exact HB.out | apply pa | apply pd | apply pe) hb); have n1_ := ak_ (hbox); have n2_ := ak_ ((by rw [hg]; exact (below_size (by with_reducible repeat first | exact HB.out | apply pa | apply pd | apply pe)) : w.heap.size ≤ gb126)); have n3_ := ak_ ((by rw [hg]; exact (below_size (by with_reducible repeat first | exact HB.out | apply pa | apply pd | apply pe)) : w.heap.size ≤ gb126)); clear HB; have HB := n0_; have BK126 := n1_; have GW126 := n2_; have GE126 := n3_; clear n0_ n1_ n2_ n3_ hb hbox hg) | ((with_reducible refine gate_dst (N := 3) rfl ?_); refine box_event ?hg (N := 3) ?hd (cs := #[.int .i64 a1_0, .string a1_1, .int .i64 a1_2, .int .i64 a1_3, .int .i64 a1_4, .int .i64 a1_5, .bool a1_6, .int .i64 a1_7, .int .i64 a1_8]) (t := 31) ?hr ?_; (case hd | hg => rfl); (case hr => first | (go_simp; done) | (go_simp; rfl)); intro gb127 hg w7 hbox hb; have n0_ := ak_ (blk_below (g := gb126) (o := .cells #[.string a0_0, .int .i64 a0_1, .slice A0_2 l0_2.length c0_2] 24 (0, 0)) (by (with_reducible repeat (first | apply zn | apply zd | apply za)); exact BK126.out) hb); have n1_ := ak_ (ps (by with_reducible repeat first | exact HB.out | apply pa | apply pd | apply pe | refine zs ?_ GE126.out) hb); have n2_ := ak_ (hbox); have n3_ := ak_ ((by rw [hg]; exact (below_size (by with_reducible repeat first | exact HB.out | apply pa | apply pd | apply pe | refine zs ?_ GE126.out)) : w.heap.size ≤ gb127)); have n4_ := ak_ ((by rw [hg]; exact (below_size (by with_reducible repeat first | exact HB.out | apply pa | apply pd | apply pe | refine zs ?_ GE126.out)) : w.heap.size ≤ gb127)); have n5_ := ak_ ((by rw [hg]; exact Nat.ne_of_lt (blk_lt (g := gb126) (by (with_reducible repeat (first | apply zn | apply zd | apply za)); exact BK126.out)) : gb126 ≠ gb127)); have n6_ := ak_ ((by rw [hg]; exact Nat.ne_of_gt (blk_lt (g := gb126) (by (with_reducible repeat (first | apply zn | apply zd | apply za)); exact BK126.out)) : gb127 ≠ gb126)); clear BK126 HB; have BK126 := n0_; have HB := n1_; have BK127 := n2_; have GW127 := n3_; have GE127 := n4_; have NB126_127 := n5_; have NB127_126 := n6_; clear n0_ n1_ n2_ n3_ n4_ n5_ n6_ hb hbox hg))
 have n0_ := ak_ (zd BK126.out)
 have n1_ := ak_ (zd BK127.out)
 have n2_ := ak_ (pe HB.out)
 clear BK126 BK127 HB
 have BK126 := n0_
 have BK127 := n1_
 have HB := n2_
 clear n0_ n1_ n2_
 refine start_ (n := 7) (S := fun w' => w'.cell? ⟨gb126, 0, none⟩ = some (.string a0_0) ∧ w'.cell? ⟨gb126, 1, none⟩ = some (.int .i64 a0_1) ∧ w'.cell? ⟨gb126, 2, none⟩ = some (.slice A0_2 l0_2.length c0_2) ∧ w'.cell? ⟨gb127, 0, none⟩ = some (.int .i64 a1_0) ∧ w'.cell? ⟨gb127, 1, none⟩ = some (.string a1_1) ∧ w'.cell? ⟨gb127, 2, none⟩ = some (.int .i64 a1_2) ∧ w'.cell? ⟨gb127, 3, none⟩ = some (.int .i64 a1_3) ∧ w'.cell? ⟨gb127, 4, none⟩ = some (.int .i64 a1_4) ∧ w'.cell? ⟨gb127, 5, none⟩ = some (.int .i64 a1_5) ∧ w'.cell? ⟨gb127, 6, none⟩ = some (.bool a1_6) ∧ w'.cell? ⟨gb127, 7, none⟩ = some (.int .i64 a1_7) ∧ w'.cell? ⟨gb127, 8, none⟩ = some (.int .i64 a1_8)) (ds := []) #[false, false, false, false, false, false, false] (by kernel_rfl) rfl rfl ⟨(zc BK126.out 0).trans rfl, (zc BK126.out 1).trans rfl, (zc BK126.out 2).trans rfl, (zc BK127.out 0).trans rfl, (zc BK127.out 1).trans rfl, (zc BK127.out 2).trans rfl, (zc BK127.out 3).trans rfl, (zc BK127.out 4).trans rfl, (zc BK127.out 5).trans rfl, (zc BK127.out 6).trans rfl, (zc BK127.out 7).trans rfl, (zc BK127.out 8).trans rfl⟩ (fun hHeld => ?_)
 generalize w7.drew = w8 at BK126 BK127 HB hHeld ⊢
 refine pure_ (i := 3) (N := some 9) (v := ?_) (a' := ?_) (b_ 7 8) rfl rfl (by kernel_rfl) (fun _ _ _ h => h) (Or.inl ⟨by rfl, ?_⟩) ?_ ?_; rotate_left; (· intro w'; go_simp; with_reducible rfl); rotate_left; (· simp only [Act.put, sa_, sz_, ss_, i64_w, i32_w]; rfl)
 refine take_ (i := 0) (N := some 6) (v := ?_) (a' := ?_) (b_ 7 9) rfl rfl (by kernel_rfl) (fun _ _ _ h => h) (Or.inl ⟨by rfl, ?_⟩) hHeld ?_ ?_
 rotate_left
 · rintro w' ⟨s0, s1, s2, s3, s4, s5, s6, s7, s8, s9, s10, s11⟩
   go_simp
   with_reducible rfl
 rotate_left
 · simp only [Act.put, sa_, sz_, ss_, i64_w, i32_w]
   rfl
 refine take_ (i := 1) (N := some 7) (v := ?_) (a' := ?_) (b_ 7 11) rfl rfl (by kernel_rfl) (fun _ _ _ h => h) (Or.inl ⟨by rfl, ?_⟩) hHeld ?_ ?_
 rotate_left
 · rintro w' ⟨s0, s1, s2, s3, s4, s5, s6, s7, s8, s9, s10, s11⟩
   go_simp
   with_reducible rfl
 rotate_left
 · simp only [Act.put, sa_, sz_, ss_, i64_w, i32_w]
   rfl
 refine take_ (i := 4) (N := some 10) (v := ?_) (a' := ?_) (b_ 7 27) rfl rfl (by kernel_rfl) (fun _ _ _ h => h) (Or.inl ⟨by rfl, ?_⟩) hHeld ?_ ?_
 rotate_left
 · rintro w' ⟨s0, s1, s2, s3, s4, s5, s6, s7, s8, s9, s10, s11⟩
   go_simp
   with_reducible rfl
 rotate_left
 · simp only [Act.put, sa_, sz_, ss_, i64_w, i32_w]
   rfl
 refine one_ (i := 2) (N := some 8) (b_ 7 31) rfl rfl (by kernel_rfl) (by decide) (fun K hK => ?_)
 refine goes_ Tryd.func56 (by kernel_rfl) rfl #[.agg #[.string a0_0, .int .i64 a0_1, .slice A0_2 l0_2.length c0_2], .agg #[.int .i64 a1_0, .string a1_1, .int .i64 a1_2, .int .i64 a1_3, .int .i64 a1_4, .int .i64 a1_5, .bool a1_6, .int .i64 a1_7, .int .i64 a1_8]] (by rfl) rfl rfl (by (try simp only [mt_, mc_, mn_]); first | done | rfl) ?_
 with_reducible refine (saga_plan.calls a0_0 a0_1 _ _ l0_2 a1_0 a1_1 a1_2 a1_3 a1_4 a1_5 a1_6 a1_7 a1_8 t128 t129 t130 t131 _ ?side1 ?side2 A3.out).mono ?_
 (case side1 => repeat (first | exact (Kd.C_below HR0_2.out HB.out) | (with_reducible refine Kd.C_alloc ?_ _) | (with_reducible refine Kd.C_drewN ?_ _) | (with_reducible refine Kd.C_drew ?_)))
 (case side2 => exact HC0_2.out)
 rintro e w9 ⟨rfl, hb⟩
 refine ⟨_, rfl, ?_⟩
 have n0_ := ak_ (blk_below (g := gb126) (o := .cells #[.string a0_0, .int .i64 a0_1, .slice A0_2 l0_2.length c0_2] 24 (0, 0)) (by (with_reducible repeat (first | apply zn | apply zd | apply za)); exact BK126.out) hb)
 have n1_ := ak_ (blk_below (g := gb127) (o := .cells #[.int .i64 a1_0, .string a1_1, .int .i64 a1_2, .int .i64 a1_3, .int .i64 a1_4, .int .i64 a1_5, .bool a1_6, .int .i64 a1_7, .int .i64 a1_8] 31 (0, 0)) (by (with_reducible repeat (first | apply zn | apply zd | apply za)); exact BK127.out) hb)
 have n2_ := ak_ (ps (by with_reducible repeat first | exact HB.out | apply pa | apply pd | apply pe | refine zs ?_ GE126.out | refine zs ?_ GE127.out) hb)
 clear BK126 BK127 HB
 have BK126 := n0_
 have BK127 := n1_
 have HB := n2_
 clear n0_ n1_ n2_
 (try clear hb hk hi)
 refine hK.out _ _ ⟨(zc BK126.out 0).trans rfl, (zc BK126.out 1).trans rfl, (zc BK126.out 2).trans rfl, (zc BK127.out 0).trans rfl, (zc BK127.out 1).trans rfl, (zc BK127.out 2).trans rfl, (zc BK127.out 3).trans rfl, (zc BK127.out 4).trans rfl, (zc BK127.out 5).trans rfl, (zc BK127.out 6).trans rfl, (zc BK127.out 7).trans rfl, (zc BK127.out 8).trans rfl⟩ (fun hHeld => ?_)
 clear hK K
 refine norm_ (a' := ?_) ?_ ?_
 rotate_left
 · show Act.put _ (some 8) _ = _
   simp only [Act.put, sa_, sz_, ss_, i64_w, i32_w]
   rfl
 refine one_ (i := 5) (N := some 11) (b_ 7 63) rfl rfl (by kernel_rfl) (by decide) (fun K hK => ?_)
 refine goes_ Tryd.func55 (by kernel_rfl) rfl #[.agg #[.int .i64 t128, .int .i64 t129, .int .i64 t130, .int .i64 t131], .int .i64 a1_5] (by rfl) rfl rfl (by (try simp only [mt_, mc_, mn_]); first | done | rfl) ?_
 with_reducible refine (backoff_Left.calls t128 t129 t130 t131 a1_5 t132 _ A4.out).mono ?_
 rintro e w10 ⟨rfl, hb⟩
 refine ⟨_, rfl, ?_⟩
 have n0_ := ak_ (blk_below (g := gb126) (o := .cells #[.string a0_0, .int .i64 a0_1, .slice A0_2 l0_2.length c0_2] 24 (0, 0)) (by (with_reducible repeat (first | apply zn | apply zd | apply za)); exact BK126.out) hb)
 have n1_ := ak_ (blk_below (g := gb127) (o := .cells #[.int .i64 a1_0, .string a1_1, .int .i64 a1_2, .int .i64 a1_3, .int .i64 a1_4, .int .i64 a1_5, .bool a1_6, .int .i64 a1_7, .int .i64 a1_8] 31 (0, 0)) (by (with_reducible repeat (first | apply zn | apply zd | apply za)); exact BK127.out) hb)
 have n2_ := ak_ (ps (by with_reducible repeat first | exact HB.out | apply pa | apply pd | apply pe | refine zs ?_ GE126.out | refine zs ?_ GE127.out) hb)
 clear BK126 BK127 HB
 have BK126 := n0_
 have BK127 := n1_
 have HB := n2_
 clear n0_ n1_ n2_
 (try clear hb hk hi)
 refine hK.out _ _ ⟨(zc BK126.out 0).trans rfl, (zc BK126.out 1).trans rfl, (zc BK126.out 2).trans rfl, (zc BK127.out 0).trans rfl, (zc BK127.out 1).trans rfl, (zc BK127.out 2).trans rfl, (zc BK127.out 3).trans rfl, (zc BK127.out 4).trans rfl, (zc BK127.out 5).trans rfl, (zc BK127.out 6).trans rfl, (zc BK127.out 7).trans rfl, (zc BK127.out 8).trans rfl⟩ (fun hHeld => ?_)
 clear hK K
 refine norm_ (a' := ?_) ?_ ?_
 rotate_left
 · show Act.put _ (some 11) _ = _
   simp only [Act.put, sa_, sz_, ss_, i64_w, i32_w]
   rfl
 refine pure_ (i := 6) (N := some 5) (v := ?_) (a' := ?_) (b_ 7 127) rfl rfl (by kernel_rfl) (fun _ _ _ h => h) (Or.inl ⟨by rfl, ?_⟩) ?_ ?_; rotate_left; (· intro w'; go_simp; with_reducible rfl); rotate_left; (· simp only [Act.put, sa_, sz_, ss_, i64_w, i32_w]; rfl)
 refine done_ (by kernel_rfl) ?_
 go_upto_region 2 with (fail)
 go_cut [12] (fun v12 wc => ∃ (kq : Nat) (x12_4 : Bool), v12 = .bool x12_4 ∧ Aside0 (saga_tries.j0 kq t132 x12_4 a1_0 a1_1 a1_2 a1_3 a1_4 a1_5 a1_6 a1_7 a1_8 = some r) ∧ Aside0 (kq ≤ k) ∧ Aside0 (wc.heap[gb126]? = some (.cells #[.string a0_0, .int .i64 a0_1, (.slice A0_2 l0_2.length c0_2)] 24 (0, 0))) ∧ Aside0 (wc.heap[gb127]? = some (.cells #[.int .i64 a1_0, .string a1_1, .int .i64 a1_2, .int .i64 a1_3, .int .i64 a1_4, .int .i64 a1_5, .bool a1_6, .int .i64 a1_7, .int .i64 a1_8] 31 (0, 0))) ∧ Aside0 (Below w.heap.size w wc))
 case first =>
  have H := HC5.out
  clear HC5
  by_cases c11 : a1_5 < 0
  · rw [if_pos c11] at H
    have c11b0 : decide (a1_5 < 0) = true := dt_ c11
    clear c11
    (first | rw [c11b0] | (simp only [i64_w, i32_w]; rw [c11b0]) | skip)
    have H' := ak_ H
    clear H
    try go_wp2
    have n0_ := ak_ (zd BK126.out)
    have n1_ := ak_ (zd BK127.out)
    have n2_ := ak_ (pe HB.out)
    clear BK126 BK127 HB
    have BK126 := n0_
    have BK127 := n1_
    have HB := n2_
    clear n0_ n1_ n2_
    refine start_ (n := 19) (S := fun w' => w'.cell? ⟨gb127, 0, none⟩ = some (.int .i64 a1_0) ∧ w'.cell? ⟨gb127, 1, none⟩ = some (.string a1_1) ∧ w'.cell? ⟨gb127, 2, none⟩ = some (.int .i64 a1_2) ∧ w'.cell? ⟨gb127, 3, none⟩ = some (.int .i64 a1_3) ∧ w'.cell? ⟨gb127, 4, none⟩ = some (.int .i64 a1_4) ∧ w'.cell? ⟨gb127, 5, none⟩ = some (.int .i64 a1_5) ∧ w'.cell? ⟨gb127, 6, none⟩ = some (.bool a1_6) ∧ w'.cell? ⟨gb127, 7, none⟩ = some (.int .i64 a1_7) ∧ w'.cell? ⟨gb127, 8, none⟩ = some (.int .i64 a1_8)) (ds := []) #[false, false, false, false, false, false, false, false, false, false, false, false, false, false, false, false, false, false, false] (by kernel_rfl) rfl rfl ⟨(zc BK127.out 0).trans rfl, (zc BK127.out 1).trans rfl, (zc BK127.out 2).trans rfl, (zc BK127.out 3).trans rfl, (zc BK127.out 4).trans rfl, (zc BK127.out 5).trans rfl, (zc BK127.out 6).trans rfl, (zc BK127.out 7).trans rfl, (zc BK127.out 8).trans rfl⟩ (fun hHeld => ?_); refine with_tabW saga_tries.tab2 saga_tries.bits2 (fun HT_ HW_ => ?_)
    generalize w10.drew = w12 at BK126 BK127 HB hHeld ⊢
    refine pure_ (i := 0) (N := some 13) (v := ?_) (a' := ?_) (b_ 19 1) rfl rfl (any_of HT_.out (by kernel_rfl)) (fun _ _ _ h => h) (Or.inl ⟨by rfl, ?_⟩) ?_ ?_; rotate_left; (· intro w'; go_simp; with_reducible rfl); rotate_left; (· simp only [Act.put, sa_, sz_, ss_, i64_w, i32_w]; rfl)
    refine take_ (i := 1) (N := some 14) (v := ?_) (a' := ?_) (b_ 19 3) rfl rfl (take_ofW HT_.out HW_.out (by kernel_rfl)) (fun _ _ _ h => h) (Or.inl ⟨by rfl, ?_⟩) hHeld ?_ ?_
    rotate_left
    · rintro w' ⟨s0, s1, s2, s3, s4, s5, s6, s7, s8⟩
      go_simp
      with_reducible rfl
    rotate_left
    · simp only [Act.put, sa_, sz_, ss_, i64_w, i32_w]
      rfl
    refine pure_ (i := 2) (N := some 15) (v := ?_) (a' := ?_) (b_ 19 7) rfl rfl (any_of HT_.out (by kernel_rfl)) (fun _ _ _ h => h) (Or.inl ⟨by rfl, ?_⟩) ?_ ?_; rotate_left; (· intro w'; go_simp; with_reducible rfl); rotate_left; (· simp only [Act.put, sa_, sz_, ss_, i64_w, i32_w]; rfl)
    refine pure_ (i := 3) (N := some 16) (v := ?_) (a' := ?_) (b_ 19 15) rfl rfl (any_of HT_.out (by kernel_rfl)) (fun _ _ _ h => h) (Or.inl ⟨by rfl, ?_⟩) ?_ ?_; rotate_left; (· intro w'; go_simp; with_reducible rfl); rotate_left; (· simp only [Act.put, sa_, sz_, ss_, i64_w, i32_w]; rfl)
    refine pure_ (i := 4) (N := some 17) (v := undef) (a' := ?_) (b_ 19 31) rfl rfl (any_of HT_.out (by kernel_rfl)) (fun _ _ _ h => h) (Or.inr ⟨by rfl, rfl⟩) ?_ ?_
    rotate_left
    · simp only [Act.put, sa_, sz_, ss_, i64_w, i32_w]
      rfl
    refine pure_ (i := 5) (N := some 18) (v := undef) (a' := ?_) (b_ 19 63) rfl rfl (any_of HT_.out (by kernel_rfl)) (fun _ _ _ h => h) (Or.inr ⟨by rfl, rfl⟩) ?_ ?_
    rotate_left
    · simp only [Act.put, sa_, sz_, ss_, i64_w, i32_w]
      rfl
    refine pure_ (i := 6) (N := some 19) (v := undef) (a' := ?_) (b_ 19 127) rfl rfl (any_of HT_.out (by kernel_rfl)) (fun _ _ _ h => h) (Or.inr ⟨by rfl, rfl⟩) ?_ ?_
    rotate_left
    · simp only [Act.put, sa_, sz_, ss_, i64_w, i32_w]
      rfl
    refine pure_ (i := 7) (N := some 20) (v := undef) (a' := ?_) (b_ 19 255) rfl rfl (any_of HT_.out (by kernel_rfl)) (fun _ _ _ h => h) (Or.inr ⟨by rfl, rfl⟩) ?_ ?_
    rotate_left
    · simp only [Act.put, sa_, sz_, ss_, i64_w, i32_w]
      rfl
    refine pure_ (i := 8) (N := some 21) (v := undef) (a' := ?_) (b_ 19 511) rfl rfl (any_of HT_.out (by kernel_rfl)) (fun _ _ _ h => h) (Or.inr ⟨by rfl, rfl⟩) ?_ ?_
    rotate_left
    · simp only [Act.put, sa_, sz_, ss_, i64_w, i32_w]
      rfl
    refine pure_ (i := 9) (N := some 22) (v := undef) (a' := ?_) (b_ 19 1023) rfl rfl (any_of HT_.out (by kernel_rfl)) (fun _ _ _ h => h) (Or.inr ⟨by rfl, rfl⟩) ?_ ?_
    rotate_left
    · simp only [Act.put, sa_, sz_, ss_, i64_w, i32_w]
      rfl
    refine pure_ (i := 10) (N := some 23) (v := undef) (a' := ?_) (b_ 19 2047) rfl rfl (any_of HT_.out (by kernel_rfl)) (fun _ _ _ h => h) (Or.inr ⟨by rfl, rfl⟩) ?_ ?_
    rotate_left
    · simp only [Act.put, sa_, sz_, ss_, i64_w, i32_w]
      rfl
    refine pure_ (i := 11) (N := some 24) (v := undef) (a' := ?_) (b_ 19 4095) rfl rfl (any_of HT_.out (by kernel_rfl)) (fun _ _ _ h => h) (Or.inr ⟨by rfl, rfl⟩) ?_ ?_
    rotate_left
    · simp only [Act.put, sa_, sz_, ss_, i64_w, i32_w]
      rfl
    refine pure_ (i := 12) (N := some 25) (v := undef) (a' := ?_) (b_ 19 8191) rfl rfl (any_of HT_.out (by kernel_rfl)) (fun _ _ _ h => h) (Or.inr ⟨by rfl, rfl⟩) ?_ ?_
    rotate_left
    · simp only [Act.put, sa_, sz_, ss_, i64_w, i32_w]
      rfl
    refine pure_ (i := 13) (N := some 26) (v := undef) (a' := ?_) (b_ 19 16383) rfl rfl (any_of HT_.out (by kernel_rfl)) (fun _ _ _ h => h) (Or.inr ⟨by rfl, rfl⟩) ?_ ?_
    rotate_left
    · simp only [Act.put, sa_, sz_, ss_, i64_w, i32_w]
      rfl
    refine pure_ (i := 14) (N := some 27) (v := undef) (a' := ?_) (b_ 19 32767) rfl rfl (any_of HT_.out (by kernel_rfl)) (fun _ _ _ h => h) (Or.inr ⟨by rfl, rfl⟩) ?_ ?_
    rotate_left
    · simp only [Act.put, sa_, sz_, ss_, i64_w, i32_w]
      rfl
    refine pure_ (i := 15) (N := some 28) (v := undef) (a' := ?_) (b_ 19 65535) rfl rfl (any_of HT_.out (by kernel_rfl)) (fun _ _ _ h => h) (Or.inr ⟨by rfl, rfl⟩) ?_ ?_
    rotate_left
    · simp only [Act.put, sa_, sz_, ss_, i64_w, i32_w]
      rfl
    refine pure_ (i := 16) (N := some 29) (v := undef) (a' := ?_) (b_ 19 131071) rfl rfl (any_of HT_.out (by kernel_rfl)) (fun _ _ _ h => h) (Or.inr ⟨by rfl, rfl⟩) ?_ ?_
    rotate_left
    · simp only [Act.put, sa_, sz_, ss_, i64_w, i32_w]
      rfl
    refine pure_ (i := 17) (N := some 30) (v := ?_) (a' := ?_) (b_ 19 262143) rfl rfl (any_of HT_.out (by kernel_rfl)) (fun _ _ _ h => h) (Or.inl ⟨by rfl, ?_⟩) ?_ ?_; rotate_left; (· intro w'; go_simp; with_reducible rfl); rotate_left; (· simp only [Act.put, sa_, sz_, ss_, i64_w, i32_w]; rfl)
    refine pure_ (i := 18) (N := some 12) (v := ?_) (a' := ?_) (b_ 19 524287) rfl rfl (any_of HT_.out (by kernel_rfl)) (fun _ _ _ h => h) (Or.inl ⟨by rfl, ?_⟩) ?_ ?_; rotate_left; (· intro w'; go_simp; with_reducible rfl); rotate_left; (· simp only [Act.put, sa_, sz_, ss_, i64_w, i32_w]; rfl)
    refine done_ (done_of HT_.out (by kernel_rfl)) ?_
    try go_wp2
    go_meet
    case rel => exact ⟨_, (true), (by first | rfl | simp [*]), H', ⟨by first | omega | exact Nat.le_refl _⟩, ⟨by (with_reducible repeat (first | apply zn | apply zd | apply za)); exact BK126.out⟩, ⟨by (with_reducible repeat (first | apply zn | apply zd | apply za)); exact BK127.out⟩, ⟨by repeat (first | (with_reducible first | exact HB.out | apply pa | apply pd | apply pe | refine zs ?_ GE126.out | refine zs ?_ GE127.out) | exact HB.out)⟩⟩
  rw [if_neg c11] at H
  have c11b0 : decide (a1_5 < 0) = false := df_ c11
  clear c11
  (first | rw [c11b0] | (simp only [i64_w, i32_w]; rw [c11b0]) | skip)
  replace H := ob_ H
  obtain ⟨⟨t133, t134, t135, t136⟩, A130, H⟩ := H
  replace H : (if a1_5 > (wrap64 (t133 + 1)) then ((saga_Over.f a1_0 a1_1 a1_2 a1_3 a1_4 a1_5 a1_6 a1_7 a1_8).bind fun t137 => (saga_tries.j0 k t132 (!t137) a1_0 a1_1 a1_2 a1_3 a1_4 a1_5 a1_6 a1_7 a1_8)) else (saga_tries.j0 k t132 false a1_0 a1_1 a1_2 a1_3 a1_4 a1_5 a1_6 a1_7 a1_8)) = some r := H
  have A13 := ak_ A130
  clear A130
  by_cases c14 : a1_5 > (wrap64 (t133 + 1))
  · rw [if_pos c14] at H
    have c14b0 : decide ((wrap64 (t133 + 1)) < a1_5) = true := dt_ c14
    clear c14
    replace H := ob_ H
    obtain ⟨t137, A150, H⟩ := H
    replace H : (saga_tries.j0 k t132 (!t137) a1_0 a1_1 a1_2 a1_3 a1_4 a1_5 a1_6 a1_7 a1_8) = some r := H
    have A15 := ak_ A150
    clear A150
    have H' := ak_ H
    clear H
    try go_wp2
    have n0_ := ak_ (zd BK126.out)
    have n1_ := ak_ (zd BK127.out)
    have n2_ := ak_ (pe HB.out)
    clear BK126 BK127 HB
    have BK126 := n0_
    have BK127 := n1_
    have HB := n2_
    clear n0_ n1_ n2_
    refine start_ (n := 19) (S := fun w' => w'.cell? ⟨gb127, 0, none⟩ = some (.int .i64 a1_0) ∧ w'.cell? ⟨gb127, 1, none⟩ = some (.string a1_1) ∧ w'.cell? ⟨gb127, 2, none⟩ = some (.int .i64 a1_2) ∧ w'.cell? ⟨gb127, 3, none⟩ = some (.int .i64 a1_3) ∧ w'.cell? ⟨gb127, 4, none⟩ = some (.int .i64 a1_4) ∧ w'.cell? ⟨gb127, 5, none⟩ = some (.int .i64 a1_5) ∧ w'.cell? ⟨gb127, 6, none⟩ = some (.bool a1_6) ∧ w'.cell? ⟨gb127, 7, none⟩ = some (.int .i64 a1_7) ∧ w'.cell? ⟨gb127, 8, none⟩ = some (.int .i64 a1_8) ∧ w'.cell? ⟨gb126, 0, none⟩ = some (.string a0_0) ∧ w'.cell? ⟨gb126, 1, none⟩ = some (.int .i64 a0_1) ∧ w'.cell? ⟨gb126, 2, none⟩ = some (.slice A0_2 l0_2.length c0_2)) (ds := []) #[false, false, false, false, false, false, false, false, false, false, false, false, false, false, false, false, false, false, false] (by kernel_rfl) rfl rfl ⟨(zc BK127.out 0).trans rfl, (zc BK127.out 1).trans rfl, (zc BK127.out 2).trans rfl, (zc BK127.out 3).trans rfl, (zc BK127.out 4).trans rfl, (zc BK127.out 5).trans rfl, (zc BK127.out 6).trans rfl, (zc BK127.out 7).trans rfl, (zc BK127.out 8).trans rfl, (zc BK126.out 0).trans rfl, (zc BK126.out 1).trans rfl, (zc BK126.out 2).trans rfl⟩ (fun hHeld => ?_); refine with_tabW saga_tries.tab2 saga_tries.bits2 (fun HT_ HW_ => ?_)
    generalize w10.drew = w16 at BK126 BK127 HB hHeld ⊢
    refine pure_ (i := 0) (N := some 13) (v := ?_) (a' := ?_) (b_ 19 1) rfl rfl (any_of HT_.out (by kernel_rfl)) (fun _ _ _ h => h) (Or.inl ⟨by rfl, ?_⟩) ?_ ?_; rotate_left; (· intro w'; go_simp; with_reducible rfl); rotate_left; (· simp only [Act.put, sa_, sz_, ss_, i64_w, i32_w]; rfl)
    refine take_ (i := 1) (N := some 14) (v := ?_) (a' := ?_) (b_ 19 3) rfl rfl (take_ofW HT_.out HW_.out (by kernel_rfl)) (fun _ _ _ h => h) (Or.inl ⟨by rfl, ?_⟩) hHeld ?_ ?_
    rotate_left
    · rintro w' ⟨s0, s1, s2, s3, s4, s5, s6, s7, s8, s9, s10, s11⟩
      go_simp
      with_reducible rfl
    rotate_left
    · simp only [Act.put, sa_, sz_, ss_, i64_w, i32_w]
      rfl
    refine pure_ (i := 2) (N := some 15) (v := ?_) (a' := ?_) (b_ 19 7) rfl rfl (any_of HT_.out (by kernel_rfl)) (fun _ _ _ h => h) (Or.inl ⟨by rfl, ?_⟩) ?_ ?_; rotate_left; (· intro w'; go_simp; with_reducible rfl); rotate_left; (· simp only [Act.put, sa_, sz_, ss_, i64_w, i32_w]; rfl)
    refine pure_ (i := 3) (N := some 16) (v := ?_) (a' := ?_) (b_ 19 15) rfl rfl (any_of HT_.out (by kernel_rfl)) (fun _ _ _ h => h) (Or.inl ⟨by rfl, ?_⟩) ?_ ?_; rotate_left; (· intro w'; go_simp; with_reducible rfl); rotate_left; (· simp only [Act.put, sa_, sz_, ss_, i64_w, i32_w]; rfl)
    refine pure_ (i := 4) (N := some 17) (v := ?_) (a' := ?_) (b_ 19 31) rfl rfl (any_of HT_.out (by kernel_rfl)) (fun _ _ _ h => h) (Or.inl ⟨by rfl, ?_⟩) ?_ ?_; rotate_left; (· intro w'; go_simp; with_reducible rfl); rotate_left; (· simp only [Act.put, sa_, sz_, ss_, i64_w, i32_w]; rfl)
    refine take_ (i := 5) (N := some 18) (v := ?_) (a' := ?_) (b_ 19 63) rfl rfl (take_ofW HT_.out HW_.out (by kernel_rfl)) (fun _ _ _ h => h) (Or.inl ⟨by rfl, ?_⟩) hHeld ?_ ?_
    rotate_left
    · rintro w' ⟨s0, s1, s2, s3, s4, s5, s6, s7, s8, s9, s10, s11⟩
      go_simp
      with_reducible rfl
    rotate_left
    · simp only [Act.put, sa_, sz_, ss_, i64_w, i32_w]
      rfl
    refine take_ (i := 6) (N := some 19) (v := ?_) (a' := ?_) (b_ 19 127) rfl rfl (take_ofW HT_.out HW_.out (by kernel_rfl)) (fun _ _ _ h => h) (Or.inl ⟨by rfl, ?_⟩) hHeld ?_ ?_
    rotate_left
    · rintro w' ⟨s0, s1, s2, s3, s4, s5, s6, s7, s8, s9, s10, s11⟩
      go_simp
      with_reducible rfl
    rotate_left
    · simp only [Act.put, sa_, sz_, ss_, i64_w, i32_w]
      rfl
    refine take_ (i := 7) (N := some 20) (v := ?_) (a' := ?_) (b_ 19 255) rfl rfl (take_ofW HT_.out HW_.out (by kernel_rfl)) (fun _ _ _ h => h) (Or.inl ⟨by rfl, ?_⟩) hHeld ?_ ?_
    rotate_left
    · rintro w' ⟨s0, s1, s2, s3, s4, s5, s6, s7, s8, s9, s10, s11⟩
      go_simp
      with_reducible rfl
    rotate_left
    · simp only [Act.put, sa_, sz_, ss_, i64_w, i32_w]
      rfl
    refine one_ (i := 8) (N := some 21) (b_ 19 511) rfl rfl (one_of HT_.out (by kernel_rfl)) (by decide) (fun K hK => ?_)
    refine goes_ Tryd.func56 (by kernel_rfl) rfl #[.agg #[.string a0_0, .int .i64 a0_1, .slice A0_2 l0_2.length c0_2], .agg #[.int .i64 a1_0, .string a1_1, .int .i64 a1_2, .int .i64 a1_3, .int .i64 a1_4, .int .i64 a1_5, .bool a1_6, .int .i64 a1_7, .int .i64 a1_8]] (by rfl) rfl rfl (by (try simp only [mt_, mc_, mn_]); first | done | rfl) ?_
    with_reducible refine (saga_plan.calls a0_0 a0_1 _ _ l0_2 a1_0 a1_1 a1_2 a1_3 a1_4 a1_5 a1_6 a1_7 a1_8 t133 t134 t135 t136 _ ?side1 ?side2 A13.out).mono ?_
    (case side1 => repeat (first | exact (Kd.C_below HR0_2.out HB.out) | (with_reducible refine Kd.C_alloc ?_ _) | (with_reducible refine Kd.C_drewN ?_ _) | (with_reducible refine Kd.C_drew ?_)))
    (case side2 => exact HC0_2.out)
    rintro e w17 ⟨rfl, hb⟩
    refine ⟨_, rfl, ?_⟩
    have n0_ := ak_ (blk_below (g := gb126) (o := .cells #[.string a0_0, .int .i64 a0_1, .slice A0_2 l0_2.length c0_2] 24 (0, 0)) (by (with_reducible repeat (first | apply zn | apply zd | apply za)); exact BK126.out) hb)
    have n1_ := ak_ (blk_below (g := gb127) (o := .cells #[.int .i64 a1_0, .string a1_1, .int .i64 a1_2, .int .i64 a1_3, .int .i64 a1_4, .int .i64 a1_5, .bool a1_6, .int .i64 a1_7, .int .i64 a1_8] 31 (0, 0)) (by (with_reducible repeat (first | apply zn | apply zd | apply za)); exact BK127.out) hb)
    have n2_ := ak_ (ps (by with_reducible repeat first | exact HB.out | apply pa | apply pd | apply pe | refine zs ?_ GE126.out | refine zs ?_ GE127.out) hb)
    clear BK126 BK127 HB
    have BK126 := n0_
    have BK127 := n1_
    have HB := n2_
    clear n0_ n1_ n2_
    (try clear hb hk hi)
    refine hK.out _ _ ⟨(zc BK127.out 0).trans rfl, (zc BK127.out 1).trans rfl, (zc BK127.out 2).trans rfl, (zc BK127.out 3).trans rfl, (zc BK127.out 4).trans rfl, (zc BK127.out 5).trans rfl, (zc BK127.out 6).trans rfl, (zc BK127.out 7).trans rfl, (zc BK127.out 8).trans rfl, (zc BK126.out 0).trans rfl, (zc BK126.out 1).trans rfl, (zc BK126.out 2).trans rfl⟩ (fun hHeld => ?_)
    clear hK K
    refine norm_ (a' := ?_) ?_ ?_
    rotate_left
    · show Act.put _ (some 21) _ = _
      simp only [Act.put, sa_, sz_, ss_, i64_w, i32_w]
      rfl
    refine pure_ (i := 9) (N := some 22) (v := ?_) (a' := ?_) (b_ 19 1023) rfl rfl (any_of HT_.out (by kernel_rfl)) (fun _ _ _ h => h) (Or.inl ⟨by rfl, ?_⟩) ?_ ?_; rotate_left; (· intro w'; go_simp; with_reducible rfl); rotate_left; (· simp only [Act.put, sa_, sz_, ss_, i64_w, i32_w]; rfl)
    refine pure_ (i := 10) (N := some 23) (v := ?_) (a' := ?_) (b_ 19 2047) rfl rfl (any_of HT_.out (by kernel_rfl)) (fun _ _ _ h => h) (Or.inl ⟨by rfl, ?_⟩) ?_ ?_; rotate_left; (· intro w'; go_simp; with_reducible rfl); rotate_left; (· simp only [Act.put, sa_, sz_, ss_, i64_w, i32_w]; rfl)
    refine pure_ (i := 11) (N := some 24) (v := ?_) (a' := ?_) (b_ 19 4095) rfl rfl (any_of HT_.out (by kernel_rfl)) (fun _ _ _ h => h) (Or.inl ⟨by rfl, ?_⟩) ?_ ?_; rotate_left; (· intro w'; go_simp; with_reducible rfl); rotate_left; (· simp only [Act.put, sa_, sz_, ss_, i64_w, i32_w]; rfl)
    refine pure_ (i := 12) (N := some 25) (v := ?_) (a' := ?_) (b_ 19 8191) rfl rfl (any_of HT_.out (by kernel_rfl)) (fun _ _ _ h => h) (Or.inl ⟨by rfl, ?_⟩) ?_ ?_; rotate_left; (· intro w'; go_simp; with_reducible rfl); rotate_left; (· simp only [Act.put, sa_, sz_, ss_, i64_w, i32_w]; rfl)
    refine take_ (i := 13) (N := some 26) (v := ?_) (a' := ?_) (b_ 19 16383) rfl rfl (take_ofW HT_.out HW_.out (by kernel_rfl)) (fun _ _ _ h => h) (Or.inl ⟨by rfl, ?_⟩) hHeld ?_ ?_
    rotate_left
    · rintro w' ⟨s0, s1, s2, s3, s4, s5, s6, s7, s8, s9, s10, s11⟩
      go_simp
      with_reducible rfl
    rotate_left
    · simp only [Act.put, sa_, sz_, ss_, i64_w, i32_w]
      rfl
    refine one_ (i := 14) (N := some 27) (b_ 19 32767) rfl rfl (one_of HT_.out (by kernel_rfl)) (by decide) (fun K hK => ?_)
    refine goes_ Tryd.func19 (by kernel_rfl) rfl #[.agg #[.int .i64 a1_0, .string a1_1, .int .i64 a1_2, .int .i64 a1_3, .int .i64 a1_4, .int .i64 a1_5, .bool a1_6, .int .i64 a1_7, .int .i64 a1_8]] (by rfl) rfl rfl (by (try simp only [mt_, mc_, mn_]); first | done | rfl) ?_
    with_reducible refine (saga_Over.calls a1_0 a1_1 a1_2 a1_3 a1_4 a1_5 a1_6 a1_7 a1_8 t137 _ A15.out).mono ?_
    rintro e w18 ⟨rfl, hb⟩
    refine ⟨_, rfl, ?_⟩
    have n0_ := ak_ (blk_below (g := gb126) (o := .cells #[.string a0_0, .int .i64 a0_1, .slice A0_2 l0_2.length c0_2] 24 (0, 0)) (by (with_reducible repeat (first | apply zn | apply zd | apply za)); exact BK126.out) hb)
    have n1_ := ak_ (blk_below (g := gb127) (o := .cells #[.int .i64 a1_0, .string a1_1, .int .i64 a1_2, .int .i64 a1_3, .int .i64 a1_4, .int .i64 a1_5, .bool a1_6, .int .i64 a1_7, .int .i64 a1_8] 31 (0, 0)) (by (with_reducible repeat (first | apply zn | apply zd | apply za)); exact BK127.out) hb)
    have n2_ := ak_ (ps (by with_reducible repeat first | exact HB.out | apply pa | apply pd | apply pe | refine zs ?_ GE126.out | refine zs ?_ GE127.out) hb)
    clear BK126 BK127 HB
    have BK126 := n0_
    have BK127 := n1_
    have HB := n2_
    clear n0_ n1_ n2_
    (try clear hb hk hi)
    refine hK.out _ _ ⟨(zc BK127.out 0).trans rfl, (zc BK127.out 1).trans rfl, (zc BK127.out 2).trans rfl, (zc BK127.out 3).trans rfl, (zc BK127.out 4).trans rfl, (zc BK127.out 5).trans rfl, (zc BK127.out 6).trans rfl, (zc BK127.out 7).trans rfl, (zc BK127.out 8).trans rfl, (zc BK126.out 0).trans rfl, (zc BK126.out 1).trans rfl, (zc BK126.out 2).trans rfl⟩ (fun hHeld => ?_)
    clear hK K
    refine norm_ (a' := ?_) ?_ ?_
    rotate_left
    · show Act.put _ (some 27) _ = _
      simp only [Act.put, sa_, sz_, ss_, i64_w, i32_w]
      rfl
    refine pure_ (i := 15) (N := some 28) (v := ?_) (a' := ?_) (b_ 19 65535) rfl rfl (any_of HT_.out (by kernel_rfl)) (fun _ _ _ h => h) (Or.inl ⟨by rfl, ?_⟩) ?_ ?_; rotate_left; (· intro w'; go_simp; with_reducible rfl); rotate_left; (· simp only [Act.put, sa_, sz_, ss_, i64_w, i32_w]; rfl)
    refine pure_ (i := 16) (N := some 29) (v := ?_) (a' := ?_) (b_ 19 131071) rfl rfl (any_of HT_.out (by kernel_rfl)) (fun _ _ _ h => h) (Or.inl ⟨by rfl, ?_⟩) ?_ ?_; rotate_left; (· intro w'; go_simp; with_reducible rfl); rotate_left; (· simp only [Act.put, sa_, sz_, ss_, i64_w, i32_w]; rfl)
    refine pure_ (i := 17) (N := some 30) (v := ?_) (a' := ?_) (b_ 19 262143) rfl rfl (any_of HT_.out (by kernel_rfl)) (fun _ _ _ h => h) (Or.inl ⟨by rfl, ?_⟩) ?_ ?_; rotate_left; (· intro w'; go_simp; with_reducible rfl); rotate_left; (· simp only [Act.put, sa_, sz_, ss_, i64_w, i32_w]; rfl)
    refine pure_ (i := 18) (N := some 12) (v := ?_) (a' := ?_) (b_ 19 524287) rfl rfl (any_of HT_.out (by kernel_rfl)) (fun _ _ _ h => h) (Or.inl ⟨by rfl, ?_⟩) ?_ ?_; rotate_left; (· intro w'; go_simp; with_reducible rfl); rotate_left; (· simp only [Act.put, sa_, sz_, ss_, i64_w, i32_w]; rfl)
    refine done_ (done_of HT_.out (by kernel_rfl)) ?_
    try go_wp2
    go_meet
    case rel => exact ⟨_, (!t137), (by first | rfl | simp [*]), H', ⟨by first | omega | exact Nat.le_refl _⟩, ⟨by (with_reducible repeat (first | apply zn | apply zd | apply za)); exact BK126.out⟩, ⟨by (with_reducible repeat (first | apply zn | apply zd | apply za)); exact BK127.out⟩, ⟨by repeat (first | (with_reducible first | exact HB.out | apply pa | apply pd | apply pe | refine zs ?_ GE126.out | refine zs ?_ GE127.out) | exact HB.out)⟩⟩
  rw [if_neg c14] at H
  have c14b0 : decide ((wrap64 (t133 + 1)) < a1_5) = false := df_ c14
  clear c14
  have H' := ak_ H
  clear H
  try go_wp2
  have n0_ := ak_ (zd BK126.out)
  have n1_ := ak_ (zd BK127.out)
  have n2_ := ak_ (pe HB.out)
  clear BK126 BK127 HB
  have BK126 := n0_
  have BK127 := n1_
  have HB := n2_
  clear n0_ n1_ n2_
  refine start_ (n := 19) (S := fun w' => w'.cell? ⟨gb127, 0, none⟩ = some (.int .i64 a1_0) ∧ w'.cell? ⟨gb127, 1, none⟩ = some (.string a1_1) ∧ w'.cell? ⟨gb127, 2, none⟩ = some (.int .i64 a1_2) ∧ w'.cell? ⟨gb127, 3, none⟩ = some (.int .i64 a1_3) ∧ w'.cell? ⟨gb127, 4, none⟩ = some (.int .i64 a1_4) ∧ w'.cell? ⟨gb127, 5, none⟩ = some (.int .i64 a1_5) ∧ w'.cell? ⟨gb127, 6, none⟩ = some (.bool a1_6) ∧ w'.cell? ⟨gb127, 7, none⟩ = some (.int .i64 a1_7) ∧ w'.cell? ⟨gb127, 8, none⟩ = some (.int .i64 a1_8) ∧ w'.cell? ⟨gb126, 0, none⟩ = some (.string a0_0) ∧ w'.cell? ⟨gb126, 1, none⟩ = some (.int .i64 a0_1) ∧ w'.cell? ⟨gb126, 2, none⟩ = some (.slice A0_2 l0_2.length c0_2)) (ds := []) #[false, false, false, false, false, false, false, false, false, false, false, false, false, false, false, false, false, false, false] (by kernel_rfl) rfl rfl ⟨(zc BK127.out 0).trans rfl, (zc BK127.out 1).trans rfl, (zc BK127.out 2).trans rfl, (zc BK127.out 3).trans rfl, (zc BK127.out 4).trans rfl, (zc BK127.out 5).trans rfl, (zc BK127.out 6).trans rfl, (zc BK127.out 7).trans rfl, (zc BK127.out 8).trans rfl, (zc BK126.out 0).trans rfl, (zc BK126.out 1).trans rfl, (zc BK126.out 2).trans rfl⟩ (fun hHeld => ?_); refine with_tabW saga_tries.tab2 saga_tries.bits2 (fun HT_ HW_ => ?_)
  generalize w10.drew = w19 at BK126 BK127 HB hHeld ⊢
  refine pure_ (i := 0) (N := some 13) (v := ?_) (a' := ?_) (b_ 19 1) rfl rfl (any_of HT_.out (by kernel_rfl)) (fun _ _ _ h => h) (Or.inl ⟨by rfl, ?_⟩) ?_ ?_; rotate_left; (· intro w'; go_simp; with_reducible rfl); rotate_left; (· simp only [Act.put, sa_, sz_, ss_, i64_w, i32_w]; rfl)
  refine take_ (i := 1) (N := some 14) (v := ?_) (a' := ?_) (b_ 19 3) rfl rfl (take_ofW HT_.out HW_.out (by kernel_rfl)) (fun _ _ _ h => h) (Or.inl ⟨by rfl, ?_⟩) hHeld ?_ ?_
  rotate_left
  · rintro w' ⟨s0, s1, s2, s3, s4, s5, s6, s7, s8, s9, s10, s11⟩
    go_simp
    with_reducible rfl
  rotate_left
  · simp only [Act.put, sa_, sz_, ss_, i64_w, i32_w]
    rfl
  refine pure_ (i := 2) (N := some 15) (v := ?_) (a' := ?_) (b_ 19 7) rfl rfl (any_of HT_.out (by kernel_rfl)) (fun _ _ _ h => h) (Or.inl ⟨by rfl, ?_⟩) ?_ ?_; rotate_left; (· intro w'; go_simp; with_reducible rfl); rotate_left; (· simp only [Act.put, sa_, sz_, ss_, i64_w, i32_w]; rfl)
  refine pure_ (i := 3) (N := some 16) (v := ?_) (a' := ?_) (b_ 19 15) rfl rfl (any_of HT_.out (by kernel_rfl)) (fun _ _ _ h => h) (Or.inl ⟨by rfl, ?_⟩) ?_ ?_; rotate_left; (· intro w'; go_simp; with_reducible rfl); rotate_left; (· simp only [Act.put, sa_, sz_, ss_, i64_w, i32_w]; rfl)
  refine pure_ (i := 4) (N := some 17) (v := ?_) (a' := ?_) (b_ 19 31) rfl rfl (any_of HT_.out (by kernel_rfl)) (fun _ _ _ h => h) (Or.inl ⟨by rfl, ?_⟩) ?_ ?_; rotate_left; (· intro w'; go_simp; with_reducible rfl); rotate_left; (· simp only [Act.put, sa_, sz_, ss_, i64_w, i32_w]; rfl)
  refine take_ (i := 5) (N := some 18) (v := ?_) (a' := ?_) (b_ 19 63) rfl rfl (take_ofW HT_.out HW_.out (by kernel_rfl)) (fun _ _ _ h => h) (Or.inl ⟨by rfl, ?_⟩) hHeld ?_ ?_
  rotate_left
  · rintro w' ⟨s0, s1, s2, s3, s4, s5, s6, s7, s8, s9, s10, s11⟩
    go_simp
    with_reducible rfl
  rotate_left
  · simp only [Act.put, sa_, sz_, ss_, i64_w, i32_w]
    rfl
  refine take_ (i := 6) (N := some 19) (v := ?_) (a' := ?_) (b_ 19 127) rfl rfl (take_ofW HT_.out HW_.out (by kernel_rfl)) (fun _ _ _ h => h) (Or.inl ⟨by rfl, ?_⟩) hHeld ?_ ?_
  rotate_left
  · rintro w' ⟨s0, s1, s2, s3, s4, s5, s6, s7, s8, s9, s10, s11⟩
    go_simp
    with_reducible rfl
  rotate_left
  · simp only [Act.put, sa_, sz_, ss_, i64_w, i32_w]
    rfl
  refine take_ (i := 7) (N := some 20) (v := ?_) (a' := ?_) (b_ 19 255) rfl rfl (take_ofW HT_.out HW_.out (by kernel_rfl)) (fun _ _ _ h => h) (Or.inl ⟨by rfl, ?_⟩) hHeld ?_ ?_
  rotate_left
  · rintro w' ⟨s0, s1, s2, s3, s4, s5, s6, s7, s8, s9, s10, s11⟩
    go_simp
    with_reducible rfl
  rotate_left
  · simp only [Act.put, sa_, sz_, ss_, i64_w, i32_w]
    rfl
  refine one_ (i := 8) (N := some 21) (b_ 19 511) rfl rfl (one_of HT_.out (by kernel_rfl)) (by decide) (fun K hK => ?_)
  refine goes_ Tryd.func56 (by kernel_rfl) rfl #[.agg #[.string a0_0, .int .i64 a0_1, .slice A0_2 l0_2.length c0_2], .agg #[.int .i64 a1_0, .string a1_1, .int .i64 a1_2, .int .i64 a1_3, .int .i64 a1_4, .int .i64 a1_5, .bool a1_6, .int .i64 a1_7, .int .i64 a1_8]] (by rfl) rfl rfl (by (try simp only [mt_, mc_, mn_]); first | done | rfl) ?_
  with_reducible refine (saga_plan.calls a0_0 a0_1 _ _ l0_2 a1_0 a1_1 a1_2 a1_3 a1_4 a1_5 a1_6 a1_7 a1_8 t133 t134 t135 t136 _ ?side1 ?side2 A13.out).mono ?_
  (case side1 => repeat (first | exact (Kd.C_below HR0_2.out HB.out) | (with_reducible refine Kd.C_alloc ?_ _) | (with_reducible refine Kd.C_drewN ?_ _) | (with_reducible refine Kd.C_drew ?_)))
  (case side2 => exact HC0_2.out)
  rintro e w20 ⟨rfl, hb⟩
  refine ⟨_, rfl, ?_⟩
  have n0_ := ak_ (blk_below (g := gb126) (o := .cells #[.string a0_0, .int .i64 a0_1, .slice A0_2 l0_2.length c0_2] 24 (0, 0)) (by (with_reducible repeat (first | apply zn | apply zd | apply za)); exact BK126.out) hb)
  have n1_ := ak_ (blk_below (g := gb127) (o := .cells #[.int .i64 a1_0, .string a1_1, .int .i64 a1_2, .int .i64 a1_3, .int .i64 a1_4, .int .i64 a1_5, .bool a1_6, .int .i64 a1_7, .int .i64 a1_8] 31 (0, 0)) (by (with_reducible repeat (first | apply zn | apply zd | apply za)); exact BK127.out) hb)
  have n2_ := ak_ (ps (by with_reducible repeat first | exact HB.out | apply pa | apply pd | apply pe | refine zs ?_ GE126.out | refine zs ?_ GE127.out) hb)
  clear BK126 BK127 HB
  have BK126 := n0_
  have BK127 := n1_
  have HB := n2_
  clear n0_ n1_ n2_
  (try clear hb hk hi)
  refine hK.out _ _ ⟨(zc BK127.out 0).trans rfl, (zc BK127.out 1).trans rfl, (zc BK127.out 2).trans rfl, (zc BK127.out 3).trans rfl, (zc BK127.out 4).trans rfl, (zc BK127.out 5).trans rfl, (zc BK127.out 6).trans rfl, (zc BK127.out 7).trans rfl, (zc BK127.out 8).trans rfl, (zc BK126.out 0).trans rfl, (zc BK126.out 1).trans rfl, (zc BK126.out 2).trans rfl⟩ (fun hHeld => ?_)
  clear hK K
  refine norm_ (a' := ?_) ?_ ?_
  rotate_left
  · show Act.put _ (some 21) _ = _
    simp only [Act.put, sa_, sz_, ss_, i64_w, i32_w]
    rfl
  refine pure_ (i := 9) (N := some 22) (v := ?_) (a' := ?_) (b_ 19 1023) rfl rfl (any_of HT_.out (by kernel_rfl)) (fun _ _ _ h => h) (Or.inl ⟨by rfl, ?_⟩) ?_ ?_; rotate_left; (· intro w'; go_simp; with_reducible rfl); rotate_left; (· simp only [Act.put, sa_, sz_, ss_, i64_w, i32_w]; rfl)
  refine pure_ (i := 10) (N := some 23) (v := ?_) (a' := ?_) (b_ 19 2047) rfl rfl (any_of HT_.out (by kernel_rfl)) (fun _ _ _ h => h) (Or.inl ⟨by rfl, ?_⟩) ?_ ?_; rotate_left; (· intro w'; go_simp; with_reducible rfl); rotate_left; (· simp only [Act.put, sa_, sz_, ss_, i64_w, i32_w]; rfl)
  refine pure_ (i := 11) (N := some 24) (v := ?_) (a' := ?_) (b_ 19 4095) rfl rfl (any_of HT_.out (by kernel_rfl)) (fun _ _ _ h => h) (Or.inl ⟨by rfl, ?_⟩) ?_ ?_; rotate_left; (· intro w'; go_simp; with_reducible rfl); rotate_left; (· simp only [Act.put, sa_, sz_, ss_, i64_w, i32_w]; rfl)
  refine pure_ (i := 12) (N := some 25) (v := ?_) (a' := ?_) (b_ 19 8191) rfl rfl (any_of HT_.out (by kernel_rfl)) (fun _ _ _ h => h) (Or.inl ⟨by rfl, ?_⟩) ?_ ?_; rotate_left; (· intro w'; go_simp; with_reducible rfl); rotate_left; (· simp only [Act.put, sa_, sz_, ss_, i64_w, i32_w]; rfl)
  refine pure_ (i := 13) (N := some 26) (v := undef) (a' := ?_) (b_ 19 16383) rfl rfl (any_of HT_.out (by kernel_rfl)) (fun _ _ _ h => h) (Or.inr ⟨by rfl, rfl⟩) ?_ ?_
  rotate_left
  · simp only [Act.put, sa_, sz_, ss_, i64_w, i32_w]
    rfl
  refine pure_ (i := 14) (N := some 27) (v := undef) (a' := ?_) (b_ 19 32767) rfl rfl (any_of HT_.out (by kernel_rfl)) (fun _ _ _ h => h) (Or.inr ⟨by rfl, rfl⟩) ?_ ?_
  rotate_left
  · simp only [Act.put, sa_, sz_, ss_, i64_w, i32_w]
    rfl
  refine pure_ (i := 15) (N := some 28) (v := undef) (a' := ?_) (b_ 19 65535) rfl rfl (any_of HT_.out (by kernel_rfl)) (fun _ _ _ h => h) (Or.inr ⟨by rfl, rfl⟩) ?_ ?_
  rotate_left
  · simp only [Act.put, sa_, sz_, ss_, i64_w, i32_w]
    rfl
  refine pure_ (i := 16) (N := some 29) (v := ?_) (a' := ?_) (b_ 19 131071) rfl rfl (any_of HT_.out (by kernel_rfl)) (fun _ _ _ h => h) (Or.inl ⟨by rfl, ?_⟩) ?_ ?_; rotate_left; (· intro w'; go_simp; with_reducible rfl); rotate_left; (· simp only [Act.put, sa_, sz_, ss_, i64_w, i32_w]; rfl)
  refine pure_ (i := 17) (N := some 30) (v := ?_) (a' := ?_) (b_ 19 262143) rfl rfl (any_of HT_.out (by kernel_rfl)) (fun _ _ _ h => h) (Or.inl ⟨by rfl, ?_⟩) ?_ ?_; rotate_left; (· intro w'; go_simp; with_reducible rfl); rotate_left; (· simp only [Act.put, sa_, sz_, ss_, i64_w, i32_w]; rfl)
  refine pure_ (i := 18) (N := some 12) (v := ?_) (a' := ?_) (b_ 19 524287) rfl rfl (any_of HT_.out (by kernel_rfl)) (fun _ _ _ h => h) (Or.inl ⟨by rfl, ?_⟩) ?_ ?_; rotate_left; (· intro w'; go_simp; with_reducible rfl); rotate_left; (· simp only [Act.put, sa_, sz_, ss_, i64_w, i32_w]; rfl)
  refine done_ (done_of HT_.out (by kernel_rfl)) ?_
  try go_wp2
  go_meet
  case rel => exact ⟨_, (false), (by first | rfl | simp [*]), H', ⟨by first | omega | exact Nat.le_refl _⟩, ⟨by (with_reducible repeat (first | apply zn | apply zd | apply za)); exact BK126.out⟩, ⟨by (with_reducible repeat (first | apply zn | apply zd | apply za)); exact BK127.out⟩, ⟨by repeat (first | (with_reducible first | exact HB.out | apply pa | apply pd | apply pe | refine zs ?_ GE126.out | refine zs ?_ GE127.out) | exact HB.out)⟩⟩
 case rest =>
  clear HC5
  try clear c1
  try clear p2
  try clear c5
  try clear p6
  try clear c11
  try clear c11b0
  try clear c14
  try clear c14b0
  try clear c19
  obtain ⟨kq, x12_4, rfl, HA, HJ4, BK126, BK127, HB⟩ := hcut
  cases kq with
  | zero => exact absurd HA.out (by simp [saga_tries.j0])
  | succ kj4 =>
   have H := HA.out
   clear HA
   simp only [saga_tries.j0] at H
   have HF21 := ak_ H
   clear H
   go_upto_if 12 with (fail)
   have H := HF21.out
   clear HF21
   by_cases c22 : x12_4 = true
   · subst c22
     have H1 : (some false) = some r := by rw [if_pos rfl] at H; exact H
     clear H
     have H := H1
     clear H1
     obtain rfl := Option.some.inj H
     go_wp2
     go_ret
     exact ⟨by first | rfl | simp [*], by repeat (first | (with_reducible first | exact HB.out | apply pa | apply pd | apply pe | refine zs ?_ GE126.out | refine zs ?_ GE127.out) | exact HB.out)⟩
   replace c22 := Bool.eq_false_iff.mpr c22
   subst c22
   have H1 : (if a1_6 = true then (if a1_5 > 0 then (some (decide (a1_3 ≤ 1))) else (some false)) else (if a1_3 = 2 then (some (t132 == 0)) else (some true))) = some r := by rw [if_neg (show ¬ (false = true) by decide)] at H; exact H
   clear H
   have H := H1
   clear H1
   have HF23 := ak_ H
   clear H
   have hnb24 := NB127_126.out
   have hnc24 := NB126_127.out
   have hcz25_0 : wc.cell? ⟨gb127, 0, none⟩ = some (.int .i64 a1_0) := (zc BK127.out 0).trans rfl
   have hcz25_1 : wc.cell? ⟨gb127, 1, none⟩ = some (.string a1_1) := (zc BK127.out 1).trans rfl
   have hcz25_2 : wc.cell? ⟨gb127, 2, none⟩ = some (.int .i64 a1_2) := (zc BK127.out 2).trans rfl
   have hcz25_3 : wc.cell? ⟨gb127, 3, none⟩ = some (.int .i64 a1_3) := (zc BK127.out 3).trans rfl
   have hcz25_4 : wc.cell? ⟨gb127, 4, none⟩ = some (.int .i64 a1_4) := (zc BK127.out 4).trans rfl
   have hcz25_5 : wc.cell? ⟨gb127, 5, none⟩ = some (.int .i64 a1_5) := (zc BK127.out 5).trans rfl
   have hcz25_6 : wc.cell? ⟨gb127, 6, none⟩ = some (.bool a1_6) := (zc BK127.out 6).trans rfl
   have hcz25_7 : wc.cell? ⟨gb127, 7, none⟩ = some (.int .i64 a1_7) := (zc BK127.out 7).trans rfl
   have hcz25_8 : wc.cell? ⟨gb127, 8, none⟩ = some (.int .i64 a1_8) := (zc BK127.out 8).trans rfl
   have hfz25_0 := zf BK127.out 0
   have hfz25_1 := zf BK127.out 1
   have hfz25_2 := zf BK127.out 2
   have hfz25_3 := zf BK127.out 3
   have hfz25_4 := zf BK127.out 4
   have hfz25_5 := zf BK127.out 5
   have hfz25_6 := zf BK127.out 6
   have hfz25_7 := zf BK127.out 7
   have hfz25_8 := zf BK127.out 8
   go_upto_if 31 with (fail)
   have H := HF23.out
   clear HF23
   by_cases c26 : a1_6 = true
   · subst c26
     have H1 : (if a1_5 > 0 then (some (decide (a1_3 ≤ 1))) else (some false)) = some r := by rw [if_pos rfl] at H; exact H
     clear H
     have H := H1
     clear H1
     by_cases c27 : a1_5 > 0
     · rw [if_pos c27] at H
       have c27b0 : decide (0 < a1_5) = true := dt_ c27
       clear c27
       (first | rw [c27b0] | (simp only [i64_w, i32_w]; rw [c27b0]) | skip)
       obtain rfl := Option.some.inj H
       have hnb28 := NB127_126.out
       have hnc28 := NB126_127.out
       have hcz29_0 : wc.cell? ⟨gb127, 0, none⟩ = some (.int .i64 a1_0) := (zc BK127.out 0).trans rfl
       have hcz29_1 : wc.cell? ⟨gb127, 1, none⟩ = some (.string a1_1) := (zc BK127.out 1).trans rfl
       have hcz29_2 : wc.cell? ⟨gb127, 2, none⟩ = some (.int .i64 a1_2) := (zc BK127.out 2).trans rfl
       have hcz29_3 : wc.cell? ⟨gb127, 3, none⟩ = some (.int .i64 a1_3) := (zc BK127.out 3).trans rfl
       have hcz29_4 : wc.cell? ⟨gb127, 4, none⟩ = some (.int .i64 a1_4) := (zc BK127.out 4).trans rfl
       have hcz29_5 : wc.cell? ⟨gb127, 5, none⟩ = some (.int .i64 a1_5) := (zc BK127.out 5).trans rfl
       have hcz29_6 : wc.cell? ⟨gb127, 6, none⟩ = some (.bool true) := (zc BK127.out 6).trans rfl
       have hcz29_7 : wc.cell? ⟨gb127, 7, none⟩ = some (.int .i64 a1_7) := (zc BK127.out 7).trans rfl
       have hcz29_8 : wc.cell? ⟨gb127, 8, none⟩ = some (.int .i64 a1_8) := (zc BK127.out 8).trans rfl
       have hfz29_0 := zf BK127.out 0
       have hfz29_1 := zf BK127.out 1
       have hfz29_2 := zf BK127.out 2
       have hfz29_3 := zf BK127.out 3
       have hfz29_4 := zf BK127.out 4
       have hfz29_5 := zf BK127.out 5
       have hfz29_6 := zf BK127.out 6
       have hfz29_7 := zf BK127.out 7
       have hfz29_8 := zf BK127.out 8
       go_wp2
       go_ret
       exact ⟨by first | rfl | simp [*], by repeat (first | (with_reducible first | exact HB.out | apply pa | apply pd | apply pe | refine zs ?_ GE126.out | refine zs ?_ GE127.out) | exact HB.out)⟩
     rw [if_neg c27] at H
     have c27b0 : decide (0 < a1_5) = false := df_ c27
     clear c27
     (first | rw [c27b0] | (simp only [i64_w, i32_w]; rw [c27b0]) | skip)
     obtain rfl := Option.some.inj H
     have hnb30 := NB127_126.out
     have hnc30 := NB126_127.out
     have hcz31_0 : wc.cell? ⟨gb127, 0, none⟩ = some (.int .i64 a1_0) := (zc BK127.out 0).trans rfl
     have hcz31_1 : wc.cell? ⟨gb127, 1, none⟩ = some (.string a1_1) := (zc BK127.out 1).trans rfl
     have hcz31_2 : wc.cell? ⟨gb127, 2, none⟩ = some (.int .i64 a1_2) := (zc BK127.out 2).trans rfl
     have hcz31_3 : wc.cell? ⟨gb127, 3, none⟩ = some (.int .i64 a1_3) := (zc BK127.out 3).trans rfl
     have hcz31_4 : wc.cell? ⟨gb127, 4, none⟩ = some (.int .i64 a1_4) := (zc BK127.out 4).trans rfl
     have hcz31_5 : wc.cell? ⟨gb127, 5, none⟩ = some (.int .i64 a1_5) := (zc BK127.out 5).trans rfl
     have hcz31_6 : wc.cell? ⟨gb127, 6, none⟩ = some (.bool true) := (zc BK127.out 6).trans rfl
     have hcz31_7 : wc.cell? ⟨gb127, 7, none⟩ = some (.int .i64 a1_7) := (zc BK127.out 7).trans rfl
     have hcz31_8 : wc.cell? ⟨gb127, 8, none⟩ = some (.int .i64 a1_8) := (zc BK127.out 8).trans rfl
     have hfz31_0 := zf BK127.out 0
     have hfz31_1 := zf BK127.out 1
     have hfz31_2 := zf BK127.out 2
     have hfz31_3 := zf BK127.out 3
     have hfz31_4 := zf BK127.out 4
     have hfz31_5 := zf BK127.out 5
     have hfz31_6 := zf BK127.out 6
     have hfz31_7 := zf BK127.out 7
     have hfz31_8 := zf BK127.out 8
     go_wp2
     go_ret
     exact ⟨by first | rfl | simp [*], by repeat (first | (with_reducible first | exact HB.out | apply pa | apply pd | apply pe | refine zs ?_ GE126.out | refine zs ?_ GE127.out) | exact HB.out)⟩
   replace c26 := Bool.eq_false_iff.mpr c26
   subst c26
   have H1 : (if a1_3 = 2 then (some (t132 == 0)) else (some true)) = some r := by rw [if_neg (show ¬ (false = true) by decide)] at H; exact H
   clear H
   have H := H1
   clear H1
   by_cases c32 : a1_3 = 2
   · rw [if_pos c32] at H
     have c32b0 : (a1_3 == 2) = true := beq_iff_eq.mpr c32
     have c32b1 : (a1_3 != 2) = false := bne_eq_false_iff_eq.mpr c32
     clear c32
     obtain rfl := Option.some.inj H
     have hnb33 := NB127_126.out
     have hnc33 := NB126_127.out
     have hcz34_0 : wc.cell? ⟨gb127, 0, none⟩ = some (.int .i64 a1_0) := (zc BK127.out 0).trans rfl
     have hcz34_1 : wc.cell? ⟨gb127, 1, none⟩ = some (.string a1_1) := (zc BK127.out 1).trans rfl
     have hcz34_2 : wc.cell? ⟨gb127, 2, none⟩ = some (.int .i64 a1_2) := (zc BK127.out 2).trans rfl
     have hcz34_3 : wc.cell? ⟨gb127, 3, none⟩ = some (.int .i64 a1_3) := (zc BK127.out 3).trans rfl
     have hcz34_4 : wc.cell? ⟨gb127, 4, none⟩ = some (.int .i64 a1_4) := (zc BK127.out 4).trans rfl
     have hcz34_5 : wc.cell? ⟨gb127, 5, none⟩ = some (.int .i64 a1_5) := (zc BK127.out 5).trans rfl
     have hcz34_6 : wc.cell? ⟨gb127, 6, none⟩ = some (.bool false) := (zc BK127.out 6).trans rfl
     have hcz34_7 : wc.cell? ⟨gb127, 7, none⟩ = some (.int .i64 a1_7) := (zc BK127.out 7).trans rfl
     have hcz34_8 : wc.cell? ⟨gb127, 8, none⟩ = some (.int .i64 a1_8) := (zc BK127.out 8).trans rfl
     have hfz34_0 := zf BK127.out 0
     have hfz34_1 := zf BK127.out 1
     have hfz34_2 := zf BK127.out 2
     have hfz34_3 := zf BK127.out 3
     have hfz34_4 := zf BK127.out 4
     have hfz34_5 := zf BK127.out 5
     have hfz34_6 := zf BK127.out 6
     have hfz34_7 := zf BK127.out 7
     have hfz34_8 := zf BK127.out 8
     go_wp2
     go_ret
     exact ⟨by first | rfl | simp [*], by repeat (first | (with_reducible first | exact HB.out | apply pa | apply pd | apply pe | refine zs ?_ GE126.out | refine zs ?_ GE127.out) | exact HB.out)⟩
   rw [if_neg c32] at H
   have c32b0 : (a1_3 == 2) = false := beq_eq_false_iff_ne.mpr c32
   have c32b1 : (a1_3 != 2) = true := bne_iff_ne.mpr c32
   obtain rfl := Option.some.inj H
   have hnb35 := NB127_126.out
   have hnc35 := NB126_127.out
   have hcz36_0 : wc.cell? ⟨gb127, 0, none⟩ = some (.int .i64 a1_0) := (zc BK127.out 0).trans rfl
   have hcz36_1 : wc.cell? ⟨gb127, 1, none⟩ = some (.string a1_1) := (zc BK127.out 1).trans rfl
   have hcz36_2 : wc.cell? ⟨gb127, 2, none⟩ = some (.int .i64 a1_2) := (zc BK127.out 2).trans rfl
   have hcz36_3 : wc.cell? ⟨gb127, 3, none⟩ = some (.int .i64 a1_3) := (zc BK127.out 3).trans rfl
   have hcz36_4 : wc.cell? ⟨gb127, 4, none⟩ = some (.int .i64 a1_4) := (zc BK127.out 4).trans rfl
   have hcz36_5 : wc.cell? ⟨gb127, 5, none⟩ = some (.int .i64 a1_5) := (zc BK127.out 5).trans rfl
   have hcz36_6 : wc.cell? ⟨gb127, 6, none⟩ = some (.bool false) := (zc BK127.out 6).trans rfl
   have hcz36_7 : wc.cell? ⟨gb127, 7, none⟩ = some (.int .i64 a1_7) := (zc BK127.out 7).trans rfl
   have hcz36_8 : wc.cell? ⟨gb127, 8, none⟩ = some (.int .i64 a1_8) := (zc BK127.out 8).trans rfl
   have hfz36_0 := zf BK127.out 0
   have hfz36_1 := zf BK127.out 1
   have hfz36_2 := zf BK127.out 2
   have hfz36_3 := zf BK127.out 3
   have hfz36_4 := zf BK127.out 4
   have hfz36_5 := zf BK127.out 5
   have hfz36_6 := zf BK127.out 6
   have hfz36_7 := zf BK127.out 7
   have hfz36_8 := zf BK127.out 8
   go_wp2
   go_ret
   exact ⟨by first | rfl | simp [*], by repeat (first | (with_reducible first | exact HB.out | apply pa | apply pd | apply pe | refine zs ?_ GE126.out | refine zs ?_ GE127.out) | exact HB.out)⟩
mutual
def saga_Good.j0 : Nat → Bool → ByteArray → Int → List (S70) → Int → ByteArray → Int → Int → Int → Int → Bool → Int → Int → Option (Bool)
 | 0, _, _, _, _, _, _, _, _, _, _, _, _, _ => none
 | k + 1, x14, x139000, x139001, x139002, x140000, x140001, x140002, x140003, x140004, x140005, x140006, x140007, x140008 => if x14 = true then (some false) else ((tick_Good.f x140002).bind fun t142 => (if t142 = true then ((tick_Good.f x140007).bind fun t143 => (if t143 = true then (if x140008 < 0 then (saga_Good.j1 k true x139000 x139001 x139002 x140000 x140001 x140002 x140003 x140004 x140005 x140006 x140007 x140008) else (saga_Good.j1 k (decide (x140008 > 32)) x139000 x139001 x139002 x140000 x140001 x140002 x140003 x140004 x140005 x140006 x140007 x140008)) else (saga_Good.j1 k true x139000 x139001 x139002 x140000 x140001 x140002 x140003 x140004 x140005 x140006 x140007 x140008))) else (saga_Good.j1 k true x139000 x139001 x139002 x140000 x140001 x140002 x140003 x140004 x140005 x140006 x140007 x140008)))
def saga_Good.j1 : Nat → Bool → ByteArray → Int → List (S70) → Int → ByteArray → Int → Int → Int → Int → Bool → Int → Int → Option (Bool)
 | 0, _, _, _, _, _, _, _, _, _, _, _, _, _ => none
 | k + 1, x48, x139000, x139001, x139002, x140000, x140001, x140002, x140003, x140004, x140005, x140006, x140007, x140008 => if x48 = true then (some false) else ((saga_tries.f k x139000 x139001 x139002 x140000 x140001 x140002 x140003 x140004 x140005 x140006 x140007 x140008).bind fun t144 => (some t144))
end
def saga_Good.f (k : Nat) (a0_0 : ByteArray) (a0_1 : Int) (l0_2 : List (S70)) (a1_0 : Int) (a1_1 : ByteArray) (a1_2 : Int) (a1_3 : Int) (a1_4 : Int) (a1_5 : Int) (a1_6 : Bool) (a1_7 : Int) (a1_8 : Int) : Option (Bool) := (def_Check.f k a0_0 a0_1 l0_2).bind fun bt140 => (if bt140.2 = 0 then (if a1_1.toList = a0_0.toList then (if a1_0 < 0 then (saga_Good.j0 k true a0_0 a0_1 l0_2 a1_0 a1_1 a1_2 a1_3 a1_4 a1_5 a1_6 a1_7 a1_8) else (if a1_3 < 0 then (saga_Good.j0 k true a0_0 a0_1 l0_2 a1_0 a1_1 a1_2 a1_3 a1_4 a1_5 a1_6 a1_7 a1_8) else (if a1_3 > 5 then (saga_Good.j0 k true a0_0 a0_1 l0_2 a1_0 a1_1 a1_2 a1_3 a1_4 a1_5 a1_6 a1_7 a1_8) else (if a1_4 < 0 then (saga_Good.j0 k true a0_0 a0_1 l0_2 a1_0 a1_1 a1_2 a1_3 a1_4 a1_5 a1_6 a1_7 a1_8) else (saga_Good.j0 k (decide (a1_4 ≥ (l0_2.length : Int))) a0_0 a0_1 l0_2 a1_0 a1_1 a1_2 a1_3 a1_4 a1_5 a1_6 a1_7 a1_8))))) else (saga_Good.j0 k true a0_0 a0_1 l0_2 a1_0 a1_1 a1_2 a1_3 a1_4 a1_5 a1_6 a1_7 a1_8)) else (some false))
theorem saga_Good.calls (k : Nat) (a0_0 : ByteArray) (a0_1 : Int) (A0_2 : Option Addr) (c0_2 : Nat) (l0_2 : List (S70)) (a1_0 : Int) (a1_1 : ByteArray) (a1_2 : Int) (a1_3 : Int) (a1_4 : Int) (a1_5 : Int) (a1_6 : Bool) (a1_7 : Int) (a1_8 : Int) (r : Bool) (w : World) (hr0_2 : Kd.C k70 w A0_2 l0_2.length l0_2) (hc0_2 : l0_2.length ≤ c0_2) (hTab_ : Tabs_ w) (h : saga_Good.f k a0_0 a0_1 l0_2 a1_0 a1_1 a1_2 a1_3 a1_4 a1_5 a1_6 a1_7 a1_8 = some r) :
 Calls Tryd.prog 18 #[.agg #[.string a0_0, .int .i64 a0_1, .slice A0_2 l0_2.length c0_2], .agg #[.int .i64 a1_0, .string a1_1, .int .i64 a1_2, .int .i64 a1_3, .int .i64 a1_4, .int .i64 a1_5, .bool a1_6, .int .i64 a1_7, .int .i64 a1_8]] w fun e w' => e = .returned (.bool r) ∧ Below w.heap.size w w' := by
 have HT := ak_ hTab_
 clear hTab_
 have hu24 := Tryd.underlying24
 have hu31 := Tryd.underlying31
 have HR0_2 := ak_ hr0_2
 have HC0_2 := ak_ hc0_2
 clear hr0_2 hc0_2
 have HB := ak_ (Below.refl w.heap.size w)
 have H : ((def_Check.f k a0_0 a0_1 l0_2).bind fun bt140 => (if bt140.2 = 0 then (if a1_1.toList = a0_0.toList then (if a1_0 < 0 then (saga_Good.j0 k true a0_0 a0_1 l0_2 a1_0 a1_1 a1_2 a1_3 a1_4 a1_5 a1_6 a1_7 a1_8) else (if a1_3 < 0 then (saga_Good.j0 k true a0_0 a0_1 l0_2 a1_0 a1_1 a1_2 a1_3 a1_4 a1_5 a1_6 a1_7 a1_8) else (if a1_3 > 5 then (saga_Good.j0 k true a0_0 a0_1 l0_2 a1_0 a1_1 a1_2 a1_3 a1_4 a1_5 a1_6 a1_7 a1_8) else (if a1_4 < 0 then (saga_Good.j0 k true a0_0 a0_1 l0_2 a1_0 a1_1 a1_2 a1_3 a1_4 a1_5 a1_6 a1_7 a1_8) else (saga_Good.j0 k (decide (a1_4 ≥ (l0_2.length : Int))) a0_0 a0_1 l0_2 a1_0 a1_1 a1_2 a1_3 a1_4 a1_5 a1_6 a1_7 a1_8))))) else (saga_Good.j0 k true a0_0 a0_1 l0_2 a1_0 a1_1 a1_2 a1_3 a1_4 a1_5 a1_6 a1_7 a1_8)) else (some false))) = some r := h
 clear h
 replace H := ob_ H
 obtain ⟨⟨t140, t141⟩, A30, H⟩ := H
 replace H : (if t141 = 0 then (if a1_1.toList = a0_0.toList then (if a1_0 < 0 then (saga_Good.j0 k true a0_0 a0_1 l0_2 a1_0 a1_1 a1_2 a1_3 a1_4 a1_5 a1_6 a1_7 a1_8) else (if a1_3 < 0 then (saga_Good.j0 k true a0_0 a0_1 l0_2 a1_0 a1_1 a1_2 a1_3 a1_4 a1_5 a1_6 a1_7 a1_8) else (if a1_3 > 5 then (saga_Good.j0 k true a0_0 a0_1 l0_2 a1_0 a1_1 a1_2 a1_3 a1_4 a1_5 a1_6 a1_7 a1_8) else (if a1_4 < 0 then (saga_Good.j0 k true a0_0 a0_1 l0_2 a1_0 a1_1 a1_2 a1_3 a1_4 a1_5 a1_6 a1_7 a1_8) else (saga_Good.j0 k (decide (a1_4 ≥ (l0_2.length : Int))) a0_0 a0_1 l0_2 a1_0 a1_1 a1_2 a1_3 a1_4 a1_5 a1_6 a1_7 a1_8))))) else (saga_Good.j0 k true a0_0 a0_1 l0_2 a1_0 a1_1 a1_2 a1_3 a1_4 a1_5 a1_6 a1_7 a1_8)) else (some false)) = some r := H
 have A3 := ak_ A30
 clear A30
 have HF4 := ak_ H
 clear H
 go_enter Tryd.func18, Tryd.ntmps18
 go_upto_if 13 with (first | ((with_reducible refine gate_dst (N := 2) rfl ?_); (try (refine gate_guard (by rfl) ?_; dsimp only)); refine box_event ?hg (N := 2) ?hd (cs := #[.string a0_0, .int .i64 a0_1, .slice A0_2 l0_2.length c0_2]) (t := 24) ?hr ?_; (case hd | hg => rfl); (case hr => first | (go_simp; done) | (go_simp; rfl)); intro gb138 hg w5 hbox hb; have n0_ := ak_ (ps (by with_reducible repeat first | exact HB.out | apply pa | apply pd | apply pe) hb); have n1_ := ak_ (hbox); have n2_ := ak_ ((by rw [hg]; exact (below_size (by with_reducible repeat first | exact HB.out | apply pa | apply pd | apply pe)) : w.heap.size ≤ gb138)); have n3_ := ak_ ((by rw [hg]; exact (below_size (by with_reducible repeat first | exact HB.out | apply pa | apply pd | apply pe)) : w.heap.size ≤ gb138)); clear HB; have HB := n0_; have BK138 := n1_; have GW138 := n2_; have GE138 := n3_; clear n0_ n1_ n2_ n3_ hb hbox hg) | ((with_reducible refine gate_dst (N := 3) rfl ?_); (try (refine gate_guard (by rfl) ?_; dsimp only)); refine box_event ?hg (N := 3) ?hd (cs := #[.int .i64 a1_0, .string a1_1, .int .i64 a1_2, .int .i64 a1_3, .int .i64 a1_4, .int .i64 a1_5, .bool a1_6, .int .i64 a1_7, .int .i64 a1_8]) (t := 31) ?hr ?_; (case hd | hg => rfl); (case hr => first | (go_simp; done) | (go_simp; rfl)); intro gb139 hg w6 hbox hb; have n0_ := ak_ (blk_below (g := gb138) (o := .cells #[.string a0_0, .int .i64 a0_1, .slice A0_2 l0_2.length c0_2] 24 (0, 0)) (by (with_reducible repeat (first | apply zn | apply zd | apply za)); exact BK138.out) hb); have n1_ := ak_ (ps (by with_reducible repeat first | exact HB.out | apply pa | apply pd | apply pe | refine zs ?_ GE138.out) hb); have n2_ := ak_ (hbox); have n3_ := ak_ ((by rw [hg]; exact (below_size (by with_reducible repeat first | exact HB.out | apply pa | apply pd | apply pe | refine zs ?_ GE138.out)) : w.heap.size ≤ gb139)); have n4_ := ak_ ((by rw [hg]; exact (below_size (by with_reducible repeat first | exact HB.out | apply pa | apply pd | apply pe | refine zs ?_ GE138.out)) : w.heap.size ≤ gb139)); have n5_ := ak_ ((by rw [hg]; exact Nat.ne_of_lt (blk_lt (g := gb138) (by (with_reducible repeat (first | apply zn | apply zd | apply za)); exact BK138.out)) : gb138 ≠ gb139)); have n6_ := ak_ ((by rw [hg]; exact Nat.ne_of_gt (blk_lt (g := gb138) (by (with_reducible repeat (first | apply zn | apply zd | apply za)); exact BK138.out)) : gb139 ≠ gb138)); clear BK138 HB; have BK138 := n0_; have HB := n1_; have BK139 := n2_; have GW139 := n3_; have GE139 := n4_; have NB138_139 := n5_; have NB139_138 := n6_; clear n0_ n1_ n2_ n3_ n4_ n5_ n6_ hb hbox hg; have hnb7 := NB138_139.out; have hnc7 := NB139_138.out; have hcz8_0 : w6.cell? ⟨gb138, 0, none⟩ = some (.string a0_0) := (zc BK138.out 0).trans rfl; have hcz8_1 : w6.cell? ⟨gb138, 1, none⟩ = some (.int .i64 a0_1) := (zc BK138.out 1).trans rfl; have hcz8_2 : w6.cell? ⟨gb138, 2, none⟩ = some (.slice A0_2 l0_2.length c0_2) := (zc BK138.out 2).trans rfl; have hfz8_0 := zf BK138.out 0; have hfz8_1 := zf BK138.out 1; have hfz8_2 := zf BK138.out 2) | ((with_reducible refine gate_callee (f := 50) rfl ?_); refine goesL_ (some 9) rfl rfl Tryd.func50 (by kernel_rfl) rfl #[.agg #[.string a0_0, .int .i64 a0_1, .slice A0_2 l0_2.length c0_2]] rfl (by (try simp only [mt_, mc_, mn_]); first | done | rfl) ?_; (with_reducible refine (def_Check.calls k a0_0 a0_1 _ _ l0_2 t140 t141 _ ?side1 ?side2 ?tab_ A3.out).mono ?_); (case tab_ => first | exact HT.out | exact Tabs_.below HT.out (by with_reducible repeat first | exact HB.out | apply pa | apply pd | apply pe)); (case side1 => repeat (first | exact (Kd.C_below HR0_2.out HB.out) | (with_reducible refine Kd.C_alloc ?_ _) | (with_reducible refine Kd.C_drewN ?_ _) | (with_reducible refine Kd.C_drew ?_))); (case side2 => exact HC0_2.out); rintro e w9 ⟨rfl, hb⟩; refine ⟨_, rfl, ?_⟩; have n0_ := ak_ (blk_below (g := gb138) (o := .cells #[.string a0_0, .int .i64 a0_1, .slice A0_2 l0_2.length c0_2] 24 (0, 0)) (by (with_reducible repeat (first | apply zn | apply zd | apply za)); exact BK138.out) hb); have n1_ := ak_ (blk_below (g := gb139) (o := .cells #[.int .i64 a1_0, .string a1_1, .int .i64 a1_2, .int .i64 a1_3, .int .i64 a1_4, .int .i64 a1_5, .bool a1_6, .int .i64 a1_7, .int .i64 a1_8] 31 (0, 0)) (by (with_reducible repeat (first | apply zn | apply zd | apply za)); exact BK139.out) hb); have n2_ := ak_ (ps (by with_reducible repeat first | exact HB.out | apply pa | apply pd | apply pe | refine zs ?_ GE138.out | refine zs ?_ GE139.out) hb); clear BK138 BK139 HB; have BK138 := n0_; have BK139 := n1_; have HB := n2_; clear n0_ n1_ n2_))
 (try simp only [Act.put, sa_, sz_, ss_])
 have H := HF4.out
 clear HF4
 by_cases c10 : t141 = 0
 · rw [if_pos c10] at H
   have c10b0 : (t141 == 0) = true := beq_iff_eq.mpr c10
   have c10b1 : (t141 != 0) = false := bne_eq_false_iff_eq.mpr c10
   clear c10
   (first | rw [c10b0] | (simp only [i64_w, i32_w]; rw [c10b0]) | skip)
   have HC11 := ak_ H
   clear H
   go_upto_region 4 with (fail)
   go_cut [14] (fun v14 wc => ∃ (kq : Nat) (x14_10 : Bool), v14 = .bool x14_10 ∧ Aside0 (saga_Good.j0 kq x14_10 a0_0 a0_1 l0_2 a1_0 a1_1 a1_2 a1_3 a1_4 a1_5 a1_6 a1_7 a1_8 = some r) ∧ Aside0 (kq ≤ k) ∧ Aside0 (wc.heap[gb138]? = some (.cells #[.string a0_0, .int .i64 a0_1, (.slice A0_2 l0_2.length c0_2)] 24 (0, 0))) ∧ Aside0 (wc.heap[gb139]? = some (.cells #[.int .i64 a1_0, .string a1_1, .int .i64 a1_2, .int .i64 a1_3, .int .i64 a1_4, .int .i64 a1_5, .bool a1_6, .int .i64 a1_7, .int .i64 a1_8] 31 (0, 0))) ∧ Aside0 (Below w.heap.size w wc))
   case first =>
    have H := HC11.out
    clear HC11
    by_cases c12 : a1_1.toList = a0_0.toList
    · rw [if_pos c12] at H
      have c12b0 : (a1_1.toList == a0_0.toList) = true := beq_iff_eq.mpr c12
      have c12b1 : (a1_1.toList != a0_0.toList) = false := bne_eq_false_iff_eq.mpr c12
      clear c12
      (first | rw [c12b0] | (simp only [i64_w, i32_w]; rw [c12b0]) | skip)
      by_cases c13 : a1_0 < 0
      · rw [if_pos c13] at H
        have c13b0 : decide (a1_0 < 0) = true := dt_ c13
        clear c13
        have H' := ak_ H
        clear H
        have hnb14 := NB139_138.out
        have hnc14 := NB138_139.out
        have hcz15_0 : w9.cell? ⟨gb139, 0, none⟩ = some (.int .i64 a1_0) := (zc BK139.out 0).trans rfl
        have hcz15_1 : w9.cell? ⟨gb139, 1, none⟩ = some (.string a1_1) := (zc BK139.out 1).trans rfl
        have hcz15_2 : w9.cell? ⟨gb139, 2, none⟩ = some (.int .i64 a1_2) := (zc BK139.out 2).trans rfl
        have hcz15_3 : w9.cell? ⟨gb139, 3, none⟩ = some (.int .i64 a1_3) := (zc BK139.out 3).trans rfl
        have hcz15_4 : w9.cell? ⟨gb139, 4, none⟩ = some (.int .i64 a1_4) := (zc BK139.out 4).trans rfl
        have hcz15_5 : w9.cell? ⟨gb139, 5, none⟩ = some (.int .i64 a1_5) := (zc BK139.out 5).trans rfl
        have hcz15_6 : w9.cell? ⟨gb139, 6, none⟩ = some (.bool a1_6) := (zc BK139.out 6).trans rfl
        have hcz15_7 : w9.cell? ⟨gb139, 7, none⟩ = some (.int .i64 a1_7) := (zc BK139.out 7).trans rfl
        have hcz15_8 : w9.cell? ⟨gb139, 8, none⟩ = some (.int .i64 a1_8) := (zc BK139.out 8).trans rfl
        have hfz15_0 := zf BK139.out 0
        have hfz15_1 := zf BK139.out 1
        have hfz15_2 := zf BK139.out 2
        have hfz15_3 := zf BK139.out 3
        have hfz15_4 := zf BK139.out 4
        have hfz15_5 := zf BK139.out 5
        have hfz15_6 := zf BK139.out 6
        have hfz15_7 := zf BK139.out 7
        have hfz15_8 := zf BK139.out 8
        have hcz16_0 : w9.cell? ⟨gb138, 0, none⟩ = some (.string a0_0) := (zc BK138.out 0).trans rfl
        have hcz16_1 : w9.cell? ⟨gb138, 1, none⟩ = some (.int .i64 a0_1) := (zc BK138.out 1).trans rfl
        have hcz16_2 : w9.cell? ⟨gb138, 2, none⟩ = some (.slice A0_2 l0_2.length c0_2) := (zc BK138.out 2).trans rfl
        have hfz16_0 := zf BK138.out 0
        have hfz16_1 := zf BK138.out 1
        have hfz16_2 := zf BK138.out 2
        go_wp2
        go_meet
        case rel => exact ⟨_, (true), (by first | rfl | simp [*]), H', ⟨by first | omega | exact Nat.le_refl _⟩, ⟨by (with_reducible repeat (first | apply zn | apply zd | apply za)); exact BK138.out⟩, ⟨by (with_reducible repeat (first | apply zn | apply zd | apply za)); exact BK139.out⟩, ⟨by repeat (first | (with_reducible first | exact HB.out | apply pa | apply pd | apply pe | refine zs ?_ GE138.out | refine zs ?_ GE139.out) | exact HB.out)⟩⟩
      rw [if_neg c13] at H
      have c13b0 : decide (a1_0 < 0) = false := df_ c13
      clear c13
      by_cases c17 : a1_3 < 0
      · rw [if_pos c17] at H
        have c17b0 : decide (a1_3 < 0) = true := dt_ c17
        clear c17
        have H' := ak_ H
        clear H
        have hnb18 := NB139_138.out
        have hnc18 := NB138_139.out
        have hcz19_0 : w9.cell? ⟨gb139, 0, none⟩ = some (.int .i64 a1_0) := (zc BK139.out 0).trans rfl
        have hcz19_1 : w9.cell? ⟨gb139, 1, none⟩ = some (.string a1_1) := (zc BK139.out 1).trans rfl
        have hcz19_2 : w9.cell? ⟨gb139, 2, none⟩ = some (.int .i64 a1_2) := (zc BK139.out 2).trans rfl
        have hcz19_3 : w9.cell? ⟨gb139, 3, none⟩ = some (.int .i64 a1_3) := (zc BK139.out 3).trans rfl
        have hcz19_4 : w9.cell? ⟨gb139, 4, none⟩ = some (.int .i64 a1_4) := (zc BK139.out 4).trans rfl
        have hcz19_5 : w9.cell? ⟨gb139, 5, none⟩ = some (.int .i64 a1_5) := (zc BK139.out 5).trans rfl
        have hcz19_6 : w9.cell? ⟨gb139, 6, none⟩ = some (.bool a1_6) := (zc BK139.out 6).trans rfl
        have hcz19_7 : w9.cell? ⟨gb139, 7, none⟩ = some (.int .i64 a1_7) := (zc BK139.out 7).trans rfl
        have hcz19_8 : w9.cell? ⟨gb139, 8, none⟩ = some (.int .i64 a1_8) := (zc BK139.out 8).trans rfl
        have hfz19_0 := zf BK139.out 0
        have hfz19_1 := zf BK139.out 1
        have hfz19_2 := zf BK139.out 2
        have hfz19_3 := zf BK139.out 3
        have hfz19_4 := zf BK139.out 4
        have hfz19_5 := zf BK139.out 5
        have hfz19_6 := zf BK139.out 6
        have hfz19_7 := zf BK139.out 7
        have hfz19_8 := zf BK139.out 8
        have hcz20_0 : w9.cell? ⟨gb138, 0, none⟩ = some (.string a0_0) := (zc BK138.out 0).trans rfl
        have hcz20_1 : w9.cell? ⟨gb138, 1, none⟩ = some (.int .i64 a0_1) := (zc BK138.out 1).trans rfl
        have hcz20_2 : w9.cell? ⟨gb138, 2, none⟩ = some (.slice A0_2 l0_2.length c0_2) := (zc BK138.out 2).trans rfl
        have hfz20_0 := zf BK138.out 0
        have hfz20_1 := zf BK138.out 1
        have hfz20_2 := zf BK138.out 2
        go_wp2
        go_meet
        case rel => exact ⟨_, (true), (by first | rfl | simp [*]), H', ⟨by first | omega | exact Nat.le_refl _⟩, ⟨by (with_reducible repeat (first | apply zn | apply zd | apply za)); exact BK138.out⟩, ⟨by (with_reducible repeat (first | apply zn | apply zd | apply za)); exact BK139.out⟩, ⟨by repeat (first | (with_reducible first | exact HB.out | apply pa | apply pd | apply pe | refine zs ?_ GE138.out | refine zs ?_ GE139.out) | exact HB.out)⟩⟩
      rw [if_neg c17] at H
      have c17b0 : decide (a1_3 < 0) = false := df_ c17
      clear c17
      by_cases c21 : a1_3 > 5
      · rw [if_pos c21] at H
        have c21b0 : decide (5 < a1_3) = true := dt_ c21
        clear c21
        have H' := ak_ H
        clear H
        have hnb22 := NB139_138.out
        have hnc22 := NB138_139.out
        have hcz23_0 : w9.cell? ⟨gb139, 0, none⟩ = some (.int .i64 a1_0) := (zc BK139.out 0).trans rfl
        have hcz23_1 : w9.cell? ⟨gb139, 1, none⟩ = some (.string a1_1) := (zc BK139.out 1).trans rfl
        have hcz23_2 : w9.cell? ⟨gb139, 2, none⟩ = some (.int .i64 a1_2) := (zc BK139.out 2).trans rfl
        have hcz23_3 : w9.cell? ⟨gb139, 3, none⟩ = some (.int .i64 a1_3) := (zc BK139.out 3).trans rfl
        have hcz23_4 : w9.cell? ⟨gb139, 4, none⟩ = some (.int .i64 a1_4) := (zc BK139.out 4).trans rfl
        have hcz23_5 : w9.cell? ⟨gb139, 5, none⟩ = some (.int .i64 a1_5) := (zc BK139.out 5).trans rfl
        have hcz23_6 : w9.cell? ⟨gb139, 6, none⟩ = some (.bool a1_6) := (zc BK139.out 6).trans rfl
        have hcz23_7 : w9.cell? ⟨gb139, 7, none⟩ = some (.int .i64 a1_7) := (zc BK139.out 7).trans rfl
        have hcz23_8 : w9.cell? ⟨gb139, 8, none⟩ = some (.int .i64 a1_8) := (zc BK139.out 8).trans rfl
        have hfz23_0 := zf BK139.out 0
        have hfz23_1 := zf BK139.out 1
        have hfz23_2 := zf BK139.out 2
        have hfz23_3 := zf BK139.out 3
        have hfz23_4 := zf BK139.out 4
        have hfz23_5 := zf BK139.out 5
        have hfz23_6 := zf BK139.out 6
        have hfz23_7 := zf BK139.out 7
        have hfz23_8 := zf BK139.out 8
        have hcz24_0 : w9.cell? ⟨gb138, 0, none⟩ = some (.string a0_0) := (zc BK138.out 0).trans rfl
        have hcz24_1 : w9.cell? ⟨gb138, 1, none⟩ = some (.int .i64 a0_1) := (zc BK138.out 1).trans rfl
        have hcz24_2 : w9.cell? ⟨gb138, 2, none⟩ = some (.slice A0_2 l0_2.length c0_2) := (zc BK138.out 2).trans rfl
        have hfz24_0 := zf BK138.out 0
        have hfz24_1 := zf BK138.out 1
        have hfz24_2 := zf BK138.out 2
        go_wp2
        go_meet
        case rel => exact ⟨_, (true), (by first | rfl | simp [*]), H', ⟨by first | omega | exact Nat.le_refl _⟩, ⟨by (with_reducible repeat (first | apply zn | apply zd | apply za)); exact BK138.out⟩, ⟨by (with_reducible repeat (first | apply zn | apply zd | apply za)); exact BK139.out⟩, ⟨by repeat (first | (with_reducible first | exact HB.out | apply pa | apply pd | apply pe | refine zs ?_ GE138.out | refine zs ?_ GE139.out) | exact HB.out)⟩⟩
      rw [if_neg c21] at H
      have c21b0 : decide (5 < a1_3) = false := df_ c21
      clear c21
      by_cases c25 : a1_4 < 0
      · rw [if_pos c25] at H
        have c25b0 : decide (a1_4 < 0) = true := dt_ c25
        clear c25
        have H' := ak_ H
        clear H
        have hnb26 := NB139_138.out
        have hnc26 := NB138_139.out
        have hcz27_0 : w9.cell? ⟨gb139, 0, none⟩ = some (.int .i64 a1_0) := (zc BK139.out 0).trans rfl
        have hcz27_1 : w9.cell? ⟨gb139, 1, none⟩ = some (.string a1_1) := (zc BK139.out 1).trans rfl
        have hcz27_2 : w9.cell? ⟨gb139, 2, none⟩ = some (.int .i64 a1_2) := (zc BK139.out 2).trans rfl
        have hcz27_3 : w9.cell? ⟨gb139, 3, none⟩ = some (.int .i64 a1_3) := (zc BK139.out 3).trans rfl
        have hcz27_4 : w9.cell? ⟨gb139, 4, none⟩ = some (.int .i64 a1_4) := (zc BK139.out 4).trans rfl
        have hcz27_5 : w9.cell? ⟨gb139, 5, none⟩ = some (.int .i64 a1_5) := (zc BK139.out 5).trans rfl
        have hcz27_6 : w9.cell? ⟨gb139, 6, none⟩ = some (.bool a1_6) := (zc BK139.out 6).trans rfl
        have hcz27_7 : w9.cell? ⟨gb139, 7, none⟩ = some (.int .i64 a1_7) := (zc BK139.out 7).trans rfl
        have hcz27_8 : w9.cell? ⟨gb139, 8, none⟩ = some (.int .i64 a1_8) := (zc BK139.out 8).trans rfl
        have hfz27_0 := zf BK139.out 0
        have hfz27_1 := zf BK139.out 1
        have hfz27_2 := zf BK139.out 2
        have hfz27_3 := zf BK139.out 3
        have hfz27_4 := zf BK139.out 4
        have hfz27_5 := zf BK139.out 5
        have hfz27_6 := zf BK139.out 6
        have hfz27_7 := zf BK139.out 7
        have hfz27_8 := zf BK139.out 8
        have hcz28_0 : w9.cell? ⟨gb138, 0, none⟩ = some (.string a0_0) := (zc BK138.out 0).trans rfl
        have hcz28_1 : w9.cell? ⟨gb138, 1, none⟩ = some (.int .i64 a0_1) := (zc BK138.out 1).trans rfl
        have hcz28_2 : w9.cell? ⟨gb138, 2, none⟩ = some (.slice A0_2 l0_2.length c0_2) := (zc BK138.out 2).trans rfl
        have hfz28_0 := zf BK138.out 0
        have hfz28_1 := zf BK138.out 1
        have hfz28_2 := zf BK138.out 2
        go_wp2
        go_meet
        case rel => exact ⟨_, (true), (by first | rfl | simp [*]), H', ⟨by first | omega | exact Nat.le_refl _⟩, ⟨by (with_reducible repeat (first | apply zn | apply zd | apply za)); exact BK138.out⟩, ⟨by (with_reducible repeat (first | apply zn | apply zd | apply za)); exact BK139.out⟩, ⟨by repeat (first | (with_reducible first | exact HB.out | apply pa | apply pd | apply pe | refine zs ?_ GE138.out | refine zs ?_ GE139.out) | exact HB.out)⟩⟩
      rw [if_neg c25] at H
      have c25b0 : decide (a1_4 < 0) = false := df_ c25
      clear c25
      have H' := ak_ H
      clear H
      have hnb29 := NB139_138.out
      have hnc29 := NB138_139.out
      have hcz30_0 : w9.cell? ⟨gb139, 0, none⟩ = some (.int .i64 a1_0) := (zc BK139.out 0).trans rfl
      have hcz30_1 : w9.cell? ⟨gb139, 1, none⟩ = some (.string a1_1) := (zc BK139.out 1).trans rfl
      have hcz30_2 : w9.cell? ⟨gb139, 2, none⟩ = some (.int .i64 a1_2) := (zc BK139.out 2).trans rfl
      have hcz30_3 : w9.cell? ⟨gb139, 3, none⟩ = some (.int .i64 a1_3) := (zc BK139.out 3).trans rfl
      have hcz30_4 : w9.cell? ⟨gb139, 4, none⟩ = some (.int .i64 a1_4) := (zc BK139.out 4).trans rfl
      have hcz30_5 : w9.cell? ⟨gb139, 5, none⟩ = some (.int .i64 a1_5) := (zc BK139.out 5).trans rfl
      have hcz30_6 : w9.cell? ⟨gb139, 6, none⟩ = some (.bool a1_6) := (zc BK139.out 6).trans rfl
      have hcz30_7 : w9.cell? ⟨gb139, 7, none⟩ = some (.int .i64 a1_7) := (zc BK139.out 7).trans rfl
      have hcz30_8 : w9.cell? ⟨gb139, 8, none⟩ = some (.int .i64 a1_8) := (zc BK139.out 8).trans rfl
      have hfz30_0 := zf BK139.out 0
      have hfz30_1 := zf BK139.out 1
      have hfz30_2 := zf BK139.out 2
      have hfz30_3 := zf BK139.out 3
      have hfz30_4 := zf BK139.out 4
      have hfz30_5 := zf BK139.out 5
      have hfz30_6 := zf BK139.out 6
      have hfz30_7 := zf BK139.out 7
      have hfz30_8 := zf BK139.out 8
      have hcz31_0 : w9.cell? ⟨gb138, 0, none⟩ = some (.string a0_0) := (zc BK138.out 0).trans rfl
      have hcz31_1 : w9.cell? ⟨gb138, 1, none⟩ = some (.int .i64 a0_1) := (zc BK138.out 1).trans rfl
      have hcz31_2 : w9.cell? ⟨gb138, 2, none⟩ = some (.slice A0_2 l0_2.length c0_2) := (zc BK138.out 2).trans rfl
      have hfz31_0 := zf BK138.out 0
      have hfz31_1 := zf BK138.out 1
      have hfz31_2 := zf BK138.out 2
      go_wp2
      go_meet
      case rel => exact ⟨_, (decide (a1_4 ≥ (l0_2.length : Int))), (by first | rfl | simp [*]), H', ⟨by first | omega | exact Nat.le_refl _⟩, ⟨by (with_reducible repeat (first | apply zn | apply zd | apply za)); exact BK138.out⟩, ⟨by (with_reducible repeat (first | apply zn | apply zd | apply za)); exact BK139.out⟩, ⟨by repeat (first | (with_reducible first | exact HB.out | apply pa | apply pd | apply pe | refine zs ?_ GE138.out | refine zs ?_ GE139.out) | exact HB.out)⟩⟩
    rw [if_neg c12] at H
    have c12b0 : (a1_1.toList == a0_0.toList) = false := beq_eq_false_iff_ne.mpr c12
    have c12b1 : (a1_1.toList != a0_0.toList) = true := bne_iff_ne.mpr c12
    (first | rw [c12b0] | (simp only [i64_w, i32_w]; rw [c12b0]) | skip)
    have H' := ak_ H
    clear H
    have hnb32 := NB139_138.out
    have hnc32 := NB138_139.out
    have hcz33_0 : w9.cell? ⟨gb139, 0, none⟩ = some (.int .i64 a1_0) := (zc BK139.out 0).trans rfl
    have hcz33_1 : w9.cell? ⟨gb139, 1, none⟩ = some (.string a1_1) := (zc BK139.out 1).trans rfl
    have hcz33_2 : w9.cell? ⟨gb139, 2, none⟩ = some (.int .i64 a1_2) := (zc BK139.out 2).trans rfl
    have hcz33_3 : w9.cell? ⟨gb139, 3, none⟩ = some (.int .i64 a1_3) := (zc BK139.out 3).trans rfl
    have hcz33_4 : w9.cell? ⟨gb139, 4, none⟩ = some (.int .i64 a1_4) := (zc BK139.out 4).trans rfl
    have hcz33_5 : w9.cell? ⟨gb139, 5, none⟩ = some (.int .i64 a1_5) := (zc BK139.out 5).trans rfl
    have hcz33_6 : w9.cell? ⟨gb139, 6, none⟩ = some (.bool a1_6) := (zc BK139.out 6).trans rfl
    have hcz33_7 : w9.cell? ⟨gb139, 7, none⟩ = some (.int .i64 a1_7) := (zc BK139.out 7).trans rfl
    have hcz33_8 : w9.cell? ⟨gb139, 8, none⟩ = some (.int .i64 a1_8) := (zc BK139.out 8).trans rfl
    have hfz33_0 := zf BK139.out 0
    have hfz33_1 := zf BK139.out 1
    have hfz33_2 := zf BK139.out 2
    have hfz33_3 := zf BK139.out 3
    have hfz33_4 := zf BK139.out 4
    have hfz33_5 := zf BK139.out 5
    have hfz33_6 := zf BK139.out 6
    have hfz33_7 := zf BK139.out 7
    have hfz33_8 := zf BK139.out 8
    have hcz34_0 : w9.cell? ⟨gb138, 0, none⟩ = some (.string a0_0) := (zc BK138.out 0).trans rfl
    have hcz34_1 : w9.cell? ⟨gb138, 1, none⟩ = some (.int .i64 a0_1) := (zc BK138.out 1).trans rfl
    have hcz34_2 : w9.cell? ⟨gb138, 2, none⟩ = some (.slice A0_2 l0_2.length c0_2) := (zc BK138.out 2).trans rfl
    have hfz34_0 := zf BK138.out 0
    have hfz34_1 := zf BK138.out 1
    have hfz34_2 := zf BK138.out 2
    go_wp2
    go_meet
    case rel => exact ⟨_, (true), (by first | rfl | simp [*]), H', ⟨by first | omega | exact Nat.le_refl _⟩, ⟨by (with_reducible repeat (first | apply zn | apply zd | apply za)); exact BK138.out⟩, ⟨by (with_reducible repeat (first | apply zn | apply zd | apply za)); exact BK139.out⟩, ⟨by repeat (first | (with_reducible first | exact HB.out | apply pa | apply pd | apply pe | refine zs ?_ GE138.out | refine zs ?_ GE139.out) | exact HB.out)⟩⟩
   case rest =>
    clear HC11
    try clear c1
    try clear c2
    try clear p2
    try clear c3
    try clear c5
    try clear c7
    try clear c10
    try clear c10b0
    try clear c10b1
    try clear c12
    try clear c12b0
    try clear c12b1
    try clear c13
    try clear c13b0
    try clear c14
    try clear c17
    try clear c17b0
    try clear c18
    try clear c21
    try clear c21b0
    try clear c22
    try clear c25
    try clear c25b0
    try clear c26
    try clear c29
    try clear c32
    try clear hcz15_0
    try clear hcz15_1
    try clear hcz15_2
    try clear hcz15_3
    try clear hcz15_4
    try clear hcz15_5
    try clear hcz15_6
    try clear hcz15_7
    try clear hcz15_8
    try clear hcz16_0
    try clear hcz16_1
    try clear hcz16_2
    try clear hcz19_0
    try clear hcz19_1
    try clear hcz19_2
    try clear hcz19_3
    try clear hcz19_4
    try clear hcz19_5
    try clear hcz19_6
    try clear hcz19_7
    try clear hcz19_8
    try clear hcz20_0
    try clear hcz20_1
    try clear hcz20_2
    try clear hcz23_0
    try clear hcz23_1
    try clear hcz23_2
    try clear hcz23_3
    try clear hcz23_4
    try clear hcz23_5
    try clear hcz23_6
    try clear hcz23_7
    try clear hcz23_8
    try clear hcz24_0
    try clear hcz24_1
    try clear hcz24_2
    try clear hcz27_0
    try clear hcz27_1
    try clear hcz27_2
    try clear hcz27_3
    try clear hcz27_4
    try clear hcz27_5
    try clear hcz27_6
    try clear hcz27_7
    try clear hcz27_8
    try clear hcz28_0
    try clear hcz28_1
    try clear hcz28_2
    try clear hcz30_0
    try clear hcz30_1
    try clear hcz30_2
    try clear hcz30_3
    try clear hcz30_4
    try clear hcz30_5
    try clear hcz30_6
    try clear hcz30_7
    try clear hcz30_8
    try clear hcz31_0
    try clear hcz31_1
    try clear hcz31_2
    try clear hcz33_0
    try clear hcz33_1
    try clear hcz33_2
    try clear hcz33_3
    try clear hcz33_4
    try clear hcz33_5
    try clear hcz33_6
    try clear hcz33_7
    try clear hcz33_8
    try clear hcz34_0
    try clear hcz34_1
    try clear hcz34_2
    try clear hcz8_0
    try clear hcz8_1
    try clear hcz8_2
    try clear hfz15_0
    try clear hfz15_1
    try clear hfz15_2
    try clear hfz15_3
    try clear hfz15_4
    try clear hfz15_5
    try clear hfz15_6
    try clear hfz15_7
    try clear hfz15_8
    try clear hfz16_0
    try clear hfz16_1
    try clear hfz16_2
    try clear hfz19_0
    try clear hfz19_1
    try clear hfz19_2
    try clear hfz19_3
    try clear hfz19_4
    try clear hfz19_5
    try clear hfz19_6
    try clear hfz19_7
    try clear hfz19_8
    try clear hfz20_0
    try clear hfz20_1
    try clear hfz20_2
    try clear hfz23_0
    try clear hfz23_1
    try clear hfz23_2
    try clear hfz23_3
    try clear hfz23_4
    try clear hfz23_5
    try clear hfz23_6
    try clear hfz23_7
    try clear hfz23_8
    try clear hfz24_0
    try clear hfz24_1
    try clear hfz24_2
    try clear hfz27_0
    try clear hfz27_1
    try clear hfz27_2
    try clear hfz27_3
    try clear hfz27_4
    try clear hfz27_5
    try clear hfz27_6
    try clear hfz27_7
    try clear hfz27_8
    try clear hfz28_0
    try clear hfz28_1
    try clear hfz28_2
    try clear hfz30_0
    try clear hfz30_1
    try clear hfz30_2
    try clear hfz30_3
    try clear hfz30_4
    try clear hfz30_5
    try clear hfz30_6
    try clear hfz30_7
    try clear hfz30_8
    try clear hfz31_0
    try clear hfz31_1
    try clear hfz31_2
    try clear hfz33_0
    try clear hfz33_1
    try clear hfz33_2
    try clear hfz33_3
    try clear hfz33_4
    try clear hfz33_5
    try clear hfz33_6
    try clear hfz33_7
    try clear hfz33_8
    try clear hfz34_0
    try clear hfz34_1
    try clear hfz34_2
    try clear hfz8_0
    try clear hfz8_1
    try clear hfz8_2
    obtain ⟨kq, x14_10, rfl, HA, HJ10, BK138, BK139, HB⟩ := hcut
    cases kq with
    | zero => exact absurd HA.out (by simp [saga_Good.j0])
    | succ kj10 =>
     have H := HA.out
     clear HA
     simp only [saga_Good.j0] at H
     have HF35 := ak_ H
     clear H
     go_upto_if 14 with (fail)
     have H := HF35.out
     clear HF35
     by_cases c36 : x14_10 = true
     · subst c36
       have H1 : (some false) = some r := by rw [if_pos rfl] at H; exact H
       clear H
       have H := H1
       clear H1
       obtain rfl := Option.some.inj H
       go_wp2
       go_ret
       exact ⟨by first | rfl | simp [*], by repeat (first | (with_reducible first | exact HB.out | apply pa | apply pd | apply pe | refine zs ?_ GE138.out | refine zs ?_ GE139.out) | exact HB.out)⟩
     replace c36 := Bool.eq_false_iff.mpr c36
     subst c36
     have H1 : ((tick_Good.f a1_2).bind fun t142 => (if t142 = true then ((tick_Good.f a1_7).bind fun t143 => (if t143 = true then (if a1_8 < 0 then (saga_Good.j1 kj10 true a0_0 a0_1 l0_2 a1_0 a1_1 a1_2 a1_3 a1_4 a1_5 a1_6 a1_7 a1_8) else (saga_Good.j1 kj10 (decide (a1_8 > 32)) a0_0 a0_1 l0_2 a1_0 a1_1 a1_2 a1_3 a1_4 a1_5 a1_6 a1_7 a1_8)) else (saga_Good.j1 kj10 true a0_0 a0_1 l0_2 a1_0 a1_1 a1_2 a1_3 a1_4 a1_5 a1_6 a1_7 a1_8))) else (saga_Good.j1 kj10 true a0_0 a0_1 l0_2 a1_0 a1_1 a1_2 a1_3 a1_4 a1_5 a1_6 a1_7 a1_8))) = some r := by rw [if_neg (show ¬ (false = true) by decide)] at H; exact H
     clear H
     have H := H1
     clear H1
     have HC37 := ak_ H
     clear H
     go_upto_region 6 with (fail)
     go_cut [48] (fun v48 wc => ∃ (kq : Nat) (x48_36 : Bool), v48 = .bool x48_36 ∧ Aside0 (saga_Good.j1 kq x48_36 a0_0 a0_1 l0_2 a1_0 a1_1 a1_2 a1_3 a1_4 a1_5 a1_6 a1_7 a1_8 = some r) ∧ Aside0 (kq ≤ kj10) ∧ Aside0 (wc.heap[gb138]? = some (.cells #[.string a0_0, .int .i64 a0_1, (.slice A0_2 l0_2.length c0_2)] 24 (0, 0))) ∧ Aside0 (wc.heap[gb139]? = some (.cells #[.int .i64 a1_0, .string a1_1, .int .i64 a1_2, .int .i64 a1_3, .int .i64 a1_4, .int .i64 a1_5, .bool a1_6, .int .i64 a1_7, .int .i64 a1_8] 31 (0, 0))) ∧ Aside0 (Below w.heap.size w wc))
     case first =>
      have H := HC37.out
      clear HC37
      replace H := ob_ H
      obtain ⟨t142, A380, H⟩ := H
      replace H : (if t142 = true then ((tick_Good.f a1_7).bind fun t143 => (if t143 = true then (if a1_8 < 0 then (saga_Good.j1 kj10 true a0_0 a0_1 l0_2 a1_0 a1_1 a1_2 a1_3 a1_4 a1_5 a1_6 a1_7 a1_8) else (saga_Good.j1 kj10 (decide (a1_8 > 32)) a0_0 a0_1 l0_2 a1_0 a1_1 a1_2 a1_3 a1_4 a1_5 a1_6 a1_7 a1_8)) else (saga_Good.j1 kj10 true a0_0 a0_1 l0_2 a1_0 a1_1 a1_2 a1_3 a1_4 a1_5 a1_6 a1_7 a1_8))) else (saga_Good.j1 kj10 true a0_0 a0_1 l0_2 a1_0 a1_1 a1_2 a1_3 a1_4 a1_5 a1_6 a1_7 a1_8)) = some r := H
      have A38 := ak_ A380
      clear A380
      by_cases c39 : t142 = true
      · subst c39
        have H1 : ((tick_Good.f a1_7).bind fun t143 => (if t143 = true then (if a1_8 < 0 then (saga_Good.j1 kj10 true a0_0 a0_1 l0_2 a1_0 a1_1 a1_2 a1_3 a1_4 a1_5 a1_6 a1_7 a1_8) else (saga_Good.j1 kj10 (decide (a1_8 > 32)) a0_0 a0_1 l0_2 a1_0 a1_1 a1_2 a1_3 a1_4 a1_5 a1_6 a1_7 a1_8)) else (saga_Good.j1 kj10 true a0_0 a0_1 l0_2 a1_0 a1_1 a1_2 a1_3 a1_4 a1_5 a1_6 a1_7 a1_8))) = some r := by rw [if_pos rfl] at H; exact H
        clear H
        have H := H1
        clear H1
        replace H := ob_ H
        obtain ⟨t143, A400, H⟩ := H
        replace H : (if t143 = true then (if a1_8 < 0 then (saga_Good.j1 kj10 true a0_0 a0_1 l0_2 a1_0 a1_1 a1_2 a1_3 a1_4 a1_5 a1_6 a1_7 a1_8) else (saga_Good.j1 kj10 (decide (a1_8 > 32)) a0_0 a0_1 l0_2 a1_0 a1_1 a1_2 a1_3 a1_4 a1_5 a1_6 a1_7 a1_8)) else (saga_Good.j1 kj10 true a0_0 a0_1 l0_2 a1_0 a1_1 a1_2 a1_3 a1_4 a1_5 a1_6 a1_7 a1_8)) = some r := H
        have A40 := ak_ A400
        clear A400
        by_cases c41 : t143 = true
        · subst c41
          have H1 : (if a1_8 < 0 then (saga_Good.j1 kj10 true a0_0 a0_1 l0_2 a1_0 a1_1 a1_2 a1_3 a1_4 a1_5 a1_6 a1_7 a1_8) else (saga_Good.j1 kj10 (decide (a1_8 > 32)) a0_0 a0_1 l0_2 a1_0 a1_1 a1_2 a1_3 a1_4 a1_5 a1_6 a1_7 a1_8)) = some r := by rw [if_pos rfl] at H; exact H
          clear H
          have H := H1
          clear H1
          by_cases c42 : a1_8 < 0
          · rw [if_pos c42] at H
            have c42b0 : decide (a1_8 < 0) = true := dt_ c42
            clear c42
            (first | rw [c42b0] | (simp only [i64_w, i32_w]; rw [c42b0]) | skip)
            have H' := ak_ H
            clear H
            have hnb43 := NB139_138.out
            have hnc43 := NB138_139.out
            have hcz44_0 : wc.cell? ⟨gb139, 0, none⟩ = some (.int .i64 a1_0) := (zc BK139.out 0).trans rfl
            have hcz44_1 : wc.cell? ⟨gb139, 1, none⟩ = some (.string a1_1) := (zc BK139.out 1).trans rfl
            have hcz44_2 : wc.cell? ⟨gb139, 2, none⟩ = some (.int .i64 a1_2) := (zc BK139.out 2).trans rfl
            have hcz44_3 : wc.cell? ⟨gb139, 3, none⟩ = some (.int .i64 a1_3) := (zc BK139.out 3).trans rfl
            have hcz44_4 : wc.cell? ⟨gb139, 4, none⟩ = some (.int .i64 a1_4) := (zc BK139.out 4).trans rfl
            have hcz44_5 : wc.cell? ⟨gb139, 5, none⟩ = some (.int .i64 a1_5) := (zc BK139.out 5).trans rfl
            have hcz44_6 : wc.cell? ⟨gb139, 6, none⟩ = some (.bool a1_6) := (zc BK139.out 6).trans rfl
            have hcz44_7 : wc.cell? ⟨gb139, 7, none⟩ = some (.int .i64 a1_7) := (zc BK139.out 7).trans rfl
            have hcz44_8 : wc.cell? ⟨gb139, 8, none⟩ = some (.int .i64 a1_8) := (zc BK139.out 8).trans rfl
            have hfz44_0 := zf BK139.out 0
            have hfz44_1 := zf BK139.out 1
            have hfz44_2 := zf BK139.out 2
            have hfz44_3 := zf BK139.out 3
            have hfz44_4 := zf BK139.out 4
            have hfz44_5 := zf BK139.out 5
            have hfz44_6 := zf BK139.out 6
            have hfz44_7 := zf BK139.out 7
            have hfz44_8 := zf BK139.out 8
            go_wp2_with (first | ((with_reducible refine gate_callee (f := 51) rfl ?_); refine goesL_ (some 51) rfl rfl Tryd.func51 (by kernel_rfl) rfl #[.int .i64 a1_2] rfl (by simp only [mt_, mc_, mn_] <;> rfl) ?_; (with_reducible refine (tick_Good.calls a1_2 true _ A38.out).mono ?_); rintro e w' ⟨rfl, ⟨nd, rfl⟩⟩; refine ⟨_, rfl, ?_⟩) | (go_at_call 51; (with_reducible refine (tick_Good.calls a1_7 true _ A40.out).mono ?_); rintro e w' ⟨rfl, ⟨nd, rfl⟩⟩))
            go_meet
            case rel => exact ⟨_, (true), (by first | rfl | simp [*]), H', ⟨by have := HJ10.out; first | omega | exact Nat.le_refl _⟩, ⟨by (with_reducible repeat (first | apply zn | apply zd | apply za)); exact BK138.out⟩, ⟨by (with_reducible repeat (first | apply zn | apply zd | apply za)); exact BK139.out⟩, ⟨by repeat (first | (with_reducible first | exact HB.out | apply pa | apply pd | apply pe | refine zs ?_ GE138.out | refine zs ?_ GE139.out) | exact HB.out)⟩⟩
          rw [if_neg c42] at H
          have c42b0 : decide (a1_8 < 0) = false := df_ c42
          clear c42
          (first | rw [c42b0] | (simp only [i64_w, i32_w]; rw [c42b0]) | skip)
          have H' := ak_ H
          clear H
          have hnb45 := NB139_138.out
          have hnc45 := NB138_139.out
          have hcz46_0 : wc.cell? ⟨gb139, 0, none⟩ = some (.int .i64 a1_0) := (zc BK139.out 0).trans rfl
          have hcz46_1 : wc.cell? ⟨gb139, 1, none⟩ = some (.string a1_1) := (zc BK139.out 1).trans rfl
          have hcz46_2 : wc.cell? ⟨gb139, 2, none⟩ = some (.int .i64 a1_2) := (zc BK139.out 2).trans rfl
          have hcz46_3 : wc.cell? ⟨gb139, 3, none⟩ = some (.int .i64 a1_3) := (zc BK139.out 3).trans rfl
          have hcz46_4 : wc.cell? ⟨gb139, 4, none⟩ = some (.int .i64 a1_4) := (zc BK139.out 4).trans rfl
          have hcz46_5 : wc.cell? ⟨gb139, 5, none⟩ = some (.int .i64 a1_5) := (zc BK139.out 5).trans rfl
          have hcz46_6 : wc.cell? ⟨gb139, 6, none⟩ = some (.bool a1_6) := (zc BK139.out 6).trans rfl
          have hcz46_7 : wc.cell? ⟨gb139, 7, none⟩ = some (.int .i64 a1_7) := (zc BK139.out 7).trans rfl
          have hcz46_8 : wc.cell? ⟨gb139, 8, none⟩ = some (.int .i64 a1_8) := (zc BK139.out 8).trans rfl
          have hfz46_0 := zf BK139.out 0
          have hfz46_1 := zf BK139.out 1
          have hfz46_2 := zf BK139.out 2
          have hfz46_3 := zf BK139.out 3
          have hfz46_4 := zf BK139.out 4
          have hfz46_5 := zf BK139.out 5
          have hfz46_6 := zf BK139.out 6
          have hfz46_7 := zf BK139.out 7
          have hfz46_8 := zf BK139.out 8
          go_wp2_with (first | ((with_reducible refine gate_callee (f := 51) rfl ?_); refine goesL_ (some 51) rfl rfl Tryd.func51 (by kernel_rfl) rfl #[.int .i64 a1_2] rfl (by simp only [mt_, mc_, mn_] <;> rfl) ?_; (with_reducible refine (tick_Good.calls a1_2 true _ A38.out).mono ?_); rintro e w' ⟨rfl, ⟨nd, rfl⟩⟩; refine ⟨_, rfl, ?_⟩) | (go_at_call 51; (with_reducible refine (tick_Good.calls a1_7 true _ A40.out).mono ?_); rintro e w' ⟨rfl, ⟨nd, rfl⟩⟩))
          go_meet
          case rel => exact ⟨_, (decide (a1_8 > 32)), (by first | rfl | simp [*]), H', ⟨by have := HJ10.out; first | omega | exact Nat.le_refl _⟩, ⟨by (with_reducible repeat (first | apply zn | apply zd | apply za)); exact BK138.out⟩, ⟨by (with_reducible repeat (first | apply zn | apply zd | apply za)); exact BK139.out⟩, ⟨by repeat (first | (with_reducible first | exact HB.out | apply pa | apply pd | apply pe | refine zs ?_ GE138.out | refine zs ?_ GE139.out) | exact HB.out)⟩⟩
        replace c41 := Bool.eq_false_iff.mpr c41
        subst c41
        have H1 : (saga_Good.j1 kj10 true a0_0 a0_1 l0_2 a1_0 a1_1 a1_2 a1_3 a1_4 a1_5 a1_6 a1_7 a1_8) = some r := by rw [if_neg (show ¬ (false = true) by decide)] at H; exact H
        clear H
        have H := H1
        clear H1
        have H' := ak_ H
        clear H
        have hnb47 := NB139_138.out
        have hnc47 := NB138_139.out
        have hcz48_0 : wc.cell? ⟨gb139, 0, none⟩ = some (.int .i64 a1_0) := (zc BK139.out 0).trans rfl
        have hcz48_1 : wc.cell? ⟨gb139, 1, none⟩ = some (.string a1_1) := (zc BK139.out 1).trans rfl
        have hcz48_2 : wc.cell? ⟨gb139, 2, none⟩ = some (.int .i64 a1_2) := (zc BK139.out 2).trans rfl
        have hcz48_3 : wc.cell? ⟨gb139, 3, none⟩ = some (.int .i64 a1_3) := (zc BK139.out 3).trans rfl
        have hcz48_4 : wc.cell? ⟨gb139, 4, none⟩ = some (.int .i64 a1_4) := (zc BK139.out 4).trans rfl
        have hcz48_5 : wc.cell? ⟨gb139, 5, none⟩ = some (.int .i64 a1_5) := (zc BK139.out 5).trans rfl
        have hcz48_6 : wc.cell? ⟨gb139, 6, none⟩ = some (.bool a1_6) := (zc BK139.out 6).trans rfl
        have hcz48_7 : wc.cell? ⟨gb139, 7, none⟩ = some (.int .i64 a1_7) := (zc BK139.out 7).trans rfl
        have hcz48_8 : wc.cell? ⟨gb139, 8, none⟩ = some (.int .i64 a1_8) := (zc BK139.out 8).trans rfl
        have hfz48_0 := zf BK139.out 0
        have hfz48_1 := zf BK139.out 1
        have hfz48_2 := zf BK139.out 2
        have hfz48_3 := zf BK139.out 3
        have hfz48_4 := zf BK139.out 4
        have hfz48_5 := zf BK139.out 5
        have hfz48_6 := zf BK139.out 6
        have hfz48_7 := zf BK139.out 7
        have hfz48_8 := zf BK139.out 8
        go_wp2_with (first | ((with_reducible refine gate_callee (f := 51) rfl ?_); refine goesL_ (some 51) rfl rfl Tryd.func51 (by kernel_rfl) rfl #[.int .i64 a1_2] rfl (by simp only [mt_, mc_, mn_] <;> rfl) ?_; (with_reducible refine (tick_Good.calls a1_2 true _ A38.out).mono ?_); rintro e w' ⟨rfl, ⟨nd, rfl⟩⟩; refine ⟨_, rfl, ?_⟩) | (go_at_call 51; (with_reducible refine (tick_Good.calls a1_7 false _ A40.out).mono ?_); rintro e w' ⟨rfl, ⟨nd, rfl⟩⟩))
        go_meet
        case rel => exact ⟨_, (true), (by first | rfl | simp [*]), H', ⟨by have := HJ10.out; first | omega | exact Nat.le_refl _⟩, ⟨by (with_reducible repeat (first | apply zn | apply zd | apply za)); exact BK138.out⟩, ⟨by (with_reducible repeat (first | apply zn | apply zd | apply za)); exact BK139.out⟩, ⟨by repeat (first | (with_reducible first | exact HB.out | apply pa | apply pd | apply pe | refine zs ?_ GE138.out | refine zs ?_ GE139.out) | exact HB.out)⟩⟩
      replace c39 := Bool.eq_false_iff.mpr c39
      subst c39
      have H1 : (saga_Good.j1 kj10 true a0_0 a0_1 l0_2 a1_0 a1_1 a1_2 a1_3 a1_4 a1_5 a1_6 a1_7 a1_8) = some r := by rw [if_neg (show ¬ (false = true) by decide)] at H; exact H
      clear H
      have H := H1
      clear H1
      have H' := ak_ H
      clear H
      have hnb49 := NB139_138.out
      have hnc49 := NB138_139.out
      have hcz50_0 : wc.cell? ⟨gb139, 0, none⟩ = some (.int .i64 a1_0) := (zc BK139.out 0).trans rfl
      have hcz50_1 : wc.cell? ⟨gb139, 1, none⟩ = some (.string a1_1) := (zc BK139.out 1).trans rfl
      have hcz50_2 : wc.cell? ⟨gb139, 2, none⟩ = some (.int .i64 a1_2) := (zc BK139.out 2).trans rfl
      have hcz50_3 : wc.cell? ⟨gb139, 3, none⟩ = some (.int .i64 a1_3) := (zc BK139.out 3).trans rfl
      have hcz50_4 : wc.cell? ⟨gb139, 4, none⟩ = some (.int .i64 a1_4) := (zc BK139.out 4).trans rfl
      have hcz50_5 : wc.cell? ⟨gb139, 5, none⟩ = some (.int .i64 a1_5) := (zc BK139.out 5).trans rfl
      have hcz50_6 : wc.cell? ⟨gb139, 6, none⟩ = some (.bool a1_6) := (zc BK139.out 6).trans rfl
      have hcz50_7 : wc.cell? ⟨gb139, 7, none⟩ = some (.int .i64 a1_7) := (zc BK139.out 7).trans rfl
      have hcz50_8 : wc.cell? ⟨gb139, 8, none⟩ = some (.int .i64 a1_8) := (zc BK139.out 8).trans rfl
      have hfz50_0 := zf BK139.out 0
      have hfz50_1 := zf BK139.out 1
      have hfz50_2 := zf BK139.out 2
      have hfz50_3 := zf BK139.out 3
      have hfz50_4 := zf BK139.out 4
      have hfz50_5 := zf BK139.out 5
      have hfz50_6 := zf BK139.out 6
      have hfz50_7 := zf BK139.out 7
      have hfz50_8 := zf BK139.out 8
      go_wp2_with (first | ((with_reducible refine gate_callee (f := 51) rfl ?_); refine goesL_ (some 51) rfl rfl Tryd.func51 (by kernel_rfl) rfl #[.int .i64 a1_2] rfl (by simp only [mt_, mc_, mn_] <;> rfl) ?_; (with_reducible refine (tick_Good.calls a1_2 false _ A38.out).mono ?_); rintro e w' ⟨rfl, ⟨nd, rfl⟩⟩; refine ⟨_, rfl, ?_⟩))
      go_meet
      case rel => exact ⟨_, (true), (by first | rfl | simp [*]), H', ⟨by have := HJ10.out; first | omega | exact Nat.le_refl _⟩, ⟨by (with_reducible repeat (first | apply zn | apply zd | apply za)); exact BK138.out⟩, ⟨by (with_reducible repeat (first | apply zn | apply zd | apply za)); exact BK139.out⟩, ⟨by repeat (first | (with_reducible first | exact HB.out | apply pa | apply pd | apply pe | refine zs ?_ GE138.out | refine zs ?_ GE139.out) | exact HB.out)⟩⟩
     case rest =>
      clear HC37
      try clear c1
      try clear c2
      try clear p2
      try clear c3
      try clear c4
      try clear c5
      try clear c7
      try clear c10
      try clear c10b0
      try clear c10b1
      try clear c12
      try clear c12b0
      try clear c12b1
      try clear c13
      try clear c13b0
      try clear c14
      try clear c17
      try clear c17b0
      try clear c18
      try clear c21
      try clear c21b0
      try clear c22
      try clear c25
      try clear c25b0
      try clear c26
      try clear c29
      try clear c32
      try clear c36
      try clear c39
      try clear c41
      try clear c42
      try clear c42b0
      try clear c43
      try clear c45
      try clear c47
      try clear c49
      try clear c50
      try clear hcz15_0
      try clear hcz15_1
      try clear hcz15_2
      try clear hcz15_3
      try clear hcz15_4
      try clear hcz15_5
      try clear hcz15_6
      try clear hcz15_7
      try clear hcz15_8
      try clear hcz16_0
      try clear hcz16_1
      try clear hcz16_2
      try clear hcz19_0
      try clear hcz19_1
      try clear hcz19_2
      try clear hcz19_3
      try clear hcz19_4
      try clear hcz19_5
      try clear hcz19_6
      try clear hcz19_7
      try clear hcz19_8
      try clear hcz20_0
      try clear hcz20_1
      try clear hcz20_2
      try clear hcz23_0
      try clear hcz23_1
      try clear hcz23_2
      try clear hcz23_3
      try clear hcz23_4
      try clear hcz23_5
      try clear hcz23_6
      try clear hcz23_7
      try clear hcz23_8
      try clear hcz24_0
      try clear hcz24_1
      try clear hcz24_2
      try clear hcz27_0
      try clear hcz27_1
      try clear hcz27_2
      try clear hcz27_3
      try clear hcz27_4
      try clear hcz27_5
      try clear hcz27_6
      try clear hcz27_7
      try clear hcz27_8
      try clear hcz28_0
      try clear hcz28_1
      try clear hcz28_2
      try clear hcz30_0
      try clear hcz30_1
      try clear hcz30_2
      try clear hcz30_3
      try clear hcz30_4
      try clear hcz30_5
      try clear hcz30_6
      try clear hcz30_7
      try clear hcz30_8
      try clear hcz31_0
      try clear hcz31_1
      try clear hcz31_2
      try clear hcz33_0
      try clear hcz33_1
      try clear hcz33_2
      try clear hcz33_3
      try clear hcz33_4
      try clear hcz33_5
      try clear hcz33_6
      try clear hcz33_7
      try clear hcz33_8
      try clear hcz34_0
      try clear hcz34_1
      try clear hcz34_2
      try clear hcz44_0
      try clear hcz44_1
      try clear hcz44_2
      try clear hcz44_3
      try clear hcz44_4
      try clear hcz44_5
      try clear hcz44_6
      try clear hcz44_7
      try clear hcz44_8
      try clear hcz46_0
      try clear hcz46_1
      try clear hcz46_2
      try clear hcz46_3
      try clear hcz46_4
      try clear hcz46_5
      try clear hcz46_6
      try clear hcz46_7
      try clear hcz46_8
      try clear hcz48_0
      try clear hcz48_1
      try clear hcz48_2
      try clear hcz48_3
      try clear hcz48_4
      try clear hcz48_5
      try clear hcz48_6
      try clear hcz48_7
      try clear hcz48_8
      try clear hcz50_0
      try clear hcz50_1
      try clear hcz50_2
      try clear hcz50_3
      try clear hcz50_4
      try clear hcz50_5
      try clear hcz50_6
      try clear hcz50_7
      try clear hcz50_8
      try clear hcz8_0
      try clear hcz8_1
      try clear hcz8_2
      try clear hfz15_0
      try clear hfz15_1
      try clear hfz15_2
      try clear hfz15_3
      try clear hfz15_4
      try clear hfz15_5
      try clear hfz15_6
      try clear hfz15_7
      try clear hfz15_8
      try clear hfz16_0
      try clear hfz16_1
      try clear hfz16_2
      try clear hfz19_0
      try clear hfz19_1
      try clear hfz19_2
      try clear hfz19_3
      try clear hfz19_4
      try clear hfz19_5
      try clear hfz19_6
      try clear hfz19_7
      try clear hfz19_8
      try clear hfz20_0
      try clear hfz20_1
      try clear hfz20_2
      try clear hfz23_0
      try clear hfz23_1
      try clear hfz23_2
      try clear hfz23_3
      try clear hfz23_4
      try clear hfz23_5
      try clear hfz23_6
      try clear hfz23_7
      try clear hfz23_8
      try clear hfz24_0
      try clear hfz24_1
      try clear hfz24_2
      try clear hfz27_0
      try clear hfz27_1
      try clear hfz27_2
      try clear hfz27_3
      try clear hfz27_4
      try clear hfz27_5
      try clear hfz27_6
      try clear hfz27_7
      try clear hfz27_8
      try clear hfz28_0
      try clear hfz28_1
      try clear hfz28_2
      try clear hfz30_0
      try clear hfz30_1
      try clear hfz30_2
      try clear hfz30_3
      try clear hfz30_4
      try clear hfz30_5
      try clear hfz30_6
      try clear hfz30_7
      try clear hfz30_8
      try clear hfz31_0
      try clear hfz31_1
      try clear hfz31_2
      try clear hfz33_0
      try clear hfz33_1
      try clear hfz33_2
      try clear hfz33_3
      try clear hfz33_4
      try clear hfz33_5
      try clear hfz33_6
      try clear hfz33_7
      try clear hfz33_8
      try clear hfz34_0
      try clear hfz34_1
      try clear hfz34_2
      try clear hfz44_0
      try clear hfz44_1
      try clear hfz44_2
      try clear hfz44_3
      try clear hfz44_4
      try clear hfz44_5
      try clear hfz44_6
      try clear hfz44_7
      try clear hfz44_8
      try clear hfz46_0
      try clear hfz46_1
      try clear hfz46_2
      try clear hfz46_3
      try clear hfz46_4
      try clear hfz46_5
      try clear hfz46_6
      try clear hfz46_7
      try clear hfz46_8
      try clear hfz48_0
      try clear hfz48_1
      try clear hfz48_2
      try clear hfz48_3
      try clear hfz48_4
      try clear hfz48_5
      try clear hfz48_6
      try clear hfz48_7
      try clear hfz48_8
      try clear hfz50_0
      try clear hfz50_1
      try clear hfz50_2
      try clear hfz50_3
      try clear hfz50_4
      try clear hfz50_5
      try clear hfz50_6
      try clear hfz50_7
      try clear hfz50_8
      try clear hfz8_0
      try clear hfz8_1
      try clear hfz8_2
      try clear p2
      obtain ⟨kq, x48_36, rfl, HA, HJ36, BK138, BK139, HB⟩ := hcut
      cases kq with
      | zero => exact absurd HA.out (by simp [saga_Good.j1])
      | succ kj36 =>
       have H := HA.out
       clear HA
       simp only [saga_Good.j1] at H
       have HF51 := ak_ H
       clear H
       go_upto_if 48 with (fail)
       have H := HF51.out
       clear HF51
       by_cases c52 : x48_36 = true
       · subst c52
         have H1 : (some false) = some r := by rw [if_pos rfl] at H; exact H
         clear H
         have H := H1
         clear H1
         obtain rfl := Option.some.inj H
         go_wp2
         go_ret
         exact ⟨by first | rfl | simp [*], by repeat (first | (with_reducible first | exact HB.out | apply pa | apply pd | apply pe | refine zs ?_ GE138.out | refine zs ?_ GE139.out) | exact HB.out)⟩
       replace c52 := Bool.eq_false_iff.mpr c52
       subst c52
       have H1 : ((saga_tries.f kj36 a0_0 a0_1 l0_2 a1_0 a1_1 a1_2 a1_3 a1_4 a1_5 a1_6 a1_7 a1_8).bind fun t144 => (some t144)) = some r := by rw [if_neg (show ¬ (false = true) by decide)] at H; exact H
       clear H
       have H := H1
       clear H1
       replace H := ob_ H
       obtain ⟨t144, A530, H⟩ := H
       replace H : (some t144) = some r := H
       have A53 := ak_ A530
       clear A530
       obtain rfl := Option.some.inj H
       have hnb54 := NB138_139.out
       have hnc54 := NB139_138.out
       have hcz55_0 : wc.cell? ⟨gb138, 0, none⟩ = some (.string a0_0) := (zc BK138.out 0).trans rfl
       have hcz55_1 : wc.cell? ⟨gb138, 1, none⟩ = some (.int .i64 a0_1) := (zc BK138.out 1).trans rfl
       have hcz55_2 : wc.cell? ⟨gb138, 2, none⟩ = some (.slice A0_2 l0_2.length c0_2) := (zc BK138.out 2).trans rfl
       have hfz55_0 := zf BK138.out 0
       have hfz55_1 := zf BK138.out 1
       have hfz55_2 := zf BK138.out 2
       have hcz56_0 : wc.cell? ⟨gb139, 0, none⟩ = some (.int .i64 a1_0) := (zc BK139.out 0).trans rfl
       have hcz56_1 : wc.cell? ⟨gb139, 1, none⟩ = some (.string a1_1) := (zc BK139.out 1).trans rfl
       have hcz56_2 : wc.cell? ⟨gb139, 2, none⟩ = some (.int .i64 a1_2) := (zc BK139.out 2).trans rfl
       have hcz56_3 : wc.cell? ⟨gb139, 3, none⟩ = some (.int .i64 a1_3) := (zc BK139.out 3).trans rfl
       have hcz56_4 : wc.cell? ⟨gb139, 4, none⟩ = some (.int .i64 a1_4) := (zc BK139.out 4).trans rfl
       have hcz56_5 : wc.cell? ⟨gb139, 5, none⟩ = some (.int .i64 a1_5) := (zc BK139.out 5).trans rfl
       have hcz56_6 : wc.cell? ⟨gb139, 6, none⟩ = some (.bool a1_6) := (zc BK139.out 6).trans rfl
       have hcz56_7 : wc.cell? ⟨gb139, 7, none⟩ = some (.int .i64 a1_7) := (zc BK139.out 7).trans rfl
       have hcz56_8 : wc.cell? ⟨gb139, 8, none⟩ = some (.int .i64 a1_8) := (zc BK139.out 8).trans rfl
       have hfz56_0 := zf BK139.out 0
       have hfz56_1 := zf BK139.out 1
       have hfz56_2 := zf BK139.out 2
       have hfz56_3 := zf BK139.out 3
       have hfz56_4 := zf BK139.out 4
       have hfz56_5 := zf BK139.out 5
       have hfz56_6 := zf BK139.out 6
       have hfz56_7 := zf BK139.out 7
       have hfz56_8 := zf BK139.out 8
       go_wp2_with (first | ((with_reducible refine gate_callee (f := 52) rfl ?_); refine goesL_ (some 71) rfl rfl Tryd.func52 (by kernel_rfl) rfl #[.agg #[.string a0_0, .int .i64 a0_1, .slice A0_2 l0_2.length c0_2], .agg #[.int .i64 a1_0, .string a1_1, .int .i64 a1_2, .int .i64 a1_3, .int .i64 a1_4, .int .i64 a1_5, .bool a1_6, .int .i64 a1_7, .int .i64 a1_8]] rfl (by (try simp only [mt_, mc_, mn_]); first | done | rfl) ?_; (with_reducible refine (saga_tries.calls kj36 a0_0 a0_1 _ _ l0_2 a1_0 a1_1 a1_2 a1_3 a1_4 a1_5 a1_6 a1_7 a1_8 t144 _ ?side1 ?side2 A53.out).mono ?_); (case side1 => repeat (first | exact (Kd.C_below HR0_2.out HB.out) | (with_reducible refine Kd.C_alloc ?_ _) | (with_reducible refine Kd.C_drewN ?_ _) | (with_reducible refine Kd.C_drew ?_))); (case side2 => exact HC0_2.out); rintro e w57 ⟨rfl, hb⟩; refine ⟨_, rfl, ?_⟩; have n0_ := ak_ (blk_below (g := gb138) (o := .cells #[.string a0_0, .int .i64 a0_1, .slice A0_2 l0_2.length c0_2] 24 (0, 0)) (by (with_reducible repeat (first | apply zn | apply zd | apply za)); exact BK138.out) hb); have n1_ := ak_ (blk_below (g := gb139) (o := .cells #[.int .i64 a1_0, .string a1_1, .int .i64 a1_2, .int .i64 a1_3, .int .i64 a1_4, .int .i64 a1_5, .bool a1_6, .int .i64 a1_7, .int .i64 a1_8] 31 (0, 0)) (by (with_reducible repeat (first | apply zn | apply zd | apply za)); exact BK139.out) hb); have n2_ := ak_ (ps (by with_reducible repeat first | exact HB.out | apply pa | apply pd | apply pe | refine zs ?_ GE138.out | refine zs ?_ GE139.out) hb); clear BK138 BK139 HB; have BK138 := n0_; have BK139 := n1_; have HB := n2_; clear n0_ n1_ n2_))
       go_ret
       exact ⟨by first | rfl | simp [*], by repeat (first | (with_reducible first | exact HB.out | apply pa | apply pd | apply pe | refine zs ?_ GE138.out | refine zs ?_ GE139.out) | exact HB.out)⟩
 rw [if_neg c10] at H
 have c10b0 : (t141 == 0) = false := beq_eq_false_iff_ne.mpr c10
 have c10b1 : (t141 != 0) = true := bne_iff_ne.mpr c10
 (first | rw [c10b0] | (simp only [i64_w, i32_w]; rw [c10b0]) | skip)
 obtain rfl := Option.some.inj H
 go_wp2
 go_ret
 exact ⟨by first | rfl | simp [*], by repeat (first | (with_reducible first | exact HB.out | apply pa | apply pd | apply pe | refine zs ?_ GE138.out | refine zs ?_ GE139.out) | exact HB.out)⟩
end Go.Proofs.YtmfddmhomkcikaaDoor.Q
