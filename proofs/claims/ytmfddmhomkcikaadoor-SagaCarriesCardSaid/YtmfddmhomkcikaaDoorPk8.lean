/- Part 8 of a claim's texts. -/
import Derived.Test.YtmfddmhomkcikaaDoorPk1
import Derived.Test.YtmfddmhomkcikaaDoorPk5
import Derived.Test.YtmfddmhomkcikaaDoorPk7
import Derived.Test.YtmfddmhomkcikaaDoorPk6
import Derived.Lib.ItoaLen
namespace Go.Proofs.YtmfddmhomkcikaaDoor.Q
open Go.RowKit Go.Proofs.YtmfddmhomkcikaaDoorW.PrintWords Go.Proofs.YtmfddmhomkcikaaDoorW.PrintLast Go.Proofs.YtmfddmhomkcikaaDoorW.PrintMore
attribute [local go_sem] max2_int min2_int max_two min_two max_three min_three max_four min_four
set_option linter.unusedVariables false
set_option linter.unusedSimpArgs false
set_option maxHeartbeats 8000000
set_option maxRecDepth 100000
open Go.Proofs.YtmfddmhomkcikaaDoor.Q.H_
def saga_Reply.f (k : Nat) (a0_0 : ByteArray) (a0_1 : Int) (l0_2 : List (S70)) (a1_0 : Int) (a1_1 : ByteArray) (a1_2 : Int) (a1_3 : Int) (a1_4 : Int) (a1_5 : Int) (a1_6 : Bool) (a1_7 : Int) (a1_8 : Int) (a2_0 : Int) (a2_1 : Int) (a2_2 : Bool) (a2_3 : Int) (a2_4 : Bool) (a3 : Int) : Option (Int × ByteArray × Int × Int × Int × Int × Bool × Int × Int × Int) := (saga_check.f k a0_0 a0_1 l0_2 a1_0 a1_1 a1_2 a1_3 a1_4 a1_5 a1_6 a1_7 a1_8 a3).bind fun t417 => (if t417 = 0 then (if a2_0 = a1_0 then ((saga_accepted.f a1_0 a1_1 a1_2 a1_3 a1_4 a1_5 a1_6 a1_7 a1_8 a2_0 a2_1 a2_2 a2_3 a2_4).bind fun t418 => (if t418 = true then (if a2_4 = true then ((saga_done.f k a0_0 a0_1 l0_2 a1_0 a1_1 a1_2 a1_3 a1_4 a1_5 a1_6 a1_7 a1_8 a3).bind fun bt419 => (some (bt419.1, bt419.2.1, bt419.2.2.1, bt419.2.2.2.1, bt419.2.2.2.2.1, bt419.2.2.2.2.2.1, bt419.2.2.2.2.2.2.1, bt419.2.2.2.2.2.2.2.1, bt419.2.2.2.2.2.2.2.2, 0))) else ((saga_fails.f k a0_0 a0_1 l0_2 a1_0 a1_1 a1_2 a1_3 a1_4 a1_5 a1_6 a1_7 a1_8 a3).bind fun bt428 => (some (bt428.1, bt428.2.1, bt428.2.2.1, bt428.2.2.2.1, bt428.2.2.2.2.1, bt428.2.2.2.2.2.1, bt428.2.2.2.2.2.2.1, bt428.2.2.2.2.2.2.2.1, bt428.2.2.2.2.2.2.2.2, 0)))) else (some (a1_0, a1_1, a1_2, a1_3, a1_4, a1_5, a1_6, a1_7, a1_8, 15)))) else (some (a1_0, a1_1, a1_2, a1_3, a1_4, a1_5, a1_6, a1_7, a1_8, 7))) else (some (a1_0, a1_1, a1_2, a1_3, a1_4, a1_5, a1_6, a1_7, a1_8, t417)))
theorem saga_Reply.calls (k : Nat) (a0_0 : ByteArray) (a0_1 : Int) (A0_2 : Option Addr) (c0_2 : Nat) (l0_2 : List (S70)) (a1_0 : Int) (a1_1 : ByteArray) (a1_2 : Int) (a1_3 : Int) (a1_4 : Int) (a1_5 : Int) (a1_6 : Bool) (a1_7 : Int) (a1_8 : Int) (a2_0 : Int) (a2_1 : Int) (a2_2 : Bool) (a2_3 : Int) (a2_4 : Bool) (a3 : Int) (r1 : Int) (r2 : ByteArray) (r3 : Int) (r4 : Int) (r5 : Int) (r6 : Int) (r7 : Bool) (r8 : Int) (r9 : Int) (r10 : Int) (w : World) (hr0_2 : Kd.C k70 w A0_2 l0_2.length l0_2) (hc0_2 : l0_2.length ≤ c0_2) (hTab_ : Tabs_ w) (h : saga_Reply.f k a0_0 a0_1 l0_2 a1_0 a1_1 a1_2 a1_3 a1_4 a1_5 a1_6 a1_7 a1_8 a2_0 a2_1 a2_2 a2_3 a2_4 a3 = some (r1, r2, r3, r4, r5, r6, r7, r8, r9, r10)) :
 Calls Tryd.prog 13 #[.agg #[.string a0_0, .int .i64 a0_1, .slice A0_2 l0_2.length c0_2], .agg #[.int .i64 a1_0, .string a1_1, .int .i64 a1_2, .int .i64 a1_3, .int .i64 a1_4, .int .i64 a1_5, .bool a1_6, .int .i64 a1_7, .int .i64 a1_8], .agg #[.int .i64 a2_0, .int .i64 a2_1, .bool a2_2, .int .i64 a2_3, .bool a2_4], .int .i64 a3] w fun e w' => e = .returned (.tuple #[.agg #[.int .i64 r1, .string r2, .int .i64 r3, .int .i64 r4, .int .i64 r5, .int .i64 r6, .bool r7, .int .i64 r8, .int .i64 r9], .int .i64 r10]) ∧ Below w.heap.size w w' := by
 have HT := ak_ hTab_
 clear hTab_
 have hu24 := Tryd.underlying24
 have hu31 := Tryd.underlying31
 have hu41 := Tryd.underlying41
 have HR0_2 := ak_ hr0_2
 have HC0_2 := ak_ hc0_2
 clear hr0_2 hc0_2
 have HB := ak_ (Below.refl w.heap.size w)
 have H : ((saga_check.f k a0_0 a0_1 l0_2 a1_0 a1_1 a1_2 a1_3 a1_4 a1_5 a1_6 a1_7 a1_8 a3).bind fun t417 => (if t417 = 0 then (if a2_0 = a1_0 then ((saga_accepted.f a1_0 a1_1 a1_2 a1_3 a1_4 a1_5 a1_6 a1_7 a1_8 a2_0 a2_1 a2_2 a2_3 a2_4).bind fun t418 => (if t418 = true then (if a2_4 = true then ((saga_done.f k a0_0 a0_1 l0_2 a1_0 a1_1 a1_2 a1_3 a1_4 a1_5 a1_6 a1_7 a1_8 a3).bind fun bt419 => (some (bt419.1, bt419.2.1, bt419.2.2.1, bt419.2.2.2.1, bt419.2.2.2.2.1, bt419.2.2.2.2.2.1, bt419.2.2.2.2.2.2.1, bt419.2.2.2.2.2.2.2.1, bt419.2.2.2.2.2.2.2.2, 0))) else ((saga_fails.f k a0_0 a0_1 l0_2 a1_0 a1_1 a1_2 a1_3 a1_4 a1_5 a1_6 a1_7 a1_8 a3).bind fun bt428 => (some (bt428.1, bt428.2.1, bt428.2.2.1, bt428.2.2.2.1, bt428.2.2.2.2.1, bt428.2.2.2.2.2.1, bt428.2.2.2.2.2.2.1, bt428.2.2.2.2.2.2.2.1, bt428.2.2.2.2.2.2.2.2, 0)))) else (some (a1_0, a1_1, a1_2, a1_3, a1_4, a1_5, a1_6, a1_7, a1_8, 15)))) else (some (a1_0, a1_1, a1_2, a1_3, a1_4, a1_5, a1_6, a1_7, a1_8, 7))) else (some (a1_0, a1_1, a1_2, a1_3, a1_4, a1_5, a1_6, a1_7, a1_8, t417)))) = some (r1, r2, r3, r4, r5, r6, r7, r8, r9, r10) := h
 clear h
 replace H := ob_ H
 obtain ⟨t417, A50, H⟩ := H
 replace H : (if t417 = 0 then (if a2_0 = a1_0 then ((saga_accepted.f a1_0 a1_1 a1_2 a1_3 a1_4 a1_5 a1_6 a1_7 a1_8 a2_0 a2_1 a2_2 a2_3 a2_4).bind fun t418 => (if t418 = true then (if a2_4 = true then ((saga_done.f k a0_0 a0_1 l0_2 a1_0 a1_1 a1_2 a1_3 a1_4 a1_5 a1_6 a1_7 a1_8 a3).bind fun bt419 => (some (bt419.1, bt419.2.1, bt419.2.2.1, bt419.2.2.2.1, bt419.2.2.2.2.1, bt419.2.2.2.2.2.1, bt419.2.2.2.2.2.2.1, bt419.2.2.2.2.2.2.2.1, bt419.2.2.2.2.2.2.2.2, 0))) else ((saga_fails.f k a0_0 a0_1 l0_2 a1_0 a1_1 a1_2 a1_3 a1_4 a1_5 a1_6 a1_7 a1_8 a3).bind fun bt428 => (some (bt428.1, bt428.2.1, bt428.2.2.1, bt428.2.2.2.1, bt428.2.2.2.2.1, bt428.2.2.2.2.2.1, bt428.2.2.2.2.2.2.1, bt428.2.2.2.2.2.2.2.1, bt428.2.2.2.2.2.2.2.2, 0)))) else (some (a1_0, a1_1, a1_2, a1_3, a1_4, a1_5, a1_6, a1_7, a1_8, 15)))) else (some (a1_0, a1_1, a1_2, a1_3, a1_4, a1_5, a1_6, a1_7, a1_8, 7))) else (some (a1_0, a1_1, a1_2, a1_3, a1_4, a1_5, a1_6, a1_7, a1_8, t417))) = some (r1, r2, r3, r4, r5, r6, r7, r8, r9, r10) := H
 have A5 := ak_ A50
 clear A50
 have HF6 := ak_ H
 clear H
 go_enter Tryd.func13, Tryd.ntmps13
 go_upto_if 15 with (first | ((with_reducible refine gate_dst (N := 4) rfl ?_); refine box_event ?hg (N := 4) ?hd (cs := #[.string a0_0, .int .i64 a0_1, .slice A0_2 l0_2.length c0_2]) (t := 24) ?hr ?_; (case hd | hg => rfl); (case hr => first | (go_simp; done) | (go_simp; rfl)); intro gb413 hg w7 hbox hb; have n0_ := ak_ (ps (by with_reducible repeat first | exact HB.out | apply pa | apply pd | apply pe) hb); have n1_ := ak_ (hbox); have n2_ := ak_ ((by rw [hg]; exact (below_size (by with_reducible repeat first | exact HB.out | apply pa | apply pd | apply pe)) : w.heap.size ≤ gb413)); have n3_ := ak_ ((by rw [hg]; exact (below_size (by with_reducible repeat first | exact HB.out | apply pa | apply pd | apply pe)) : w.heap.size ≤ gb413)); clear HB; have HB := n0_; have BK413 := n1_; have GW413 := n2_; have GE413 := n3_; clear n0_ n1_ n2_ n3_ hb hbox hg) | ((with_reducible refine gate_dst (N := 5) rfl ?_); refine box_event ?hg (N := 5) ?hd (cs := #[.int .i64 a1_0, .string a1_1, .int .i64 a1_2, .int .i64 a1_3, .int .i64 a1_4, .int .i64 a1_5, .bool a1_6, .int .i64 a1_7, .int .i64 a1_8]) (t := 31) ?hr ?_; (case hd | hg => rfl); (case hr => first | (go_simp; done) | (go_simp; rfl)); intro gb414 hg w8 hbox hb; have n0_ := ak_ (blk_below (g := gb413) (o := .cells #[.string a0_0, .int .i64 a0_1, .slice A0_2 l0_2.length c0_2] 24 (0, 0)) (by (with_reducible repeat (first | apply zn | apply zd | apply za)); exact BK413.out) hb); have n1_ := ak_ (ps (by with_reducible repeat first | exact HB.out | apply pa | apply pd | apply pe | refine zs ?_ GE413.out) hb); have n2_ := ak_ (hbox); have n3_ := ak_ ((by rw [hg]; exact (below_size (by with_reducible repeat first | exact HB.out | apply pa | apply pd | apply pe | refine zs ?_ GE413.out)) : w.heap.size ≤ gb414)); have n4_ := ak_ ((by rw [hg]; exact (below_size (by with_reducible repeat first | exact HB.out | apply pa | apply pd | apply pe | refine zs ?_ GE413.out)) : w.heap.size ≤ gb414)); have n5_ := ak_ ((by rw [hg]; exact Nat.ne_of_lt (blk_lt (g := gb413) (by (with_reducible repeat (first | apply zn | apply zd | apply za)); exact BK413.out)) : gb413 ≠ gb414)); have n6_ := ak_ ((by rw [hg]; exact Nat.ne_of_gt (blk_lt (g := gb413) (by (with_reducible repeat (first | apply zn | apply zd | apply za)); exact BK413.out)) : gb414 ≠ gb413)); clear BK413 HB; have BK413 := n0_; have HB := n1_; have BK414 := n2_; have GW414 := n3_; have GE414 := n4_; have NB413_414 := n5_; have NB414_413 := n6_; clear n0_ n1_ n2_ n3_ n4_ n5_ n6_ hb hbox hg) | ((with_reducible refine gate_dst (N := 6) rfl ?_); refine box_event ?hg (N := 6) ?hd (cs := #[.int .i64 a2_0, .int .i64 a2_1, .bool a2_2, .int .i64 a2_3, .bool a2_4]) (t := 41) ?hr ?_; (case hd | hg => rfl); (case hr => first | (go_simp; done) | (go_simp; rfl)); intro gb415 hg w9 hbox hb; have n0_ := ak_ (blk_below (g := gb413) (o := .cells #[.string a0_0, .int .i64 a0_1, .slice A0_2 l0_2.length c0_2] 24 (0, 0)) (by (with_reducible repeat (first | apply zn | apply zd | apply za)); exact BK413.out) hb); have n1_ := ak_ (blk_below (g := gb414) (o := .cells #[.int .i64 a1_0, .string a1_1, .int .i64 a1_2, .int .i64 a1_3, .int .i64 a1_4, .int .i64 a1_5, .bool a1_6, .int .i64 a1_7, .int .i64 a1_8] 31 (0, 0)) (by (with_reducible repeat (first | apply zn | apply zd | apply za)); exact BK414.out) hb); have n2_ := ak_ (ps (by with_reducible repeat first | exact HB.out | apply pa | apply pd | apply pe | refine zs ?_ GE413.out | refine zs ?_ GE414.out) hb); have n3_ := ak_ (hbox); have n4_ := ak_ ((by rw [hg]; exact (below_size (by with_reducible repeat first | exact HB.out | apply pa | apply pd | apply pe | refine zs ?_ GE413.out | refine zs ?_ GE414.out)) : w.heap.size ≤ gb415)); have n5_ := ak_ ((by rw [hg]; exact (below_size (by with_reducible repeat first | exact HB.out | apply pa | apply pd | apply pe | refine zs ?_ GE413.out | refine zs ?_ GE414.out)) : w.heap.size ≤ gb415)); have n6_ := ak_ ((by rw [hg]; exact Nat.ne_of_lt (blk_lt (g := gb413) (by (with_reducible repeat (first | apply zn | apply zd | apply za)); exact BK413.out)) : gb413 ≠ gb415)); have n7_ := ak_ ((by rw [hg]; exact Nat.ne_of_gt (blk_lt (g := gb413) (by (with_reducible repeat (first | apply zn | apply zd | apply za)); exact BK413.out)) : gb415 ≠ gb413)); have n8_ := ak_ ((by rw [hg]; exact Nat.ne_of_lt (blk_lt (g := gb414) (by (with_reducible repeat (first | apply zn | apply zd | apply za)); exact BK414.out)) : gb414 ≠ gb415)); have n9_ := ak_ ((by rw [hg]; exact Nat.ne_of_gt (blk_lt (g := gb414) (by (with_reducible repeat (first | apply zn | apply zd | apply za)); exact BK414.out)) : gb415 ≠ gb414)); clear BK413 BK414 HB; have BK413 := n0_; have BK414 := n1_; have HB := n2_; have BK415 := n3_; have GW415 := n4_; have GE415 := n5_; have NB413_415 := n6_; have NB415_413 := n7_; have NB414_415 := n8_; have NB415_414 := n9_; clear n0_ n1_ n2_ n3_ n4_ n5_ n6_ n7_ n8_ n9_ hb hbox hg) | ((with_reducible refine gate_dst (N := 8) rfl ?_); refine box_event ?hg (N := 8) ?hd (cs := #[.int .i64 0, .string ⟨#[]⟩, .int .i64 0, .int .i64 0, .int .i64 0, .int .i64 0, .bool false, .int .i64 0, .int .i64 0]) (t := 31) ?hr ?_; (case hd | hg => rfl); (case hr => first | (go_simp; done) | (go_simp; rfl)); intro gb416 hg w10 hbox hb; have n0_ := ak_ (blk_below (g := gb413) (o := .cells #[.string a0_0, .int .i64 a0_1, .slice A0_2 l0_2.length c0_2] 24 (0, 0)) (by (with_reducible repeat (first | apply zn | apply zd | apply za)); exact BK413.out) hb); have n1_ := ak_ (blk_below (g := gb414) (o := .cells #[.int .i64 a1_0, .string a1_1, .int .i64 a1_2, .int .i64 a1_3, .int .i64 a1_4, .int .i64 a1_5, .bool a1_6, .int .i64 a1_7, .int .i64 a1_8] 31 (0, 0)) (by (with_reducible repeat (first | apply zn | apply zd | apply za)); exact BK414.out) hb); have n2_ := ak_ (blk_below (g := gb415) (o := .cells #[.int .i64 a2_0, .int .i64 a2_1, .bool a2_2, .int .i64 a2_3, .bool a2_4] 41 (0, 0)) (by (with_reducible repeat (first | apply zn | apply zd | apply za)); exact BK415.out) hb); have n3_ := ak_ (ps (by with_reducible repeat first | exact HB.out | apply pa | apply pd | apply pe | refine zs ?_ GE413.out | refine zs ?_ GE414.out | refine zs ?_ GE415.out) hb); have n4_ := ak_ (hbox); have n5_ := ak_ ((by rw [hg]; exact (below_size (by with_reducible repeat first | exact HB.out | apply pa | apply pd | apply pe | refine zs ?_ GE413.out | refine zs ?_ GE414.out | refine zs ?_ GE415.out)) : w.heap.size ≤ gb416)); have n6_ := ak_ ((by rw [hg]; exact (below_size (by with_reducible repeat first | exact HB.out | apply pa | apply pd | apply pe | refine zs ?_ GE413.out | refine zs ?_ GE414.out | refine zs ?_ GE415.out)) : w.heap.size ≤ gb416)); have n7_ := ak_ ((by rw [hg]; exact Nat.ne_of_lt (blk_lt (g := gb413) (by (with_reducible repeat (first | apply zn | apply zd | apply za)); exact BK413.out)) : gb413 ≠ gb416)); have n8_ := ak_ ((by rw [hg]; exact Nat.ne_of_gt (blk_lt (g := gb413) (by (with_reducible repeat (first | apply zn | apply zd | apply za)); exact BK413.out)) : gb416 ≠ gb413)); have n9_ := ak_ ((by rw [hg]; exact Nat.ne_of_lt (blk_lt (g := gb414) (by (with_reducible repeat (first | apply zn | apply zd | apply za)); exact BK414.out)) : gb414 ≠ gb416)); have n10_ := ak_ ((by rw [hg]; exact Nat.ne_of_gt (blk_lt (g := gb414) (by (with_reducible repeat (first | apply zn | apply zd | apply za)); exact BK414.out)) : gb416 ≠ gb414)); have n11_ := ak_ ((by rw [hg]; exact Nat.ne_of_lt (blk_lt (g := gb415) (by (with_reducible repeat (first | apply zn | apply zd | apply za)); exact BK415.out)) : gb415 ≠ gb416)); have n12_ := ak_ ((by rw [hg]; exact Nat.ne_of_gt (blk_lt (g := gb415) (by (with_reducible repeat (first | apply zn | apply zd | apply za)); exact BK415.out)) : gb416 ≠ gb415)); clear BK413 BK414 BK415 HB; have BK413 := n0_; have BK414 := n1_; have BK415 := n2_; have HB := n3_; have BK416 := n4_; have GW416 := n5_; have GE416 := n6_; have NB413_416 := n7_; have NB416_413 := n8_; have NB414_416 := n9_; have NB416_414 := n10_; have NB415_416 := n11_; have NB416_415 := n12_; clear n0_ n1_ n2_ n3_ n4_ n5_ n6_ n7_ n8_ n9_ n10_ n11_ n12_ hb hbox hg; have hnb11 := NB413_414.out; have hnc11 := NB414_413.out; have hnb12 := NB413_415.out; have hnc12 := NB415_413.out; have hnb13 := NB413_416.out; have hnc13 := NB416_413.out; have hcz14_0 : w10.cell? ⟨gb413, 0, none⟩ = some (.string a0_0) := (zc BK413.out 0).trans rfl; have hcz14_1 : w10.cell? ⟨gb413, 1, none⟩ = some (.int .i64 a0_1) := (zc BK413.out 1).trans rfl; have hcz14_2 : w10.cell? ⟨gb413, 2, none⟩ = some (.slice A0_2 l0_2.length c0_2) := (zc BK413.out 2).trans rfl; have hfz14_0 := zf BK413.out 0; have hfz14_1 := zf BK413.out 1; have hfz14_2 := zf BK413.out 2; have hnb15 := NB414_415.out; have hnc15 := NB415_414.out; have hnb16 := NB414_416.out; have hnc16 := NB416_414.out; have hcz17_0 : w10.cell? ⟨gb414, 0, none⟩ = some (.int .i64 a1_0) := (zc BK414.out 0).trans rfl; have hcz17_1 : w10.cell? ⟨gb414, 1, none⟩ = some (.string a1_1) := (zc BK414.out 1).trans rfl; have hcz17_2 : w10.cell? ⟨gb414, 2, none⟩ = some (.int .i64 a1_2) := (zc BK414.out 2).trans rfl; have hcz17_3 : w10.cell? ⟨gb414, 3, none⟩ = some (.int .i64 a1_3) := (zc BK414.out 3).trans rfl; have hcz17_4 : w10.cell? ⟨gb414, 4, none⟩ = some (.int .i64 a1_4) := (zc BK414.out 4).trans rfl; have hcz17_5 : w10.cell? ⟨gb414, 5, none⟩ = some (.int .i64 a1_5) := (zc BK414.out 5).trans rfl; have hcz17_6 : w10.cell? ⟨gb414, 6, none⟩ = some (.bool a1_6) := (zc BK414.out 6).trans rfl; have hcz17_7 : w10.cell? ⟨gb414, 7, none⟩ = some (.int .i64 a1_7) := (zc BK414.out 7).trans rfl; have hcz17_8 : w10.cell? ⟨gb414, 8, none⟩ = some (.int .i64 a1_8) := (zc BK414.out 8).trans rfl; have hfz17_0 := zf BK414.out 0; have hfz17_1 := zf BK414.out 1; have hfz17_2 := zf BK414.out 2; have hfz17_3 := zf BK414.out 3; have hfz17_4 := zf BK414.out 4; have hfz17_5 := zf BK414.out 5; have hfz17_6 := zf BK414.out 6; have hfz17_7 := zf BK414.out 7; have hfz17_8 := zf BK414.out 8) | ((with_reducible refine gate_callee (f := 34) rfl ?_); refine goesL_ (some 14) rfl rfl Tryd.func34 (by kernel_rfl) rfl #[.agg #[.string a0_0, .int .i64 a0_1, .slice A0_2 l0_2.length c0_2], .agg #[.int .i64 a1_0, .string a1_1, .int .i64 a1_2, .int .i64 a1_3, .int .i64 a1_4, .int .i64 a1_5, .bool a1_6, .int .i64 a1_7, .int .i64 a1_8], .int .i64 a3] rfl (by (try simp only [mt_, mc_, mn_]); first | done | rfl) ?_; (with_reducible refine (saga_check.calls k a0_0 a0_1 _ _ l0_2 a1_0 a1_1 a1_2 a1_3 a1_4 a1_5 a1_6 a1_7 a1_8 a3 t417 _ ?side1 ?side2 ?tab_ A5.out).mono ?_); (case tab_ => first | exact HT.out | exact Tabs_.below HT.out (by with_reducible repeat first | exact HB.out | apply pa | apply pd | apply pe)); (case side1 => repeat (first | exact (Kd.C_below HR0_2.out HB.out) | (with_reducible refine Kd.C_alloc ?_ _) | (with_reducible refine Kd.C_drewN ?_ _) | (with_reducible refine Kd.C_drew ?_))); (case side2 => exact HC0_2.out); rintro e w18 ⟨rfl, hb⟩; refine ⟨_, rfl, ?_⟩; have n0_ := ak_ (blk_below (g := gb413) (o := .cells #[.string a0_0, .int .i64 a0_1, .slice A0_2 l0_2.length c0_2] 24 (0, 0)) (by (with_reducible repeat (first | apply zn | apply zd | apply za)); exact BK413.out) hb); have n1_ := ak_ (blk_below (g := gb414) (o := .cells #[.int .i64 a1_0, .string a1_1, .int .i64 a1_2, .int .i64 a1_3, .int .i64 a1_4, .int .i64 a1_5, .bool a1_6, .int .i64 a1_7, .int .i64 a1_8] 31 (0, 0)) (by (with_reducible repeat (first | apply zn | apply zd | apply za)); exact BK414.out) hb); have n2_ := ak_ (blk_below (g := gb415) (o := .cells #[.int .i64 a2_0, .int .i64 a2_1, .bool a2_2, .int .i64 a2_3, .bool a2_4] 41 (0, 0)) (by (with_reducible repeat (first | apply zn | apply zd | apply za)); exact BK415.out) hb); have n3_ := ak_ (blk_below (g := gb416) (o := .cells #[.int .i64 0, .string ⟨#[]⟩, .int .i64 0, .int .i64 0, .int .i64 0, .int .i64 0, .bool false, .int .i64 0, .int .i64 0] 31 (0, 0)) (by (with_reducible repeat (first | apply zn | apply zd | apply za)); exact BK416.out) hb); have n4_ := ak_ (ps (by with_reducible repeat first | exact HB.out | apply pa | apply pd | apply pe | refine zs ?_ GE413.out | refine zs ?_ GE414.out | refine zs ?_ GE415.out | refine zs ?_ GE416.out) hb); clear BK413 BK414 BK415 BK416 HB; have BK413 := n0_; have BK414 := n1_; have BK415 := n2_; have BK416 := n3_; have HB := n4_; clear n0_ n1_ n2_ n3_ n4_))
 (try simp only [Act.put, sa_, sz_, ss_])
 have H := HF6.out
 clear HF6
 by_cases c19 : t417 = 0
 · rw [if_pos c19] at H
   have c19b0 : (t417 == 0) = true := beq_iff_eq.mpr c19
   have c19b1 : (t417 != 0) = false := bne_eq_false_iff_eq.mpr c19
   clear c19
   (first | rw [c19b0] | (simp only [i64_w, i32_w]; rw [c19b0]) | skip)
   have HF20 := ak_ H
   clear H
   have hnb21 := NB415_413.out
   have hnc21 := NB413_415.out
   have hnb22 := NB415_414.out
   have hnc22 := NB414_415.out
   have hnb23 := NB415_416.out
   have hnc23 := NB416_415.out
   have hcz24_0 : w18.cell? ⟨gb415, 0, none⟩ = some (.int .i64 a2_0) := (zc BK415.out 0).trans rfl
   have hcz24_1 : w18.cell? ⟨gb415, 1, none⟩ = some (.int .i64 a2_1) := (zc BK415.out 1).trans rfl
   have hcz24_2 : w18.cell? ⟨gb415, 2, none⟩ = some (.bool a2_2) := (zc BK415.out 2).trans rfl
   have hcz24_3 : w18.cell? ⟨gb415, 3, none⟩ = some (.int .i64 a2_3) := (zc BK415.out 3).trans rfl
   have hcz24_4 : w18.cell? ⟨gb415, 4, none⟩ = some (.bool a2_4) := (zc BK415.out 4).trans rfl
   have hfz24_0 := zf BK415.out 0
   have hfz24_1 := zf BK415.out 1
   have hfz24_2 := zf BK415.out 2
   have hfz24_3 := zf BK415.out 3
   have hfz24_4 := zf BK415.out 4
   have hnb25 := NB414_413.out
   have hnc25 := NB413_414.out
   have hnb26 := NB414_416.out
   have hnc26 := NB416_414.out
   have hcz27_0 : w18.cell? ⟨gb414, 0, none⟩ = some (.int .i64 a1_0) := (zc BK414.out 0).trans rfl
   have hcz27_1 : w18.cell? ⟨gb414, 1, none⟩ = some (.string a1_1) := (zc BK414.out 1).trans rfl
   have hcz27_2 : w18.cell? ⟨gb414, 2, none⟩ = some (.int .i64 a1_2) := (zc BK414.out 2).trans rfl
   have hcz27_3 : w18.cell? ⟨gb414, 3, none⟩ = some (.int .i64 a1_3) := (zc BK414.out 3).trans rfl
   have hcz27_4 : w18.cell? ⟨gb414, 4, none⟩ = some (.int .i64 a1_4) := (zc BK414.out 4).trans rfl
   have hcz27_5 : w18.cell? ⟨gb414, 5, none⟩ = some (.int .i64 a1_5) := (zc BK414.out 5).trans rfl
   have hcz27_6 : w18.cell? ⟨gb414, 6, none⟩ = some (.bool a1_6) := (zc BK414.out 6).trans rfl
   have hcz27_7 : w18.cell? ⟨gb414, 7, none⟩ = some (.int .i64 a1_7) := (zc BK414.out 7).trans rfl
   have hcz27_8 : w18.cell? ⟨gb414, 8, none⟩ = some (.int .i64 a1_8) := (zc BK414.out 8).trans rfl
   have hfz27_0 := zf BK414.out 0
   have hfz27_1 := zf BK414.out 1
   have hfz27_2 := zf BK414.out 2
   have hfz27_3 := zf BK414.out 3
   have hfz27_4 := zf BK414.out 4
   have hfz27_5 := zf BK414.out 5
   have hfz27_6 := zf BK414.out 6
   have hfz27_7 := zf BK414.out 7
   have hfz27_8 := zf BK414.out 8
   go_upto_if 20 with (fail)
   have H := HF20.out
   clear HF20
   by_cases c28 : a2_0 = a1_0
   · rw [if_pos c28] at H
     have c28b0 : (a2_0 == a1_0) = true := beq_iff_eq.mpr c28
     have c28b1 : (a2_0 != a1_0) = false := bne_eq_false_iff_eq.mpr c28
     clear c28
     (first | rw [c28b0] | (simp only [i64_w, i32_w]; rw [c28b0]) | skip)
     replace H := ob_ H
     obtain ⟨t418, A290, H⟩ := H
     replace H : (if t418 = true then (if a2_4 = true then ((saga_done.f k a0_0 a0_1 l0_2 a1_0 a1_1 a1_2 a1_3 a1_4 a1_5 a1_6 a1_7 a1_8 a3).bind fun bt419 => (some (bt419.1, bt419.2.1, bt419.2.2.1, bt419.2.2.2.1, bt419.2.2.2.2.1, bt419.2.2.2.2.2.1, bt419.2.2.2.2.2.2.1, bt419.2.2.2.2.2.2.2.1, bt419.2.2.2.2.2.2.2.2, 0))) else ((saga_fails.f k a0_0 a0_1 l0_2 a1_0 a1_1 a1_2 a1_3 a1_4 a1_5 a1_6 a1_7 a1_8 a3).bind fun bt428 => (some (bt428.1, bt428.2.1, bt428.2.2.1, bt428.2.2.2.1, bt428.2.2.2.2.1, bt428.2.2.2.2.2.1, bt428.2.2.2.2.2.2.1, bt428.2.2.2.2.2.2.2.1, bt428.2.2.2.2.2.2.2.2, 0)))) else (some (a1_0, a1_1, a1_2, a1_3, a1_4, a1_5, a1_6, a1_7, a1_8, 15))) = some (r1, r2, r3, r4, r5, r6, r7, r8, r9, r10) := H
     have A29 := ak_ A290
     clear A290
     have HF30 := ak_ H
     clear H
     have hnb31 := NB414_413.out
     have hnc31 := NB413_414.out
     have hnb32 := NB414_415.out
     have hnc32 := NB415_414.out
     have hnb33 := NB414_416.out
     have hnc33 := NB416_414.out
     have hcz34_0 : w18.cell? ⟨gb414, 0, none⟩ = some (.int .i64 a1_0) := (zc BK414.out 0).trans rfl
     have hcz34_1 : w18.cell? ⟨gb414, 1, none⟩ = some (.string a1_1) := (zc BK414.out 1).trans rfl
     have hcz34_2 : w18.cell? ⟨gb414, 2, none⟩ = some (.int .i64 a1_2) := (zc BK414.out 2).trans rfl
     have hcz34_3 : w18.cell? ⟨gb414, 3, none⟩ = some (.int .i64 a1_3) := (zc BK414.out 3).trans rfl
     have hcz34_4 : w18.cell? ⟨gb414, 4, none⟩ = some (.int .i64 a1_4) := (zc BK414.out 4).trans rfl
     have hcz34_5 : w18.cell? ⟨gb414, 5, none⟩ = some (.int .i64 a1_5) := (zc BK414.out 5).trans rfl
     have hcz34_6 : w18.cell? ⟨gb414, 6, none⟩ = some (.bool a1_6) := (zc BK414.out 6).trans rfl
     have hcz34_7 : w18.cell? ⟨gb414, 7, none⟩ = some (.int .i64 a1_7) := (zc BK414.out 7).trans rfl
     have hcz34_8 : w18.cell? ⟨gb414, 8, none⟩ = some (.int .i64 a1_8) := (zc BK414.out 8).trans rfl
     have hfz34_0 := zf BK414.out 0
     have hfz34_1 := zf BK414.out 1
     have hfz34_2 := zf BK414.out 2
     have hfz34_3 := zf BK414.out 3
     have hfz34_4 := zf BK414.out 4
     have hfz34_5 := zf BK414.out 5
     have hfz34_6 := zf BK414.out 6
     have hfz34_7 := zf BK414.out 7
     have hfz34_8 := zf BK414.out 8
     have hnb35 := NB415_413.out
     have hnc35 := NB413_415.out
     have hnb36 := NB415_416.out
     have hnc36 := NB416_415.out
     have hcz37_0 : w18.cell? ⟨gb415, 0, none⟩ = some (.int .i64 a2_0) := (zc BK415.out 0).trans rfl
     have hcz37_1 : w18.cell? ⟨gb415, 1, none⟩ = some (.int .i64 a2_1) := (zc BK415.out 1).trans rfl
     have hcz37_2 : w18.cell? ⟨gb415, 2, none⟩ = some (.bool a2_2) := (zc BK415.out 2).trans rfl
     have hcz37_3 : w18.cell? ⟨gb415, 3, none⟩ = some (.int .i64 a2_3) := (zc BK415.out 3).trans rfl
     have hcz37_4 : w18.cell? ⟨gb415, 4, none⟩ = some (.bool a2_4) := (zc BK415.out 4).trans rfl
     have hfz37_0 := zf BK415.out 0
     have hfz37_1 := zf BK415.out 1
     have hfz37_2 := zf BK415.out 2
     have hfz37_3 := zf BK415.out 3
     have hfz37_4 := zf BK415.out 4
     go_upto_if 27 with (first | ((with_reducible refine gate_callee (f := 38) rfl ?_); refine goesL_ (some 30) rfl rfl Tryd.func38 (by kernel_rfl) rfl #[.agg #[.int .i64 a1_0, .string a1_1, .int .i64 a1_2, .int .i64 a1_3, .int .i64 a1_4, .int .i64 a1_5, .bool a1_6, .int .i64 a1_7, .int .i64 a1_8], .agg #[.int .i64 a2_0, .int .i64 a2_1, .bool a2_2, .int .i64 a2_3, .bool a2_4]] rfl (by (try simp only [mt_, mc_, mn_]); first | done | rfl) ?_; (with_reducible refine (saga_accepted.calls a1_0 a1_1 a1_2 a1_3 a1_4 a1_5 a1_6 a1_7 a1_8 a2_0 a2_1 a2_2 a2_3 a2_4 t418 _ A29.out).mono ?_); rintro e w38 ⟨rfl, hb⟩; refine ⟨_, rfl, ?_⟩; have n0_ := ak_ (blk_below (g := gb413) (o := .cells #[.string a0_0, .int .i64 a0_1, .slice A0_2 l0_2.length c0_2] 24 (0, 0)) (by (with_reducible repeat (first | apply zn | apply zd | apply za)); exact BK413.out) hb); have n1_ := ak_ (blk_below (g := gb414) (o := .cells #[.int .i64 a1_0, .string a1_1, .int .i64 a1_2, .int .i64 a1_3, .int .i64 a1_4, .int .i64 a1_5, .bool a1_6, .int .i64 a1_7, .int .i64 a1_8] 31 (0, 0)) (by (with_reducible repeat (first | apply zn | apply zd | apply za)); exact BK414.out) hb); have n2_ := ak_ (blk_below (g := gb415) (o := .cells #[.int .i64 a2_0, .int .i64 a2_1, .bool a2_2, .int .i64 a2_3, .bool a2_4] 41 (0, 0)) (by (with_reducible repeat (first | apply zn | apply zd | apply za)); exact BK415.out) hb); have n3_ := ak_ (blk_below (g := gb416) (o := .cells #[.int .i64 0, .string ⟨#[]⟩, .int .i64 0, .int .i64 0, .int .i64 0, .int .i64 0, .bool false, .int .i64 0, .int .i64 0] 31 (0, 0)) (by (with_reducible repeat (first | apply zn | apply zd | apply za)); exact BK416.out) hb); have n4_ := ak_ (ps (by with_reducible repeat first | exact HB.out | apply pa | apply pd | apply pe | refine zs ?_ GE413.out | refine zs ?_ GE414.out | refine zs ?_ GE415.out | refine zs ?_ GE416.out) hb); clear BK413 BK414 BK415 BK416 HB; have BK413 := n0_; have BK414 := n1_; have BK415 := n2_; have BK416 := n3_; have HB := n4_; clear n0_ n1_ n2_ n3_ n4_))
     (try simp only [Act.put, sa_, sz_, ss_])
     have H := HF30.out
     clear HF30
     by_cases c39 : t418 = true
     · subst c39
       have H1 : (if a2_4 = true then ((saga_done.f k a0_0 a0_1 l0_2 a1_0 a1_1 a1_2 a1_3 a1_4 a1_5 a1_6 a1_7 a1_8 a3).bind fun bt419 => (some (bt419.1, bt419.2.1, bt419.2.2.1, bt419.2.2.2.1, bt419.2.2.2.2.1, bt419.2.2.2.2.2.1, bt419.2.2.2.2.2.2.1, bt419.2.2.2.2.2.2.2.1, bt419.2.2.2.2.2.2.2.2, 0))) else ((saga_fails.f k a0_0 a0_1 l0_2 a1_0 a1_1 a1_2 a1_3 a1_4 a1_5 a1_6 a1_7 a1_8 a3).bind fun bt428 => (some (bt428.1, bt428.2.1, bt428.2.2.1, bt428.2.2.2.1, bt428.2.2.2.2.1, bt428.2.2.2.2.2.1, bt428.2.2.2.2.2.2.1, bt428.2.2.2.2.2.2.2.1, bt428.2.2.2.2.2.2.2.2, 0)))) = some (r1, r2, r3, r4, r5, r6, r7, r8, r9, r10) := by rw [if_pos rfl] at H; exact H
       clear H
       have H := H1
       clear H1
       have HF40 := ak_ H
       clear H
       have hnb41 := NB415_413.out
       have hnc41 := NB413_415.out
       have hnb42 := NB415_414.out
       have hnc42 := NB414_415.out
       have hnb43 := NB415_416.out
       have hnc43 := NB416_415.out
       have hcz44_0 : w38.cell? ⟨gb415, 0, none⟩ = some (.int .i64 a2_0) := (zc BK415.out 0).trans rfl
       have hcz44_1 : w38.cell? ⟨gb415, 1, none⟩ = some (.int .i64 a2_1) := (zc BK415.out 1).trans rfl
       have hcz44_2 : w38.cell? ⟨gb415, 2, none⟩ = some (.bool a2_2) := (zc BK415.out 2).trans rfl
       have hcz44_3 : w38.cell? ⟨gb415, 3, none⟩ = some (.int .i64 a2_3) := (zc BK415.out 3).trans rfl
       have hcz44_4 : w38.cell? ⟨gb415, 4, none⟩ = some (.bool a2_4) := (zc BK415.out 4).trans rfl
       have hfz44_0 := zf BK415.out 0
       have hfz44_1 := zf BK415.out 1
       have hfz44_2 := zf BK415.out 2
       have hfz44_3 := zf BK415.out 3
       have hfz44_4 := zf BK415.out 4
       go_upto_if 33 with (fail)
       have H := HF40.out
       clear HF40
       by_cases c45 : a2_4 = true
       · subst c45
         have H1 : ((saga_done.f k a0_0 a0_1 l0_2 a1_0 a1_1 a1_2 a1_3 a1_4 a1_5 a1_6 a1_7 a1_8 a3).bind fun bt419 => (some (bt419.1, bt419.2.1, bt419.2.2.1, bt419.2.2.2.1, bt419.2.2.2.2.1, bt419.2.2.2.2.2.1, bt419.2.2.2.2.2.2.1, bt419.2.2.2.2.2.2.2.1, bt419.2.2.2.2.2.2.2.2, 0))) = some (r1, r2, r3, r4, r5, r6, r7, r8, r9, r10) := by rw [if_pos rfl] at H; exact H
         clear H
         have H := H1
         clear H1
         replace H := ob_ H
         obtain ⟨⟨t419, t420, t421, t422, t423, t424, t425, t426, t427⟩, A460, H⟩ := H
         replace H : (some (t419, t420, t421, t422, t423, t424, t425, t426, t427, 0)) = some (r1, r2, r3, r4, r5, r6, r7, r8, r9, r10) := H
         have A46 := ak_ A460
         clear A460
         simp only [Option.some.injEq, Prod.mk.injEq] at H
         obtain ⟨rfl, rfl, rfl, rfl, rfl, rfl, rfl, rfl, rfl, rfl⟩ := H
         have hnb47 := NB413_414.out
         have hnc47 := NB414_413.out
         have hnb48 := NB413_415.out
         have hnc48 := NB415_413.out
         have hnb49 := NB413_416.out
         have hnc49 := NB416_413.out
         have hcz50_0 : w38.cell? ⟨gb413, 0, none⟩ = some (.string a0_0) := (zc BK413.out 0).trans rfl
         have hcz50_1 : w38.cell? ⟨gb413, 1, none⟩ = some (.int .i64 a0_1) := (zc BK413.out 1).trans rfl
         have hcz50_2 : w38.cell? ⟨gb413, 2, none⟩ = some (.slice A0_2 l0_2.length c0_2) := (zc BK413.out 2).trans rfl
         have hfz50_0 := zf BK413.out 0
         have hfz50_1 := zf BK413.out 1
         have hfz50_2 := zf BK413.out 2
         have hnb51 := NB414_415.out
         have hnc51 := NB415_414.out
         have hnb52 := NB414_416.out
         have hnc52 := NB416_414.out
         have hcz53_0 : w38.cell? ⟨gb414, 0, none⟩ = some (.int .i64 a1_0) := (zc BK414.out 0).trans rfl
         have hcz53_1 : w38.cell? ⟨gb414, 1, none⟩ = some (.string a1_1) := (zc BK414.out 1).trans rfl
         have hcz53_2 : w38.cell? ⟨gb414, 2, none⟩ = some (.int .i64 a1_2) := (zc BK414.out 2).trans rfl
         have hcz53_3 : w38.cell? ⟨gb414, 3, none⟩ = some (.int .i64 a1_3) := (zc BK414.out 3).trans rfl
         have hcz53_4 : w38.cell? ⟨gb414, 4, none⟩ = some (.int .i64 a1_4) := (zc BK414.out 4).trans rfl
         have hcz53_5 : w38.cell? ⟨gb414, 5, none⟩ = some (.int .i64 a1_5) := (zc BK414.out 5).trans rfl
         have hcz53_6 : w38.cell? ⟨gb414, 6, none⟩ = some (.bool a1_6) := (zc BK414.out 6).trans rfl
         have hcz53_7 : w38.cell? ⟨gb414, 7, none⟩ = some (.int .i64 a1_7) := (zc BK414.out 7).trans rfl
         have hcz53_8 : w38.cell? ⟨gb414, 8, none⟩ = some (.int .i64 a1_8) := (zc BK414.out 8).trans rfl
         have hfz53_0 := zf BK414.out 0
         have hfz53_1 := zf BK414.out 1
         have hfz53_2 := zf BK414.out 2
         have hfz53_3 := zf BK414.out 3
         have hfz53_4 := zf BK414.out 4
         have hfz53_5 := zf BK414.out 5
         have hfz53_6 := zf BK414.out 6
         have hfz53_7 := zf BK414.out 7
         have hfz53_8 := zf BK414.out 8
         go_wp2_with (first | ((with_reducible refine gate_callee (f := 39) rfl ?_); refine goesL_ (some 39) rfl rfl Tryd.func39 (by kernel_rfl) rfl #[.agg #[.string a0_0, .int .i64 a0_1, .slice A0_2 l0_2.length c0_2], .agg #[.int .i64 a1_0, .string a1_1, .int .i64 a1_2, .int .i64 a1_3, .int .i64 a1_4, .int .i64 a1_5, .bool a1_6, .int .i64 a1_7, .int .i64 a1_8], .int .i64 a3] rfl (by (try simp only [mt_, mc_, mn_]); first | done | rfl) ?_; (with_reducible refine (saga_done.calls k a0_0 a0_1 _ _ l0_2 a1_0 a1_1 a1_2 a1_3 a1_4 a1_5 a1_6 a1_7 a1_8 a3 t419 t420 t421 t422 t423 t424 t425 t426 t427 _ ?side1 ?side2 A46.out).mono ?_); (case side1 => repeat (first | exact (Kd.C_below HR0_2.out HB.out) | (with_reducible refine Kd.C_alloc ?_ _) | (with_reducible refine Kd.C_drewN ?_ _) | (with_reducible refine Kd.C_drew ?_))); (case side2 => exact HC0_2.out); rintro e w54 ⟨rfl, hb⟩; refine ⟨_, rfl, ?_⟩; have n0_ := ak_ (blk_below (g := gb413) (o := .cells #[.string a0_0, .int .i64 a0_1, .slice A0_2 l0_2.length c0_2] 24 (0, 0)) (by (with_reducible repeat (first | apply zn | apply zd | apply za)); exact BK413.out) hb); have n1_ := ak_ (blk_below (g := gb414) (o := .cells #[.int .i64 a1_0, .string a1_1, .int .i64 a1_2, .int .i64 a1_3, .int .i64 a1_4, .int .i64 a1_5, .bool a1_6, .int .i64 a1_7, .int .i64 a1_8] 31 (0, 0)) (by (with_reducible repeat (first | apply zn | apply zd | apply za)); exact BK414.out) hb); have n2_ := ak_ (blk_below (g := gb415) (o := .cells #[.int .i64 a2_0, .int .i64 a2_1, .bool a2_2, .int .i64 a2_3, .bool true] 41 (0, 0)) (by (with_reducible repeat (first | apply zn | apply zd | apply za)); exact BK415.out) hb); have n3_ := ak_ (blk_below (g := gb416) (o := .cells #[.int .i64 0, .string ⟨#[]⟩, .int .i64 0, .int .i64 0, .int .i64 0, .int .i64 0, .bool false, .int .i64 0, .int .i64 0] 31 (0, 0)) (by (with_reducible repeat (first | apply zn | apply zd | apply za)); exact BK416.out) hb); have n4_ := ak_ (ps (by with_reducible repeat first | exact HB.out | apply pa | apply pd | apply pe | refine zs ?_ GE413.out | refine zs ?_ GE414.out | refine zs ?_ GE415.out | refine zs ?_ GE416.out) hb); clear BK413 BK414 BK415 BK416 HB; have BK413 := n0_; have BK414 := n1_; have BK415 := n2_; have BK416 := n3_; have HB := n4_; clear n0_ n1_ n2_ n3_ n4_; have hnb55 := NB416_415.out; have hnc55 := NB415_416.out; have hcz56_0 : w54.cell? ⟨gb416, 0, none⟩ = some (.int .i64 0) := (zc BK416.out 0).trans rfl; have hcz56_1 : w54.cell? ⟨gb416, 1, none⟩ = some (.string ⟨#[]⟩) := (zc BK416.out 1).trans rfl; have hcz56_2 : w54.cell? ⟨gb416, 2, none⟩ = some (.int .i64 0) := (zc BK416.out 2).trans rfl; have hcz56_3 : w54.cell? ⟨gb416, 3, none⟩ = some (.int .i64 0) := (zc BK416.out 3).trans rfl; have hcz56_4 : w54.cell? ⟨gb416, 4, none⟩ = some (.int .i64 0) := (zc BK416.out 4).trans rfl; have hcz56_5 : w54.cell? ⟨gb416, 5, none⟩ = some (.int .i64 0) := (zc BK416.out 5).trans rfl; have hcz56_6 : w54.cell? ⟨gb416, 6, none⟩ = some (.bool false) := (zc BK416.out 6).trans rfl; have hcz56_7 : w54.cell? ⟨gb416, 7, none⟩ = some (.int .i64 0) := (zc BK416.out 7).trans rfl; have hcz56_8 : w54.cell? ⟨gb416, 8, none⟩ = some (.int .i64 0) := (zc BK416.out 8).trans rfl; have hfz56_0 := zf BK416.out 0; have hfz56_1 := zf BK416.out 1; have hfz56_2 := zf BK416.out 2; have hfz56_3 := zf BK416.out 3; have hfz56_4 := zf BK416.out 4; have hfz56_5 := zf BK416.out 5; have hfz56_6 := zf BK416.out 6; have hfz56_7 := zf BK416.out 7; have hfz56_8 := zf BK416.out 8))
         refine bodyPost_ret (results_ct rfl _ _ gb416 31 #[.int .i64 t419, .string t420, .int .i64 t421, .int .i64 t422, .int .i64 t423, .int .i64 t424, .bool t425, .int .i64 t426, .int .i64 t427] (0, 0) _ rfl (by (with_reducible repeat (first | apply zn | apply zd | apply za)); refine zp (cs := #[.int .i64 t419, .string t420, .int .i64 t421, .int .i64 t422, .int .i64 t423, .int .i64 t424, .bool t425, .int .i64 t426, .int .i64 0]) ?_ 8 _ rfl; (with_reducible repeat (first | apply zn | apply zd | apply za)); refine zp (cs := #[.int .i64 t419, .string t420, .int .i64 t421, .int .i64 t422, .int .i64 t423, .int .i64 t424, .bool t425, .int .i64 0, .int .i64 0]) ?_ 7 _ rfl; (with_reducible repeat (first | apply zn | apply zd | apply za)); refine zp (cs := #[.int .i64 t419, .string t420, .int .i64 t421, .int .i64 t422, .int .i64 t423, .int .i64 t424, .bool false, .int .i64 0, .int .i64 0]) ?_ 6 _ rfl; (with_reducible repeat (first | apply zn | apply zd | apply za)); refine zp (cs := #[.int .i64 t419, .string t420, .int .i64 t421, .int .i64 t422, .int .i64 t423, .int .i64 0, .bool false, .int .i64 0, .int .i64 0]) ?_ 5 _ rfl; (with_reducible repeat (first | apply zn | apply zd | apply za)); refine zp (cs := #[.int .i64 t419, .string t420, .int .i64 t421, .int .i64 t422, .int .i64 0, .int .i64 0, .bool false, .int .i64 0, .int .i64 0]) ?_ 4 _ rfl; (with_reducible repeat (first | apply zn | apply zd | apply za)); refine zp (cs := #[.int .i64 t419, .string t420, .int .i64 t421, .int .i64 0, .int .i64 0, .int .i64 0, .bool false, .int .i64 0, .int .i64 0]) ?_ 3 _ rfl; (with_reducible repeat (first | apply zn | apply zd | apply za)); refine zp (cs := #[.int .i64 t419, .string t420, .int .i64 0, .int .i64 0, .int .i64 0, .int .i64 0, .bool false, .int .i64 0, .int .i64 0]) ?_ 2 _ rfl; (with_reducible repeat (first | apply zn | apply zd | apply za)); refine zp (cs := #[.int .i64 t419, .string ⟨#[]⟩, .int .i64 0, .int .i64 0, .int .i64 0, .int .i64 0, .bool false, .int .i64 0, .int .i64 0]) ?_ 1 _ rfl; (with_reducible repeat (first | apply zn | apply zd | apply za)); refine zp (cs := #[.int .i64 0, .string ⟨#[]⟩, .int .i64 0, .int .i64 0, .int .i64 0, .int .i64 0, .bool false, .int .i64 0, .int .i64 0]) ?_ 0 _ rfl; (with_reducible repeat (first | apply zn | apply zd | apply za)); exact BK416.out) Tryd.underlying31 rfl (by kernel_rfl)) rfl ?_
         exact ⟨by first | rfl | simp [*], by repeat (first | (with_reducible first | exact HB.out | apply pa | apply pd | apply pe | refine zs ?_ GE413.out | refine zs ?_ GE414.out | refine zs ?_ GE415.out | refine zs ?_ GE416.out) | exact HB.out)⟩
       replace c45 := Bool.eq_false_iff.mpr c45
       subst c45
       have H1 : ((saga_fails.f k a0_0 a0_1 l0_2 a1_0 a1_1 a1_2 a1_3 a1_4 a1_5 a1_6 a1_7 a1_8 a3).bind fun bt428 => (some (bt428.1, bt428.2.1, bt428.2.2.1, bt428.2.2.2.1, bt428.2.2.2.2.1, bt428.2.2.2.2.2.1, bt428.2.2.2.2.2.2.1, bt428.2.2.2.2.2.2.2.1, bt428.2.2.2.2.2.2.2.2, 0))) = some (r1, r2, r3, r4, r5, r6, r7, r8, r9, r10) := by rw [if_neg (show ¬ (false = true) by decide)] at H; exact H
       clear H
       have H := H1
       clear H1
       replace H := ob_ H
       obtain ⟨⟨t428, t429, t430, t431, t432, t433, t434, t435, t436⟩, A570, H⟩ := H
       replace H : (some (t428, t429, t430, t431, t432, t433, t434, t435, t436, 0)) = some (r1, r2, r3, r4, r5, r6, r7, r8, r9, r10) := H
       have A57 := ak_ A570
       clear A570
       simp only [Option.some.injEq, Prod.mk.injEq] at H
       obtain ⟨rfl, rfl, rfl, rfl, rfl, rfl, rfl, rfl, rfl, rfl⟩ := H
       have hnb58 := NB413_414.out
       have hnc58 := NB414_413.out
       have hnb59 := NB413_415.out
       have hnc59 := NB415_413.out
       have hnb60 := NB413_416.out
       have hnc60 := NB416_413.out
       have hcz61_0 : w38.cell? ⟨gb413, 0, none⟩ = some (.string a0_0) := (zc BK413.out 0).trans rfl
       have hcz61_1 : w38.cell? ⟨gb413, 1, none⟩ = some (.int .i64 a0_1) := (zc BK413.out 1).trans rfl
       have hcz61_2 : w38.cell? ⟨gb413, 2, none⟩ = some (.slice A0_2 l0_2.length c0_2) := (zc BK413.out 2).trans rfl
       have hfz61_0 := zf BK413.out 0
       have hfz61_1 := zf BK413.out 1
       have hfz61_2 := zf BK413.out 2
       have hnb62 := NB414_415.out
       have hnc62 := NB415_414.out
       have hnb63 := NB414_416.out
       have hnc63 := NB416_414.out
       have hcz64_0 : w38.cell? ⟨gb414, 0, none⟩ = some (.int .i64 a1_0) := (zc BK414.out 0).trans rfl
       have hcz64_1 : w38.cell? ⟨gb414, 1, none⟩ = some (.string a1_1) := (zc BK414.out 1).trans rfl
       have hcz64_2 : w38.cell? ⟨gb414, 2, none⟩ = some (.int .i64 a1_2) := (zc BK414.out 2).trans rfl
       have hcz64_3 : w38.cell? ⟨gb414, 3, none⟩ = some (.int .i64 a1_3) := (zc BK414.out 3).trans rfl
       have hcz64_4 : w38.cell? ⟨gb414, 4, none⟩ = some (.int .i64 a1_4) := (zc BK414.out 4).trans rfl
       have hcz64_5 : w38.cell? ⟨gb414, 5, none⟩ = some (.int .i64 a1_5) := (zc BK414.out 5).trans rfl
       have hcz64_6 : w38.cell? ⟨gb414, 6, none⟩ = some (.bool a1_6) := (zc BK414.out 6).trans rfl
       have hcz64_7 : w38.cell? ⟨gb414, 7, none⟩ = some (.int .i64 a1_7) := (zc BK414.out 7).trans rfl
       have hcz64_8 : w38.cell? ⟨gb414, 8, none⟩ = some (.int .i64 a1_8) := (zc BK414.out 8).trans rfl
       have hfz64_0 := zf BK414.out 0
       have hfz64_1 := zf BK414.out 1
       have hfz64_2 := zf BK414.out 2
       have hfz64_3 := zf BK414.out 3
       have hfz64_4 := zf BK414.out 4
       have hfz64_5 := zf BK414.out 5
       have hfz64_6 := zf BK414.out 6
       have hfz64_7 := zf BK414.out 7
       have hfz64_8 := zf BK414.out 8
       go_wp2_with (first | ((with_reducible refine gate_callee (f := 40) rfl ?_); refine goesL_ (some 43) rfl rfl Tryd.func40 (by kernel_rfl) rfl #[.agg #[.string a0_0, .int .i64 a0_1, .slice A0_2 l0_2.length c0_2], .agg #[.int .i64 a1_0, .string a1_1, .int .i64 a1_2, .int .i64 a1_3, .int .i64 a1_4, .int .i64 a1_5, .bool a1_6, .int .i64 a1_7, .int .i64 a1_8], .int .i64 a3] rfl (by (try simp only [mt_, mc_, mn_]); first | done | rfl) ?_; (with_reducible refine (saga_fails.calls k a0_0 a0_1 _ _ l0_2 a1_0 a1_1 a1_2 a1_3 a1_4 a1_5 a1_6 a1_7 a1_8 a3 t428 t429 t430 t431 t432 t433 t434 t435 t436 _ ?side1 ?side2 A57.out).mono ?_); (case side1 => repeat (first | exact (Kd.C_below HR0_2.out HB.out) | (with_reducible refine Kd.C_alloc ?_ _) | (with_reducible refine Kd.C_drewN ?_ _) | (with_reducible refine Kd.C_drew ?_))); (case side2 => exact HC0_2.out); rintro e w65 ⟨rfl, hb⟩; refine ⟨_, rfl, ?_⟩; have n0_ := ak_ (blk_below (g := gb413) (o := .cells #[.string a0_0, .int .i64 a0_1, .slice A0_2 l0_2.length c0_2] 24 (0, 0)) (by (with_reducible repeat (first | apply zn | apply zd | apply za)); exact BK413.out) hb); have n1_ := ak_ (blk_below (g := gb414) (o := .cells #[.int .i64 a1_0, .string a1_1, .int .i64 a1_2, .int .i64 a1_3, .int .i64 a1_4, .int .i64 a1_5, .bool a1_6, .int .i64 a1_7, .int .i64 a1_8] 31 (0, 0)) (by (with_reducible repeat (first | apply zn | apply zd | apply za)); exact BK414.out) hb); have n2_ := ak_ (blk_below (g := gb415) (o := .cells #[.int .i64 a2_0, .int .i64 a2_1, .bool a2_2, .int .i64 a2_3, .bool false] 41 (0, 0)) (by (with_reducible repeat (first | apply zn | apply zd | apply za)); exact BK415.out) hb); have n3_ := ak_ (blk_below (g := gb416) (o := .cells #[.int .i64 0, .string ⟨#[]⟩, .int .i64 0, .int .i64 0, .int .i64 0, .int .i64 0, .bool false, .int .i64 0, .int .i64 0] 31 (0, 0)) (by (with_reducible repeat (first | apply zn | apply zd | apply za)); exact BK416.out) hb); have n4_ := ak_ (ps (by with_reducible repeat first | exact HB.out | apply pa | apply pd | apply pe | refine zs ?_ GE413.out | refine zs ?_ GE414.out | refine zs ?_ GE415.out | refine zs ?_ GE416.out) hb); clear BK413 BK414 BK415 BK416 HB; have BK413 := n0_; have BK414 := n1_; have BK415 := n2_; have BK416 := n3_; have HB := n4_; clear n0_ n1_ n2_ n3_ n4_; have hnb66 := NB416_415.out; have hnc66 := NB415_416.out; have hcz67_0 : w65.cell? ⟨gb416, 0, none⟩ = some (.int .i64 0) := (zc BK416.out 0).trans rfl; have hcz67_1 : w65.cell? ⟨gb416, 1, none⟩ = some (.string ⟨#[]⟩) := (zc BK416.out 1).trans rfl; have hcz67_2 : w65.cell? ⟨gb416, 2, none⟩ = some (.int .i64 0) := (zc BK416.out 2).trans rfl; have hcz67_3 : w65.cell? ⟨gb416, 3, none⟩ = some (.int .i64 0) := (zc BK416.out 3).trans rfl; have hcz67_4 : w65.cell? ⟨gb416, 4, none⟩ = some (.int .i64 0) := (zc BK416.out 4).trans rfl; have hcz67_5 : w65.cell? ⟨gb416, 5, none⟩ = some (.int .i64 0) := (zc BK416.out 5).trans rfl; have hcz67_6 : w65.cell? ⟨gb416, 6, none⟩ = some (.bool false) := (zc BK416.out 6).trans rfl; have hcz67_7 : w65.cell? ⟨gb416, 7, none⟩ = some (.int .i64 0) := (zc BK416.out 7).trans rfl; have hcz67_8 : w65.cell? ⟨gb416, 8, none⟩ = some (.int .i64 0) := (zc BK416.out 8).trans rfl; have hfz67_0 := zf BK416.out 0; have hfz67_1 := zf BK416.out 1; have hfz67_2 := zf BK416.out 2; have hfz67_3 := zf BK416.out 3; have hfz67_4 := zf BK416.out 4; have hfz67_5 := zf BK416.out 5; have hfz67_6 := zf BK416.out 6; have hfz67_7 := zf BK416.out 7; have hfz67_8 := zf BK416.out 8))
       refine bodyPost_ret (results_ct rfl _ _ gb416 31 #[.int .i64 t428, .string t429, .int .i64 t430, .int .i64 t431, .int .i64 t432, .int .i64 t433, .bool t434, .int .i64 t435, .int .i64 t436] (0, 0) _ rfl (by (with_reducible repeat (first | apply zn | apply zd | apply za)); refine zp (cs := #[.int .i64 t428, .string t429, .int .i64 t430, .int .i64 t431, .int .i64 t432, .int .i64 t433, .bool t434, .int .i64 t435, .int .i64 0]) ?_ 8 _ rfl; (with_reducible repeat (first | apply zn | apply zd | apply za)); refine zp (cs := #[.int .i64 t428, .string t429, .int .i64 t430, .int .i64 t431, .int .i64 t432, .int .i64 t433, .bool t434, .int .i64 0, .int .i64 0]) ?_ 7 _ rfl; (with_reducible repeat (first | apply zn | apply zd | apply za)); refine zp (cs := #[.int .i64 t428, .string t429, .int .i64 t430, .int .i64 t431, .int .i64 t432, .int .i64 t433, .bool false, .int .i64 0, .int .i64 0]) ?_ 6 _ rfl; (with_reducible repeat (first | apply zn | apply zd | apply za)); refine zp (cs := #[.int .i64 t428, .string t429, .int .i64 t430, .int .i64 t431, .int .i64 t432, .int .i64 0, .bool false, .int .i64 0, .int .i64 0]) ?_ 5 _ rfl; (with_reducible repeat (first | apply zn | apply zd | apply za)); refine zp (cs := #[.int .i64 t428, .string t429, .int .i64 t430, .int .i64 t431, .int .i64 0, .int .i64 0, .bool false, .int .i64 0, .int .i64 0]) ?_ 4 _ rfl; (with_reducible repeat (first | apply zn | apply zd | apply za)); refine zp (cs := #[.int .i64 t428, .string t429, .int .i64 t430, .int .i64 0, .int .i64 0, .int .i64 0, .bool false, .int .i64 0, .int .i64 0]) ?_ 3 _ rfl; (with_reducible repeat (first | apply zn | apply zd | apply za)); refine zp (cs := #[.int .i64 t428, .string t429, .int .i64 0, .int .i64 0, .int .i64 0, .int .i64 0, .bool false, .int .i64 0, .int .i64 0]) ?_ 2 _ rfl; (with_reducible repeat (first | apply zn | apply zd | apply za)); refine zp (cs := #[.int .i64 t428, .string ⟨#[]⟩, .int .i64 0, .int .i64 0, .int .i64 0, .int .i64 0, .bool false, .int .i64 0, .int .i64 0]) ?_ 1 _ rfl; (with_reducible repeat (first | apply zn | apply zd | apply za)); refine zp (cs := #[.int .i64 0, .string ⟨#[]⟩, .int .i64 0, .int .i64 0, .int .i64 0, .int .i64 0, .bool false, .int .i64 0, .int .i64 0]) ?_ 0 _ rfl; (with_reducible repeat (first | apply zn | apply zd | apply za)); exact BK416.out) Tryd.underlying31 rfl (by kernel_rfl)) rfl ?_
       exact ⟨by first | rfl | simp [*], by repeat (first | (with_reducible first | exact HB.out | apply pa | apply pd | apply pe | refine zs ?_ GE413.out | refine zs ?_ GE414.out | refine zs ?_ GE415.out | refine zs ?_ GE416.out) | exact HB.out)⟩
     replace c39 := Bool.eq_false_iff.mpr c39
     subst c39
     have H1 : (some (a1_0, a1_1, a1_2, a1_3, a1_4, a1_5, a1_6, a1_7, a1_8, 15)) = some (r1, r2, r3, r4, r5, r6, r7, r8, r9, r10) := by rw [if_neg (show ¬ (false = true) by decide)] at H; exact H
     clear H
     have H := H1
     clear H1
     simp only [Option.some.injEq, Prod.mk.injEq] at H
     obtain ⟨rfl, rfl, rfl, rfl, rfl, rfl, rfl, rfl, rfl, rfl⟩ := H
     have hnb68 := NB414_413.out
     have hnc68 := NB413_414.out
     have hnb69 := NB414_415.out
     have hnc69 := NB415_414.out
     have hnb70 := NB414_416.out
     have hnc70 := NB416_414.out
     have hcz71_0 : w38.cell? ⟨gb414, 0, none⟩ = some (.int .i64 a1_0) := (zc BK414.out 0).trans rfl
     have hcz71_1 : w38.cell? ⟨gb414, 1, none⟩ = some (.string a1_1) := (zc BK414.out 1).trans rfl
     have hcz71_2 : w38.cell? ⟨gb414, 2, none⟩ = some (.int .i64 a1_2) := (zc BK414.out 2).trans rfl
     have hcz71_3 : w38.cell? ⟨gb414, 3, none⟩ = some (.int .i64 a1_3) := (zc BK414.out 3).trans rfl
     have hcz71_4 : w38.cell? ⟨gb414, 4, none⟩ = some (.int .i64 a1_4) := (zc BK414.out 4).trans rfl
     have hcz71_5 : w38.cell? ⟨gb414, 5, none⟩ = some (.int .i64 a1_5) := (zc BK414.out 5).trans rfl
     have hcz71_6 : w38.cell? ⟨gb414, 6, none⟩ = some (.bool a1_6) := (zc BK414.out 6).trans rfl
     have hcz71_7 : w38.cell? ⟨gb414, 7, none⟩ = some (.int .i64 a1_7) := (zc BK414.out 7).trans rfl
     have hcz71_8 : w38.cell? ⟨gb414, 8, none⟩ = some (.int .i64 a1_8) := (zc BK414.out 8).trans rfl
     have hfz71_0 := zf BK414.out 0
     have hfz71_1 := zf BK414.out 1
     have hfz71_2 := zf BK414.out 2
     have hfz71_3 := zf BK414.out 3
     have hfz71_4 := zf BK414.out 4
     have hfz71_5 := zf BK414.out 5
     have hfz71_6 := zf BK414.out 6
     have hfz71_7 := zf BK414.out 7
     have hfz71_8 := zf BK414.out 8
     have hnb72 := NB416_413.out
     have hnc72 := NB413_416.out
     have hnb73 := NB416_415.out
     have hnc73 := NB415_416.out
     have hcz74_0 : w38.cell? ⟨gb416, 0, none⟩ = some (.int .i64 0) := (zc BK416.out 0).trans rfl
     have hcz74_1 : w38.cell? ⟨gb416, 1, none⟩ = some (.string ⟨#[]⟩) := (zc BK416.out 1).trans rfl
     have hcz74_2 : w38.cell? ⟨gb416, 2, none⟩ = some (.int .i64 0) := (zc BK416.out 2).trans rfl
     have hcz74_3 : w38.cell? ⟨gb416, 3, none⟩ = some (.int .i64 0) := (zc BK416.out 3).trans rfl
     have hcz74_4 : w38.cell? ⟨gb416, 4, none⟩ = some (.int .i64 0) := (zc BK416.out 4).trans rfl
     have hcz74_5 : w38.cell? ⟨gb416, 5, none⟩ = some (.int .i64 0) := (zc BK416.out 5).trans rfl
     have hcz74_6 : w38.cell? ⟨gb416, 6, none⟩ = some (.bool false) := (zc BK416.out 6).trans rfl
     have hcz74_7 : w38.cell? ⟨gb416, 7, none⟩ = some (.int .i64 0) := (zc BK416.out 7).trans rfl
     have hcz74_8 : w38.cell? ⟨gb416, 8, none⟩ = some (.int .i64 0) := (zc BK416.out 8).trans rfl
     have hfz74_0 := zf BK416.out 0
     have hfz74_1 := zf BK416.out 1
     have hfz74_2 := zf BK416.out 2
     have hfz74_3 := zf BK416.out 3
     have hfz74_4 := zf BK416.out 4
     have hfz74_5 := zf BK416.out 5
     have hfz74_6 := zf BK416.out 6
     have hfz74_7 := zf BK416.out 7
     have hfz74_8 := zf BK416.out 8
     go_wp2
     refine bodyPost_ret (results_ct rfl _ _ gb416 31 #[.int .i64 a1_0, .string a1_1, .int .i64 a1_2, .int .i64 a1_3, .int .i64 a1_4, .int .i64 a1_5, .bool a1_6, .int .i64 a1_7, .int .i64 a1_8] (0, 0) _ rfl (by (with_reducible repeat (first | apply zn | apply zd | apply za)); refine zp (cs := #[.int .i64 a1_0, .string a1_1, .int .i64 a1_2, .int .i64 a1_3, .int .i64 a1_4, .int .i64 a1_5, .bool a1_6, .int .i64 a1_7, .int .i64 0]) ?_ 8 _ rfl; (with_reducible repeat (first | apply zn | apply zd | apply za)); refine zp (cs := #[.int .i64 a1_0, .string a1_1, .int .i64 a1_2, .int .i64 a1_3, .int .i64 a1_4, .int .i64 a1_5, .bool a1_6, .int .i64 0, .int .i64 0]) ?_ 7 _ rfl; (with_reducible repeat (first | apply zn | apply zd | apply za)); refine zp (cs := #[.int .i64 a1_0, .string a1_1, .int .i64 a1_2, .int .i64 a1_3, .int .i64 a1_4, .int .i64 a1_5, .bool false, .int .i64 0, .int .i64 0]) ?_ 6 _ rfl; (with_reducible repeat (first | apply zn | apply zd | apply za)); refine zp (cs := #[.int .i64 a1_0, .string a1_1, .int .i64 a1_2, .int .i64 a1_3, .int .i64 a1_4, .int .i64 0, .bool false, .int .i64 0, .int .i64 0]) ?_ 5 _ rfl; (with_reducible repeat (first | apply zn | apply zd | apply za)); refine zp (cs := #[.int .i64 a1_0, .string a1_1, .int .i64 a1_2, .int .i64 a1_3, .int .i64 0, .int .i64 0, .bool false, .int .i64 0, .int .i64 0]) ?_ 4 _ rfl; (with_reducible repeat (first | apply zn | apply zd | apply za)); refine zp (cs := #[.int .i64 a1_0, .string a1_1, .int .i64 a1_2, .int .i64 0, .int .i64 0, .int .i64 0, .bool false, .int .i64 0, .int .i64 0]) ?_ 3 _ rfl; (with_reducible repeat (first | apply zn | apply zd | apply za)); refine zp (cs := #[.int .i64 a1_0, .string a1_1, .int .i64 0, .int .i64 0, .int .i64 0, .int .i64 0, .bool false, .int .i64 0, .int .i64 0]) ?_ 2 _ rfl; (with_reducible repeat (first | apply zn | apply zd | apply za)); refine zp (cs := #[.int .i64 a1_0, .string ⟨#[]⟩, .int .i64 0, .int .i64 0, .int .i64 0, .int .i64 0, .bool false, .int .i64 0, .int .i64 0]) ?_ 1 _ rfl; (with_reducible repeat (first | apply zn | apply zd | apply za)); refine zp (cs := #[.int .i64 0, .string ⟨#[]⟩, .int .i64 0, .int .i64 0, .int .i64 0, .int .i64 0, .bool false, .int .i64 0, .int .i64 0]) ?_ 0 _ rfl; (with_reducible repeat (first | apply zn | apply zd | apply za)); exact BK416.out) Tryd.underlying31 rfl (by kernel_rfl)) rfl ?_
     exact ⟨by first | rfl | simp [*], by repeat (first | (with_reducible first | exact HB.out | apply pa | apply pd | apply pe | refine zs ?_ GE413.out | refine zs ?_ GE414.out | refine zs ?_ GE415.out | refine zs ?_ GE416.out) | exact HB.out)⟩
   rw [if_neg c28] at H
   have c28b0 : (a2_0 == a1_0) = false := beq_eq_false_iff_ne.mpr c28
   have c28b1 : (a2_0 != a1_0) = true := bne_iff_ne.mpr c28
   (first | rw [c28b0] | (simp only [i64_w, i32_w]; rw [c28b0]) | skip)
   simp only [Option.some.injEq, Prod.mk.injEq] at H
   obtain ⟨rfl, rfl, rfl, rfl, rfl, rfl, rfl, rfl, rfl, rfl⟩ := H
   have hnb75 := NB414_413.out
   have hnc75 := NB413_414.out
   have hnb76 := NB414_415.out
   have hnc76 := NB415_414.out
   have hnb77 := NB414_416.out
   have hnc77 := NB416_414.out
   have hcz78_0 : w18.cell? ⟨gb414, 0, none⟩ = some (.int .i64 a1_0) := (zc BK414.out 0).trans rfl
   have hcz78_1 : w18.cell? ⟨gb414, 1, none⟩ = some (.string a1_1) := (zc BK414.out 1).trans rfl
   have hcz78_2 : w18.cell? ⟨gb414, 2, none⟩ = some (.int .i64 a1_2) := (zc BK414.out 2).trans rfl
   have hcz78_3 : w18.cell? ⟨gb414, 3, none⟩ = some (.int .i64 a1_3) := (zc BK414.out 3).trans rfl
   have hcz78_4 : w18.cell? ⟨gb414, 4, none⟩ = some (.int .i64 a1_4) := (zc BK414.out 4).trans rfl
   have hcz78_5 : w18.cell? ⟨gb414, 5, none⟩ = some (.int .i64 a1_5) := (zc BK414.out 5).trans rfl
   have hcz78_6 : w18.cell? ⟨gb414, 6, none⟩ = some (.bool a1_6) := (zc BK414.out 6).trans rfl
   have hcz78_7 : w18.cell? ⟨gb414, 7, none⟩ = some (.int .i64 a1_7) := (zc BK414.out 7).trans rfl
   have hcz78_8 : w18.cell? ⟨gb414, 8, none⟩ = some (.int .i64 a1_8) := (zc BK414.out 8).trans rfl
   have hfz78_0 := zf BK414.out 0
   have hfz78_1 := zf BK414.out 1
   have hfz78_2 := zf BK414.out 2
   have hfz78_3 := zf BK414.out 3
   have hfz78_4 := zf BK414.out 4
   have hfz78_5 := zf BK414.out 5
   have hfz78_6 := zf BK414.out 6
   have hfz78_7 := zf BK414.out 7
   have hfz78_8 := zf BK414.out 8
   have hnb79 := NB416_413.out
   have hnc79 := NB413_416.out
   have hnb80 := NB416_415.out
   have hnc80 := NB415_416.out
   have hcz81_0 : w18.cell? ⟨gb416, 0, none⟩ = some (.int .i64 0) := (zc BK416.out 0).trans rfl
   have hcz81_1 : w18.cell? ⟨gb416, 1, none⟩ = some (.string ⟨#[]⟩) := (zc BK416.out 1).trans rfl
   have hcz81_2 : w18.cell? ⟨gb416, 2, none⟩ = some (.int .i64 0) := (zc BK416.out 2).trans rfl
   have hcz81_3 : w18.cell? ⟨gb416, 3, none⟩ = some (.int .i64 0) := (zc BK416.out 3).trans rfl
   have hcz81_4 : w18.cell? ⟨gb416, 4, none⟩ = some (.int .i64 0) := (zc BK416.out 4).trans rfl
   have hcz81_5 : w18.cell? ⟨gb416, 5, none⟩ = some (.int .i64 0) := (zc BK416.out 5).trans rfl
   have hcz81_6 : w18.cell? ⟨gb416, 6, none⟩ = some (.bool false) := (zc BK416.out 6).trans rfl
   have hcz81_7 : w18.cell? ⟨gb416, 7, none⟩ = some (.int .i64 0) := (zc BK416.out 7).trans rfl
   have hcz81_8 : w18.cell? ⟨gb416, 8, none⟩ = some (.int .i64 0) := (zc BK416.out 8).trans rfl
   have hfz81_0 := zf BK416.out 0
   have hfz81_1 := zf BK416.out 1
   have hfz81_2 := zf BK416.out 2
   have hfz81_3 := zf BK416.out 3
   have hfz81_4 := zf BK416.out 4
   have hfz81_5 := zf BK416.out 5
   have hfz81_6 := zf BK416.out 6
   have hfz81_7 := zf BK416.out 7
   have hfz81_8 := zf BK416.out 8
   go_wp2
   refine bodyPost_ret (results_ct rfl _ _ gb416 31 #[.int .i64 a1_0, .string a1_1, .int .i64 a1_2, .int .i64 a1_3, .int .i64 a1_4, .int .i64 a1_5, .bool a1_6, .int .i64 a1_7, .int .i64 a1_8] (0, 0) _ rfl (by (with_reducible repeat (first | apply zn | apply zd | apply za)); refine zp (cs := #[.int .i64 a1_0, .string a1_1, .int .i64 a1_2, .int .i64 a1_3, .int .i64 a1_4, .int .i64 a1_5, .bool a1_6, .int .i64 a1_7, .int .i64 0]) ?_ 8 _ rfl; (with_reducible repeat (first | apply zn | apply zd | apply za)); refine zp (cs := #[.int .i64 a1_0, .string a1_1, .int .i64 a1_2, .int .i64 a1_3, .int .i64 a1_4, .int .i64 a1_5, .bool a1_6, .int .i64 0, .int .i64 0]) ?_ 7 _ rfl; (with_reducible repeat (first | apply zn | apply zd | apply za)); refine zp (cs := #[.int .i64 a1_0, .string a1_1, .int .i64 a1_2, .int .i64 a1_3, .int .i64 a1_4, .int .i64 a1_5, .bool false, .int .i64 0, .int .i64 0]) ?_ 6 _ rfl; (with_reducible repeat (first | apply zn | apply zd | apply za)); refine zp (cs := #[.int .i64 a1_0, .string a1_1, .int .i64 a1_2, .int .i64 a1_3, .int .i64 a1_4, .int .i64 0, .bool false, .int .i64 0, .int .i64 0]) ?_ 5 _ rfl; (with_reducible repeat (first | apply zn | apply zd | apply za)); refine zp (cs := #[.int .i64 a1_0, .string a1_1, .int .i64 a1_2, .int .i64 a1_3, .int .i64 0, .int .i64 0, .bool false, .int .i64 0, .int .i64 0]) ?_ 4 _ rfl; (with_reducible repeat (first | apply zn | apply zd | apply za)); refine zp (cs := #[.int .i64 a1_0, .string a1_1, .int .i64 a1_2, .int .i64 0, .int .i64 0, .int .i64 0, .bool false, .int .i64 0, .int .i64 0]) ?_ 3 _ rfl; (with_reducible repeat (first | apply zn | apply zd | apply za)); refine zp (cs := #[.int .i64 a1_0, .string a1_1, .int .i64 0, .int .i64 0, .int .i64 0, .int .i64 0, .bool false, .int .i64 0, .int .i64 0]) ?_ 2 _ rfl; (with_reducible repeat (first | apply zn | apply zd | apply za)); refine zp (cs := #[.int .i64 a1_0, .string ⟨#[]⟩, .int .i64 0, .int .i64 0, .int .i64 0, .int .i64 0, .bool false, .int .i64 0, .int .i64 0]) ?_ 1 _ rfl; (with_reducible repeat (first | apply zn | apply zd | apply za)); refine zp (cs := #[.int .i64 0, .string ⟨#[]⟩, .int .i64 0, .int .i64 0, .int .i64 0, .int .i64 0, .bool false, .int .i64 0, .int .i64 0]) ?_ 0 _ rfl; (with_reducible repeat (first | apply zn | apply zd | apply za)); exact BK416.out) Tryd.underlying31 rfl (by kernel_rfl)) rfl ?_
   exact ⟨by first | rfl | simp [*], by repeat (first | (with_reducible first | exact HB.out | apply pa | apply pd | apply pe | refine zs ?_ GE413.out | refine zs ?_ GE414.out | refine zs ?_ GE415.out | refine zs ?_ GE416.out) | exact HB.out)⟩
 rw [if_neg c19] at H
 have c19b0 : (t417 == 0) = false := beq_eq_false_iff_ne.mpr c19
 have c19b1 : (t417 != 0) = true := bne_iff_ne.mpr c19
 (first | rw [c19b0] | (simp only [i64_w, i32_w]; rw [c19b0]) | skip)
 simp only [Option.some.injEq, Prod.mk.injEq] at H
 obtain ⟨rfl, rfl, rfl, rfl, rfl, rfl, rfl, rfl, rfl, rfl⟩ := H
 have hnb82 := NB414_413.out
 have hnc82 := NB413_414.out
 have hnb83 := NB414_415.out
 have hnc83 := NB415_414.out
 have hnb84 := NB414_416.out
 have hnc84 := NB416_414.out
 have hcz85_0 : w18.cell? ⟨gb414, 0, none⟩ = some (.int .i64 a1_0) := (zc BK414.out 0).trans rfl
 have hcz85_1 : w18.cell? ⟨gb414, 1, none⟩ = some (.string a1_1) := (zc BK414.out 1).trans rfl
 have hcz85_2 : w18.cell? ⟨gb414, 2, none⟩ = some (.int .i64 a1_2) := (zc BK414.out 2).trans rfl
 have hcz85_3 : w18.cell? ⟨gb414, 3, none⟩ = some (.int .i64 a1_3) := (zc BK414.out 3).trans rfl
 have hcz85_4 : w18.cell? ⟨gb414, 4, none⟩ = some (.int .i64 a1_4) := (zc BK414.out 4).trans rfl
 have hcz85_5 : w18.cell? ⟨gb414, 5, none⟩ = some (.int .i64 a1_5) := (zc BK414.out 5).trans rfl
 have hcz85_6 : w18.cell? ⟨gb414, 6, none⟩ = some (.bool a1_6) := (zc BK414.out 6).trans rfl
 have hcz85_7 : w18.cell? ⟨gb414, 7, none⟩ = some (.int .i64 a1_7) := (zc BK414.out 7).trans rfl
 have hcz85_8 : w18.cell? ⟨gb414, 8, none⟩ = some (.int .i64 a1_8) := (zc BK414.out 8).trans rfl
 have hfz85_0 := zf BK414.out 0
 have hfz85_1 := zf BK414.out 1
 have hfz85_2 := zf BK414.out 2
 have hfz85_3 := zf BK414.out 3
 have hfz85_4 := zf BK414.out 4
 have hfz85_5 := zf BK414.out 5
 have hfz85_6 := zf BK414.out 6
 have hfz85_7 := zf BK414.out 7
 have hfz85_8 := zf BK414.out 8
 have hnb86 := NB416_413.out
 have hnc86 := NB413_416.out
 have hnb87 := NB416_415.out
 have hnc87 := NB415_416.out
 have hcz88_0 : w18.cell? ⟨gb416, 0, none⟩ = some (.int .i64 0) := (zc BK416.out 0).trans rfl
 have hcz88_1 : w18.cell? ⟨gb416, 1, none⟩ = some (.string ⟨#[]⟩) := (zc BK416.out 1).trans rfl
 have hcz88_2 : w18.cell? ⟨gb416, 2, none⟩ = some (.int .i64 0) := (zc BK416.out 2).trans rfl
 have hcz88_3 : w18.cell? ⟨gb416, 3, none⟩ = some (.int .i64 0) := (zc BK416.out 3).trans rfl
 have hcz88_4 : w18.cell? ⟨gb416, 4, none⟩ = some (.int .i64 0) := (zc BK416.out 4).trans rfl
 have hcz88_5 : w18.cell? ⟨gb416, 5, none⟩ = some (.int .i64 0) := (zc BK416.out 5).trans rfl
 have hcz88_6 : w18.cell? ⟨gb416, 6, none⟩ = some (.bool false) := (zc BK416.out 6).trans rfl
 have hcz88_7 : w18.cell? ⟨gb416, 7, none⟩ = some (.int .i64 0) := (zc BK416.out 7).trans rfl
 have hcz88_8 : w18.cell? ⟨gb416, 8, none⟩ = some (.int .i64 0) := (zc BK416.out 8).trans rfl
 have hfz88_0 := zf BK416.out 0
 have hfz88_1 := zf BK416.out 1
 have hfz88_2 := zf BK416.out 2
 have hfz88_3 := zf BK416.out 3
 have hfz88_4 := zf BK416.out 4
 have hfz88_5 := zf BK416.out 5
 have hfz88_6 := zf BK416.out 6
 have hfz88_7 := zf BK416.out 7
 have hfz88_8 := zf BK416.out 8
 go_wp2
 refine bodyPost_ret (results_ct rfl _ _ gb416 31 #[.int .i64 a1_0, .string a1_1, .int .i64 a1_2, .int .i64 a1_3, .int .i64 a1_4, .int .i64 a1_5, .bool a1_6, .int .i64 a1_7, .int .i64 a1_8] (0, 0) _ rfl (by (with_reducible repeat (first | apply zn | apply zd | apply za)); refine zp (cs := #[.int .i64 a1_0, .string a1_1, .int .i64 a1_2, .int .i64 a1_3, .int .i64 a1_4, .int .i64 a1_5, .bool a1_6, .int .i64 a1_7, .int .i64 0]) ?_ 8 _ rfl; (with_reducible repeat (first | apply zn | apply zd | apply za)); refine zp (cs := #[.int .i64 a1_0, .string a1_1, .int .i64 a1_2, .int .i64 a1_3, .int .i64 a1_4, .int .i64 a1_5, .bool a1_6, .int .i64 0, .int .i64 0]) ?_ 7 _ rfl; (with_reducible repeat (first | apply zn | apply zd | apply za)); refine zp (cs := #[.int .i64 a1_0, .string a1_1, .int .i64 a1_2, .int .i64 a1_3, .int .i64 a1_4, .int .i64 a1_5, .bool false, .int .i64 0, .int .i64 0]) ?_ 6 _ rfl; (with_reducible repeat (first | apply zn | apply zd | apply za)); refine zp (cs := #[.int .i64 a1_0, .string a1_1, .int .i64 a1_2, .int .i64 a1_3, .int .i64 a1_4, .int .i64 0, .bool false, .int .i64 0, .int .i64 0]) ?_ 5 _ rfl; (with_reducible repeat (first | apply zn | apply zd | apply za)); refine zp (cs := #[.int .i64 a1_0, .string a1_1, .int .i64 a1_2, .int .i64 a1_3, .int .i64 0, .int .i64 0, .bool false, .int .i64 0, .int .i64 0]) ?_ 4 _ rfl; (with_reducible repeat (first | apply zn | apply zd | apply za)); refine zp (cs := #[.int .i64 a1_0, .string a1_1, .int .i64 a1_2, .int .i64 0, .int .i64 0, .int .i64 0, .bool false, .int .i64 0, .int .i64 0]) ?_ 3 _ rfl; (with_reducible repeat (first | apply zn | apply zd | apply za)); refine zp (cs := #[.int .i64 a1_0, .string a1_1, .int .i64 0, .int .i64 0, .int .i64 0, .int .i64 0, .bool false, .int .i64 0, .int .i64 0]) ?_ 2 _ rfl; (with_reducible repeat (first | apply zn | apply zd | apply za)); refine zp (cs := #[.int .i64 a1_0, .string ⟨#[]⟩, .int .i64 0, .int .i64 0, .int .i64 0, .int .i64 0, .bool false, .int .i64 0, .int .i64 0]) ?_ 1 _ rfl; (with_reducible repeat (first | apply zn | apply zd | apply za)); refine zp (cs := #[.int .i64 0, .string ⟨#[]⟩, .int .i64 0, .int .i64 0, .int .i64 0, .int .i64 0, .bool false, .int .i64 0, .int .i64 0]) ?_ 0 _ rfl; (with_reducible repeat (first | apply zn | apply zd | apply za)); exact BK416.out) Tryd.underlying31 rfl (by kernel_rfl)) rfl ?_
 exact ⟨by first | rfl | simp [*], by repeat (first | (with_reducible first | exact HB.out | apply pa | apply pd | apply pe | refine zs ?_ GE413.out | refine zs ?_ GE414.out | refine zs ?_ GE415.out | refine zs ?_ GE416.out) | exact HB.out)⟩
def saga_Cancel.f (k : Nat) (a0_0 : ByteArray) (a0_1 : Int) (l0_2 : List (S70)) (a1_0 : Int) (a1_1 : ByteArray) (a1_2 : Int) (a1_3 : Int) (a1_4 : Int) (a1_5 : Int) (a1_6 : Bool) (a1_7 : Int) (a1_8 : Int) (a2 : Int) : Option (Int × ByteArray × Int × Int × Int × Int × Bool × Int × Int × Int) := (saga_check.f k a0_0 a0_1 l0_2 a1_0 a1_1 a1_2 a1_3 a1_4 a1_5 a1_6 a1_7 a1_8 a2).bind fun t440 => (if t440 = 0 then (if a1_3 = 0 then ((saga_back.f a1_0 a1_1 a1_2 a1_3 a1_4 a1_5 a1_6 a1_7 a1_8 a2).bind fun bt441 => (some (bt441.1, bt441.2.1, bt441.2.2.1, bt441.2.2.2.1, bt441.2.2.2.2.1, bt441.2.2.2.2.2.1, bt441.2.2.2.2.2.2.1, bt441.2.2.2.2.2.2.2.1, bt441.2.2.2.2.2.2.2.2, 0))) else (some (a1_0, a1_1, a1_2, a1_3, a1_4, a1_5, a1_6, a1_7, a1_8, 9))) else (some (a1_0, a1_1, a1_2, a1_3, a1_4, a1_5, a1_6, a1_7, a1_8, t440)))
theorem saga_Cancel.calls (k : Nat) (a0_0 : ByteArray) (a0_1 : Int) (A0_2 : Option Addr) (c0_2 : Nat) (l0_2 : List (S70)) (a1_0 : Int) (a1_1 : ByteArray) (a1_2 : Int) (a1_3 : Int) (a1_4 : Int) (a1_5 : Int) (a1_6 : Bool) (a1_7 : Int) (a1_8 : Int) (a2 : Int) (r1 : Int) (r2 : ByteArray) (r3 : Int) (r4 : Int) (r5 : Int) (r6 : Int) (r7 : Bool) (r8 : Int) (r9 : Int) (r10 : Int) (w : World) (hr0_2 : Kd.C k70 w A0_2 l0_2.length l0_2) (hc0_2 : l0_2.length ≤ c0_2) (hTab_ : Tabs_ w) (h : saga_Cancel.f k a0_0 a0_1 l0_2 a1_0 a1_1 a1_2 a1_3 a1_4 a1_5 a1_6 a1_7 a1_8 a2 = some (r1, r2, r3, r4, r5, r6, r7, r8, r9, r10)) :
 Calls Tryd.prog 14 #[.agg #[.string a0_0, .int .i64 a0_1, .slice A0_2 l0_2.length c0_2], .agg #[.int .i64 a1_0, .string a1_1, .int .i64 a1_2, .int .i64 a1_3, .int .i64 a1_4, .int .i64 a1_5, .bool a1_6, .int .i64 a1_7, .int .i64 a1_8], .int .i64 a2] w fun e w' => e = .returned (.tuple #[.agg #[.int .i64 r1, .string r2, .int .i64 r3, .int .i64 r4, .int .i64 r5, .int .i64 r6, .bool r7, .int .i64 r8, .int .i64 r9], .int .i64 r10]) ∧ Below w.heap.size w w' := by
 have HT := ak_ hTab_
 clear hTab_
 have hu24 := Tryd.underlying24
 have hu31 := Tryd.underlying31
 have HR0_2 := ak_ hr0_2
 have HC0_2 := ak_ hc0_2
 clear hr0_2 hc0_2
 have HB := ak_ (Below.refl w.heap.size w)
 have H : ((saga_check.f k a0_0 a0_1 l0_2 a1_0 a1_1 a1_2 a1_3 a1_4 a1_5 a1_6 a1_7 a1_8 a2).bind fun t440 => (if t440 = 0 then (if a1_3 = 0 then ((saga_back.f a1_0 a1_1 a1_2 a1_3 a1_4 a1_5 a1_6 a1_7 a1_8 a2).bind fun bt441 => (some (bt441.1, bt441.2.1, bt441.2.2.1, bt441.2.2.2.1, bt441.2.2.2.2.1, bt441.2.2.2.2.2.1, bt441.2.2.2.2.2.2.1, bt441.2.2.2.2.2.2.2.1, bt441.2.2.2.2.2.2.2.2, 0))) else (some (a1_0, a1_1, a1_2, a1_3, a1_4, a1_5, a1_6, a1_7, a1_8, 9))) else (some (a1_0, a1_1, a1_2, a1_3, a1_4, a1_5, a1_6, a1_7, a1_8, t440)))) = some (r1, r2, r3, r4, r5, r6, r7, r8, r9, r10) := h
 clear h
 replace H := ob_ H
 obtain ⟨t440, A40, H⟩ := H
 replace H : (if t440 = 0 then (if a1_3 = 0 then ((saga_back.f a1_0 a1_1 a1_2 a1_3 a1_4 a1_5 a1_6 a1_7 a1_8 a2).bind fun bt441 => (some (bt441.1, bt441.2.1, bt441.2.2.1, bt441.2.2.2.1, bt441.2.2.2.2.1, bt441.2.2.2.2.2.1, bt441.2.2.2.2.2.2.1, bt441.2.2.2.2.2.2.2.1, bt441.2.2.2.2.2.2.2.2, 0))) else (some (a1_0, a1_1, a1_2, a1_3, a1_4, a1_5, a1_6, a1_7, a1_8, 9))) else (some (a1_0, a1_1, a1_2, a1_3, a1_4, a1_5, a1_6, a1_7, a1_8, t440))) = some (r1, r2, r3, r4, r5, r6, r7, r8, r9, r10) := H
 have A4 := ak_ A40
 clear A40
 have HF5 := ak_ H
 clear H
 go_enter Tryd.func14, Tryd.ntmps14
 go_upto_if 13 with (first | ((with_reducible refine gate_dst (N := 3) rfl ?_); refine box_event ?hg (N := 3) ?hd (cs := #[.string a0_0, .int .i64 a0_1, .slice A0_2 l0_2.length c0_2]) (t := 24) ?hr ?_; (case hd | hg => rfl); (case hr => first | (go_simp; done) | (go_simp; rfl)); intro gb437 hg w6 hbox hb; have n0_ := ak_ (ps (by with_reducible repeat first | exact HB.out | apply pa | apply pd | apply pe) hb); have n1_ := ak_ (hbox); have n2_ := ak_ ((by rw [hg]; exact (below_size (by with_reducible repeat first | exact HB.out | apply pa | apply pd | apply pe)) : w.heap.size ≤ gb437)); have n3_ := ak_ ((by rw [hg]; exact (below_size (by with_reducible repeat first | exact HB.out | apply pa | apply pd | apply pe)) : w.heap.size ≤ gb437)); clear HB; have HB := n0_; have BK437 := n1_; have GW437 := n2_; have GE437 := n3_; clear n0_ n1_ n2_ n3_ hb hbox hg) | ((with_reducible refine gate_dst (N := 4) rfl ?_); refine box_event ?hg (N := 4) ?hd (cs := #[.int .i64 a1_0, .string a1_1, .int .i64 a1_2, .int .i64 a1_3, .int .i64 a1_4, .int .i64 a1_5, .bool a1_6, .int .i64 a1_7, .int .i64 a1_8]) (t := 31) ?hr ?_; (case hd | hg => rfl); (case hr => first | (go_simp; done) | (go_simp; rfl)); intro gb438 hg w7 hbox hb; have n0_ := ak_ (blk_below (g := gb437) (o := .cells #[.string a0_0, .int .i64 a0_1, .slice A0_2 l0_2.length c0_2] 24 (0, 0)) (by (with_reducible repeat (first | apply zn | apply zd | apply za)); exact BK437.out) hb); have n1_ := ak_ (ps (by with_reducible repeat first | exact HB.out | apply pa | apply pd | apply pe | refine zs ?_ GE437.out) hb); have n2_ := ak_ (hbox); have n3_ := ak_ ((by rw [hg]; exact (below_size (by with_reducible repeat first | exact HB.out | apply pa | apply pd | apply pe | refine zs ?_ GE437.out)) : w.heap.size ≤ gb438)); have n4_ := ak_ ((by rw [hg]; exact (below_size (by with_reducible repeat first | exact HB.out | apply pa | apply pd | apply pe | refine zs ?_ GE437.out)) : w.heap.size ≤ gb438)); have n5_ := ak_ ((by rw [hg]; exact Nat.ne_of_lt (blk_lt (g := gb437) (by (with_reducible repeat (first | apply zn | apply zd | apply za)); exact BK437.out)) : gb437 ≠ gb438)); have n6_ := ak_ ((by rw [hg]; exact Nat.ne_of_gt (blk_lt (g := gb437) (by (with_reducible repeat (first | apply zn | apply zd | apply za)); exact BK437.out)) : gb438 ≠ gb437)); clear BK437 HB; have BK437 := n0_; have HB := n1_; have BK438 := n2_; have GW438 := n3_; have GE438 := n4_; have NB437_438 := n5_; have NB438_437 := n6_; clear n0_ n1_ n2_ n3_ n4_ n5_ n6_ hb hbox hg) | ((with_reducible refine gate_dst (N := 6) rfl ?_); refine box_event ?hg (N := 6) ?hd (cs := #[.int .i64 0, .string ⟨#[]⟩, .int .i64 0, .int .i64 0, .int .i64 0, .int .i64 0, .bool false, .int .i64 0, .int .i64 0]) (t := 31) ?hr ?_; (case hd | hg => rfl); (case hr => first | (go_simp; done) | (go_simp; rfl)); intro gb439 hg w8 hbox hb; have n0_ := ak_ (blk_below (g := gb437) (o := .cells #[.string a0_0, .int .i64 a0_1, .slice A0_2 l0_2.length c0_2] 24 (0, 0)) (by (with_reducible repeat (first | apply zn | apply zd | apply za)); exact BK437.out) hb); have n1_ := ak_ (blk_below (g := gb438) (o := .cells #[.int .i64 a1_0, .string a1_1, .int .i64 a1_2, .int .i64 a1_3, .int .i64 a1_4, .int .i64 a1_5, .bool a1_6, .int .i64 a1_7, .int .i64 a1_8] 31 (0, 0)) (by (with_reducible repeat (first | apply zn | apply zd | apply za)); exact BK438.out) hb); have n2_ := ak_ (ps (by with_reducible repeat first | exact HB.out | apply pa | apply pd | apply pe | refine zs ?_ GE437.out | refine zs ?_ GE438.out) hb); have n3_ := ak_ (hbox); have n4_ := ak_ ((by rw [hg]; exact (below_size (by with_reducible repeat first | exact HB.out | apply pa | apply pd | apply pe | refine zs ?_ GE437.out | refine zs ?_ GE438.out)) : w.heap.size ≤ gb439)); have n5_ := ak_ ((by rw [hg]; exact (below_size (by with_reducible repeat first | exact HB.out | apply pa | apply pd | apply pe | refine zs ?_ GE437.out | refine zs ?_ GE438.out)) : w.heap.size ≤ gb439)); have n6_ := ak_ ((by rw [hg]; exact Nat.ne_of_lt (blk_lt (g := gb437) (by (with_reducible repeat (first | apply zn | apply zd | apply za)); exact BK437.out)) : gb437 ≠ gb439)); have n7_ := ak_ ((by rw [hg]; exact Nat.ne_of_gt (blk_lt (g := gb437) (by (with_reducible repeat (first | apply zn | apply zd | apply za)); exact BK437.out)) : gb439 ≠ gb437)); have n8_ := ak_ ((by rw [hg]; exact Nat.ne_of_lt (blk_lt (g := gb438) (by (with_reducible repeat (first | apply zn | apply zd | apply za)); exact BK438.out)) : gb438 ≠ gb439)); have n9_ := ak_ ((by rw [hg]; exact Nat.ne_of_gt (blk_lt (g := gb438) (by (with_reducible repeat (first | apply zn | apply zd | apply za)); exact BK438.out)) : gb439 ≠ gb438)); clear BK437 BK438 HB; have BK437 := n0_; have BK438 := n1_; have HB := n2_; have BK439 := n3_; have GW439 := n4_; have GE439 := n5_; have NB437_439 := n6_; have NB439_437 := n7_; have NB438_439 := n8_; have NB439_438 := n9_; clear n0_ n1_ n2_ n3_ n4_ n5_ n6_ n7_ n8_ n9_ hb hbox hg; have hnb9 := NB437_438.out; have hnc9 := NB438_437.out; have hnb10 := NB437_439.out; have hnc10 := NB439_437.out; have hcz11_0 : w8.cell? ⟨gb437, 0, none⟩ = some (.string a0_0) := (zc BK437.out 0).trans rfl; have hcz11_1 : w8.cell? ⟨gb437, 1, none⟩ = some (.int .i64 a0_1) := (zc BK437.out 1).trans rfl; have hcz11_2 : w8.cell? ⟨gb437, 2, none⟩ = some (.slice A0_2 l0_2.length c0_2) := (zc BK437.out 2).trans rfl; have hfz11_0 := zf BK437.out 0; have hfz11_1 := zf BK437.out 1; have hfz11_2 := zf BK437.out 2; have hnb12 := NB438_439.out; have hnc12 := NB439_438.out; have hcz13_0 : w8.cell? ⟨gb438, 0, none⟩ = some (.int .i64 a1_0) := (zc BK438.out 0).trans rfl; have hcz13_1 : w8.cell? ⟨gb438, 1, none⟩ = some (.string a1_1) := (zc BK438.out 1).trans rfl; have hcz13_2 : w8.cell? ⟨gb438, 2, none⟩ = some (.int .i64 a1_2) := (zc BK438.out 2).trans rfl; have hcz13_3 : w8.cell? ⟨gb438, 3, none⟩ = some (.int .i64 a1_3) := (zc BK438.out 3).trans rfl; have hcz13_4 : w8.cell? ⟨gb438, 4, none⟩ = some (.int .i64 a1_4) := (zc BK438.out 4).trans rfl; have hcz13_5 : w8.cell? ⟨gb438, 5, none⟩ = some (.int .i64 a1_5) := (zc BK438.out 5).trans rfl; have hcz13_6 : w8.cell? ⟨gb438, 6, none⟩ = some (.bool a1_6) := (zc BK438.out 6).trans rfl; have hcz13_7 : w8.cell? ⟨gb438, 7, none⟩ = some (.int .i64 a1_7) := (zc BK438.out 7).trans rfl; have hcz13_8 : w8.cell? ⟨gb438, 8, none⟩ = some (.int .i64 a1_8) := (zc BK438.out 8).trans rfl; have hfz13_0 := zf BK438.out 0; have hfz13_1 := zf BK438.out 1; have hfz13_2 := zf BK438.out 2; have hfz13_3 := zf BK438.out 3; have hfz13_4 := zf BK438.out 4; have hfz13_5 := zf BK438.out 5; have hfz13_6 := zf BK438.out 6; have hfz13_7 := zf BK438.out 7; have hfz13_8 := zf BK438.out 8) | ((with_reducible refine gate_callee (f := 34) rfl ?_); refine goesL_ (some 12) rfl rfl Tryd.func34 (by kernel_rfl) rfl #[.agg #[.string a0_0, .int .i64 a0_1, .slice A0_2 l0_2.length c0_2], .agg #[.int .i64 a1_0, .string a1_1, .int .i64 a1_2, .int .i64 a1_3, .int .i64 a1_4, .int .i64 a1_5, .bool a1_6, .int .i64 a1_7, .int .i64 a1_8], .int .i64 a2] rfl (by (try simp only [mt_, mc_, mn_]); first | done | rfl) ?_; (with_reducible refine (saga_check.calls k a0_0 a0_1 _ _ l0_2 a1_0 a1_1 a1_2 a1_3 a1_4 a1_5 a1_6 a1_7 a1_8 a2 t440 _ ?side1 ?side2 ?tab_ A4.out).mono ?_); (case tab_ => first | exact HT.out | exact Tabs_.below HT.out (by with_reducible repeat first | exact HB.out | apply pa | apply pd | apply pe)); (case side1 => repeat (first | exact (Kd.C_below HR0_2.out HB.out) | (with_reducible refine Kd.C_alloc ?_ _) | (with_reducible refine Kd.C_drewN ?_ _) | (with_reducible refine Kd.C_drew ?_))); (case side2 => exact HC0_2.out); rintro e w14 ⟨rfl, hb⟩; refine ⟨_, rfl, ?_⟩; have n0_ := ak_ (blk_below (g := gb437) (o := .cells #[.string a0_0, .int .i64 a0_1, .slice A0_2 l0_2.length c0_2] 24 (0, 0)) (by (with_reducible repeat (first | apply zn | apply zd | apply za)); exact BK437.out) hb); have n1_ := ak_ (blk_below (g := gb438) (o := .cells #[.int .i64 a1_0, .string a1_1, .int .i64 a1_2, .int .i64 a1_3, .int .i64 a1_4, .int .i64 a1_5, .bool a1_6, .int .i64 a1_7, .int .i64 a1_8] 31 (0, 0)) (by (with_reducible repeat (first | apply zn | apply zd | apply za)); exact BK438.out) hb); have n2_ := ak_ (blk_below (g := gb439) (o := .cells #[.int .i64 0, .string ⟨#[]⟩, .int .i64 0, .int .i64 0, .int .i64 0, .int .i64 0, .bool false, .int .i64 0, .int .i64 0] 31 (0, 0)) (by (with_reducible repeat (first | apply zn | apply zd | apply za)); exact BK439.out) hb); have n3_ := ak_ (ps (by with_reducible repeat first | exact HB.out | apply pa | apply pd | apply pe | refine zs ?_ GE437.out | refine zs ?_ GE438.out | refine zs ?_ GE439.out) hb); clear BK437 BK438 BK439 HB; have BK437 := n0_; have BK438 := n1_; have BK439 := n2_; have HB := n3_; clear n0_ n1_ n2_ n3_))
 (try simp only [Act.put, sa_, sz_, ss_])
 have H := HF5.out
 clear HF5
 by_cases c15 : t440 = 0
 · rw [if_pos c15] at H
   have c15b0 : (t440 == 0) = true := beq_iff_eq.mpr c15
   have c15b1 : (t440 != 0) = false := bne_eq_false_iff_eq.mpr c15
   clear c15
   (first | rw [c15b0] | (simp only [i64_w, i32_w]; rw [c15b0]) | skip)
   have HF16 := ak_ H
   clear H
   have hnb17 := NB438_437.out
   have hnc17 := NB437_438.out
   have hnb18 := NB438_439.out
   have hnc18 := NB439_438.out
   have hcz19_0 : w14.cell? ⟨gb438, 0, none⟩ = some (.int .i64 a1_0) := (zc BK438.out 0).trans rfl
   have hcz19_1 : w14.cell? ⟨gb438, 1, none⟩ = some (.string a1_1) := (zc BK438.out 1).trans rfl
   have hcz19_2 : w14.cell? ⟨gb438, 2, none⟩ = some (.int .i64 a1_2) := (zc BK438.out 2).trans rfl
   have hcz19_3 : w14.cell? ⟨gb438, 3, none⟩ = some (.int .i64 a1_3) := (zc BK438.out 3).trans rfl
   have hcz19_4 : w14.cell? ⟨gb438, 4, none⟩ = some (.int .i64 a1_4) := (zc BK438.out 4).trans rfl
   have hcz19_5 : w14.cell? ⟨gb438, 5, none⟩ = some (.int .i64 a1_5) := (zc BK438.out 5).trans rfl
   have hcz19_6 : w14.cell? ⟨gb438, 6, none⟩ = some (.bool a1_6) := (zc BK438.out 6).trans rfl
   have hcz19_7 : w14.cell? ⟨gb438, 7, none⟩ = some (.int .i64 a1_7) := (zc BK438.out 7).trans rfl
   have hcz19_8 : w14.cell? ⟨gb438, 8, none⟩ = some (.int .i64 a1_8) := (zc BK438.out 8).trans rfl
   have hfz19_0 := zf BK438.out 0
   have hfz19_1 := zf BK438.out 1
   have hfz19_2 := zf BK438.out 2
   have hfz19_3 := zf BK438.out 3
   have hfz19_4 := zf BK438.out 4
   have hfz19_5 := zf BK438.out 5
   have hfz19_6 := zf BK438.out 6
   have hfz19_7 := zf BK438.out 7
   have hfz19_8 := zf BK438.out 8
   go_upto_if 18 with (fail)
   have H := HF16.out
   clear HF16
   by_cases c20 : a1_3 = 0
   · rw [if_pos c20] at H
     have c20b0 : (a1_3 == 0) = true := beq_iff_eq.mpr c20
     have c20b1 : (a1_3 != 0) = false := bne_eq_false_iff_eq.mpr c20
     clear c20
     (first | rw [c20b0] | (simp only [i64_w, i32_w]; rw [c20b0]) | skip)
     replace H := ob_ H
     obtain ⟨⟨t441, t442, t443, t444, t445, t446, t447, t448, t449⟩, A210, H⟩ := H
     replace H : (some (t441, t442, t443, t444, t445, t446, t447, t448, t449, 0)) = some (r1, r2, r3, r4, r5, r6, r7, r8, r9, r10) := H
     have A21 := ak_ A210
     clear A210
     simp only [Option.some.injEq, Prod.mk.injEq] at H
     obtain ⟨rfl, rfl, rfl, rfl, rfl, rfl, rfl, rfl, rfl, rfl⟩ := H
     have hnb22 := NB438_437.out
     have hnc22 := NB437_438.out
     have hnb23 := NB438_439.out
     have hnc23 := NB439_438.out
     have hcz24_0 : w14.cell? ⟨gb438, 0, none⟩ = some (.int .i64 a1_0) := (zc BK438.out 0).trans rfl
     have hcz24_1 : w14.cell? ⟨gb438, 1, none⟩ = some (.string a1_1) := (zc BK438.out 1).trans rfl
     have hcz24_2 : w14.cell? ⟨gb438, 2, none⟩ = some (.int .i64 a1_2) := (zc BK438.out 2).trans rfl
     have hcz24_3 : w14.cell? ⟨gb438, 3, none⟩ = some (.int .i64 a1_3) := (zc BK438.out 3).trans rfl
     have hcz24_4 : w14.cell? ⟨gb438, 4, none⟩ = some (.int .i64 a1_4) := (zc BK438.out 4).trans rfl
     have hcz24_5 : w14.cell? ⟨gb438, 5, none⟩ = some (.int .i64 a1_5) := (zc BK438.out 5).trans rfl
     have hcz24_6 : w14.cell? ⟨gb438, 6, none⟩ = some (.bool a1_6) := (zc BK438.out 6).trans rfl
     have hcz24_7 : w14.cell? ⟨gb438, 7, none⟩ = some (.int .i64 a1_7) := (zc BK438.out 7).trans rfl
     have hcz24_8 : w14.cell? ⟨gb438, 8, none⟩ = some (.int .i64 a1_8) := (zc BK438.out 8).trans rfl
     have hfz24_0 := zf BK438.out 0
     have hfz24_1 := zf BK438.out 1
     have hfz24_2 := zf BK438.out 2
     have hfz24_3 := zf BK438.out 3
     have hfz24_4 := zf BK438.out 4
     have hfz24_5 := zf BK438.out 5
     have hfz24_6 := zf BK438.out 6
     have hfz24_7 := zf BK438.out 7
     have hfz24_8 := zf BK438.out 8
     go_wp2_with (first | ((with_reducible refine gate_callee (f := 41) rfl ?_); refine goesL_ (some 25) rfl rfl Tryd.func41 (by kernel_rfl) rfl #[.agg #[.int .i64 a1_0, .string a1_1, .int .i64 a1_2, .int .i64 a1_3, .int .i64 a1_4, .int .i64 a1_5, .bool a1_6, .int .i64 a1_7, .int .i64 a1_8], .int .i64 a2] rfl (by (try simp only [mt_, mc_, mn_]); first | done | rfl) ?_; (with_reducible refine (saga_back.calls a1_0 a1_1 a1_2 a1_3 a1_4 a1_5 a1_6 a1_7 a1_8 a2 t441 t442 t443 t444 t445 t446 t447 t448 t449 _ A21.out).mono ?_); rintro e w25 ⟨rfl, hb⟩; refine ⟨_, rfl, ?_⟩; have n0_ := ak_ (blk_below (g := gb437) (o := .cells #[.string a0_0, .int .i64 a0_1, .slice A0_2 l0_2.length c0_2] 24 (0, 0)) (by (with_reducible repeat (first | apply zn | apply zd | apply za)); exact BK437.out) hb); have n1_ := ak_ (blk_below (g := gb438) (o := .cells #[.int .i64 a1_0, .string a1_1, .int .i64 a1_2, .int .i64 a1_3, .int .i64 a1_4, .int .i64 a1_5, .bool a1_6, .int .i64 a1_7, .int .i64 a1_8] 31 (0, 0)) (by (with_reducible repeat (first | apply zn | apply zd | apply za)); exact BK438.out) hb); have n2_ := ak_ (blk_below (g := gb439) (o := .cells #[.int .i64 0, .string ⟨#[]⟩, .int .i64 0, .int .i64 0, .int .i64 0, .int .i64 0, .bool false, .int .i64 0, .int .i64 0] 31 (0, 0)) (by (with_reducible repeat (first | apply zn | apply zd | apply za)); exact BK439.out) hb); have n3_ := ak_ (ps (by with_reducible repeat first | exact HB.out | apply pa | apply pd | apply pe | refine zs ?_ GE437.out | refine zs ?_ GE438.out | refine zs ?_ GE439.out) hb); clear BK437 BK438 BK439 HB; have BK437 := n0_; have BK438 := n1_; have BK439 := n2_; have HB := n3_; clear n0_ n1_ n2_ n3_; have hnb26 := NB439_437.out; have hnc26 := NB437_439.out; have hcz27_0 : w25.cell? ⟨gb439, 0, none⟩ = some (.int .i64 0) := (zc BK439.out 0).trans rfl; have hcz27_1 : w25.cell? ⟨gb439, 1, none⟩ = some (.string ⟨#[]⟩) := (zc BK439.out 1).trans rfl; have hcz27_2 : w25.cell? ⟨gb439, 2, none⟩ = some (.int .i64 0) := (zc BK439.out 2).trans rfl; have hcz27_3 : w25.cell? ⟨gb439, 3, none⟩ = some (.int .i64 0) := (zc BK439.out 3).trans rfl; have hcz27_4 : w25.cell? ⟨gb439, 4, none⟩ = some (.int .i64 0) := (zc BK439.out 4).trans rfl; have hcz27_5 : w25.cell? ⟨gb439, 5, none⟩ = some (.int .i64 0) := (zc BK439.out 5).trans rfl; have hcz27_6 : w25.cell? ⟨gb439, 6, none⟩ = some (.bool false) := (zc BK439.out 6).trans rfl; have hcz27_7 : w25.cell? ⟨gb439, 7, none⟩ = some (.int .i64 0) := (zc BK439.out 7).trans rfl; have hcz27_8 : w25.cell? ⟨gb439, 8, none⟩ = some (.int .i64 0) := (zc BK439.out 8).trans rfl; have hfz27_0 := zf BK439.out 0; have hfz27_1 := zf BK439.out 1; have hfz27_2 := zf BK439.out 2; have hfz27_3 := zf BK439.out 3; have hfz27_4 := zf BK439.out 4; have hfz27_5 := zf BK439.out 5; have hfz27_6 := zf BK439.out 6; have hfz27_7 := zf BK439.out 7; have hfz27_8 := zf BK439.out 8))
     refine bodyPost_ret (results_ct rfl _ _ gb439 31 #[.int .i64 t441, .string t442, .int .i64 t443, .int .i64 t444, .int .i64 t445, .int .i64 t446, .bool t447, .int .i64 t448, .int .i64 t449] (0, 0) _ rfl (by (with_reducible repeat (first | apply zn | apply zd | apply za)); refine zp (cs := #[.int .i64 t441, .string t442, .int .i64 t443, .int .i64 t444, .int .i64 t445, .int .i64 t446, .bool t447, .int .i64 t448, .int .i64 0]) ?_ 8 _ rfl; (with_reducible repeat (first | apply zn | apply zd | apply za)); refine zp (cs := #[.int .i64 t441, .string t442, .int .i64 t443, .int .i64 t444, .int .i64 t445, .int .i64 t446, .bool t447, .int .i64 0, .int .i64 0]) ?_ 7 _ rfl; (with_reducible repeat (first | apply zn | apply zd | apply za)); refine zp (cs := #[.int .i64 t441, .string t442, .int .i64 t443, .int .i64 t444, .int .i64 t445, .int .i64 t446, .bool false, .int .i64 0, .int .i64 0]) ?_ 6 _ rfl; (with_reducible repeat (first | apply zn | apply zd | apply za)); refine zp (cs := #[.int .i64 t441, .string t442, .int .i64 t443, .int .i64 t444, .int .i64 t445, .int .i64 0, .bool false, .int .i64 0, .int .i64 0]) ?_ 5 _ rfl; (with_reducible repeat (first | apply zn | apply zd | apply za)); refine zp (cs := #[.int .i64 t441, .string t442, .int .i64 t443, .int .i64 t444, .int .i64 0, .int .i64 0, .bool false, .int .i64 0, .int .i64 0]) ?_ 4 _ rfl; (with_reducible repeat (first | apply zn | apply zd | apply za)); refine zp (cs := #[.int .i64 t441, .string t442, .int .i64 t443, .int .i64 0, .int .i64 0, .int .i64 0, .bool false, .int .i64 0, .int .i64 0]) ?_ 3 _ rfl; (with_reducible repeat (first | apply zn | apply zd | apply za)); refine zp (cs := #[.int .i64 t441, .string t442, .int .i64 0, .int .i64 0, .int .i64 0, .int .i64 0, .bool false, .int .i64 0, .int .i64 0]) ?_ 2 _ rfl; (with_reducible repeat (first | apply zn | apply zd | apply za)); refine zp (cs := #[.int .i64 t441, .string ⟨#[]⟩, .int .i64 0, .int .i64 0, .int .i64 0, .int .i64 0, .bool false, .int .i64 0, .int .i64 0]) ?_ 1 _ rfl; (with_reducible repeat (first | apply zn | apply zd | apply za)); refine zp (cs := #[.int .i64 0, .string ⟨#[]⟩, .int .i64 0, .int .i64 0, .int .i64 0, .int .i64 0, .bool false, .int .i64 0, .int .i64 0]) ?_ 0 _ rfl; (with_reducible repeat (first | apply zn | apply zd | apply za)); exact BK439.out) Tryd.underlying31 rfl (by kernel_rfl)) rfl ?_
     exact ⟨by first | rfl | simp [*], by repeat (first | (with_reducible first | exact HB.out | apply pa | apply pd | apply pe | refine zs ?_ GE437.out | refine zs ?_ GE438.out | refine zs ?_ GE439.out) | exact HB.out)⟩
   rw [if_neg c20] at H
   have c20b0 : (a1_3 == 0) = false := beq_eq_false_iff_ne.mpr c20
   have c20b1 : (a1_3 != 0) = true := bne_iff_ne.mpr c20
   (first | rw [c20b0] | (simp only [i64_w, i32_w]; rw [c20b0]) | skip)
   simp only [Option.some.injEq, Prod.mk.injEq] at H
   obtain ⟨rfl, rfl, rfl, rfl, rfl, rfl, rfl, rfl, rfl, rfl⟩ := H
   have hnb28 := NB438_437.out
   have hnc28 := NB437_438.out
   have hnb29 := NB438_439.out
   have hnc29 := NB439_438.out
   have hcz30_0 : w14.cell? ⟨gb438, 0, none⟩ = some (.int .i64 a1_0) := (zc BK438.out 0).trans rfl
   have hcz30_1 : w14.cell? ⟨gb438, 1, none⟩ = some (.string a1_1) := (zc BK438.out 1).trans rfl
   have hcz30_2 : w14.cell? ⟨gb438, 2, none⟩ = some (.int .i64 a1_2) := (zc BK438.out 2).trans rfl
   have hcz30_3 : w14.cell? ⟨gb438, 3, none⟩ = some (.int .i64 a1_3) := (zc BK438.out 3).trans rfl
   have hcz30_4 : w14.cell? ⟨gb438, 4, none⟩ = some (.int .i64 a1_4) := (zc BK438.out 4).trans rfl
   have hcz30_5 : w14.cell? ⟨gb438, 5, none⟩ = some (.int .i64 a1_5) := (zc BK438.out 5).trans rfl
   have hcz30_6 : w14.cell? ⟨gb438, 6, none⟩ = some (.bool a1_6) := (zc BK438.out 6).trans rfl
   have hcz30_7 : w14.cell? ⟨gb438, 7, none⟩ = some (.int .i64 a1_7) := (zc BK438.out 7).trans rfl
   have hcz30_8 : w14.cell? ⟨gb438, 8, none⟩ = some (.int .i64 a1_8) := (zc BK438.out 8).trans rfl
   have hfz30_0 := zf BK438.out 0
   have hfz30_1 := zf BK438.out 1
   have hfz30_2 := zf BK438.out 2
   have hfz30_3 := zf BK438.out 3
   have hfz30_4 := zf BK438.out 4
   have hfz30_5 := zf BK438.out 5
   have hfz30_6 := zf BK438.out 6
   have hfz30_7 := zf BK438.out 7
   have hfz30_8 := zf BK438.out 8
   have hnb31 := NB439_437.out
   have hnc31 := NB437_439.out
   have hcz32_0 : w14.cell? ⟨gb439, 0, none⟩ = some (.int .i64 0) := (zc BK439.out 0).trans rfl
   have hcz32_1 : w14.cell? ⟨gb439, 1, none⟩ = some (.string ⟨#[]⟩) := (zc BK439.out 1).trans rfl
   have hcz32_2 : w14.cell? ⟨gb439, 2, none⟩ = some (.int .i64 0) := (zc BK439.out 2).trans rfl
   have hcz32_3 : w14.cell? ⟨gb439, 3, none⟩ = some (.int .i64 0) := (zc BK439.out 3).trans rfl
   have hcz32_4 : w14.cell? ⟨gb439, 4, none⟩ = some (.int .i64 0) := (zc BK439.out 4).trans rfl
   have hcz32_5 : w14.cell? ⟨gb439, 5, none⟩ = some (.int .i64 0) := (zc BK439.out 5).trans rfl
   have hcz32_6 : w14.cell? ⟨gb439, 6, none⟩ = some (.bool false) := (zc BK439.out 6).trans rfl
   have hcz32_7 : w14.cell? ⟨gb439, 7, none⟩ = some (.int .i64 0) := (zc BK439.out 7).trans rfl
   have hcz32_8 : w14.cell? ⟨gb439, 8, none⟩ = some (.int .i64 0) := (zc BK439.out 8).trans rfl
   have hfz32_0 := zf BK439.out 0
   have hfz32_1 := zf BK439.out 1
   have hfz32_2 := zf BK439.out 2
   have hfz32_3 := zf BK439.out 3
   have hfz32_4 := zf BK439.out 4
   have hfz32_5 := zf BK439.out 5
   have hfz32_6 := zf BK439.out 6
   have hfz32_7 := zf BK439.out 7
   have hfz32_8 := zf BK439.out 8
   go_wp2
   refine bodyPost_ret (results_ct rfl _ _ gb439 31 #[.int .i64 a1_0, .string a1_1, .int .i64 a1_2, .int .i64 a1_3, .int .i64 a1_4, .int .i64 a1_5, .bool a1_6, .int .i64 a1_7, .int .i64 a1_8] (0, 0) _ rfl (by (with_reducible repeat (first | apply zn | apply zd | apply za)); refine zp (cs := #[.int .i64 a1_0, .string a1_1, .int .i64 a1_2, .int .i64 a1_3, .int .i64 a1_4, .int .i64 a1_5, .bool a1_6, .int .i64 a1_7, .int .i64 0]) ?_ 8 _ rfl; (with_reducible repeat (first | apply zn | apply zd | apply za)); refine zp (cs := #[.int .i64 a1_0, .string a1_1, .int .i64 a1_2, .int .i64 a1_3, .int .i64 a1_4, .int .i64 a1_5, .bool a1_6, .int .i64 0, .int .i64 0]) ?_ 7 _ rfl; (with_reducible repeat (first | apply zn | apply zd | apply za)); refine zp (cs := #[.int .i64 a1_0, .string a1_1, .int .i64 a1_2, .int .i64 a1_3, .int .i64 a1_4, .int .i64 a1_5, .bool false, .int .i64 0, .int .i64 0]) ?_ 6 _ rfl; (with_reducible repeat (first | apply zn | apply zd | apply za)); refine zp (cs := #[.int .i64 a1_0, .string a1_1, .int .i64 a1_2, .int .i64 a1_3, .int .i64 a1_4, .int .i64 0, .bool false, .int .i64 0, .int .i64 0]) ?_ 5 _ rfl; (with_reducible repeat (first | apply zn | apply zd | apply za)); refine zp (cs := #[.int .i64 a1_0, .string a1_1, .int .i64 a1_2, .int .i64 a1_3, .int .i64 0, .int .i64 0, .bool false, .int .i64 0, .int .i64 0]) ?_ 4 _ rfl; (with_reducible repeat (first | apply zn | apply zd | apply za)); refine zp (cs := #[.int .i64 a1_0, .string a1_1, .int .i64 a1_2, .int .i64 0, .int .i64 0, .int .i64 0, .bool false, .int .i64 0, .int .i64 0]) ?_ 3 _ rfl; (with_reducible repeat (first | apply zn | apply zd | apply za)); refine zp (cs := #[.int .i64 a1_0, .string a1_1, .int .i64 0, .int .i64 0, .int .i64 0, .int .i64 0, .bool false, .int .i64 0, .int .i64 0]) ?_ 2 _ rfl; (with_reducible repeat (first | apply zn | apply zd | apply za)); refine zp (cs := #[.int .i64 a1_0, .string ⟨#[]⟩, .int .i64 0, .int .i64 0, .int .i64 0, .int .i64 0, .bool false, .int .i64 0, .int .i64 0]) ?_ 1 _ rfl; (with_reducible repeat (first | apply zn | apply zd | apply za)); refine zp (cs := #[.int .i64 0, .string ⟨#[]⟩, .int .i64 0, .int .i64 0, .int .i64 0, .int .i64 0, .bool false, .int .i64 0, .int .i64 0]) ?_ 0 _ rfl; (with_reducible repeat (first | apply zn | apply zd | apply za)); exact BK439.out) Tryd.underlying31 rfl (by kernel_rfl)) rfl ?_
   exact ⟨by first | rfl | simp [*], by repeat (first | (with_reducible first | exact HB.out | apply pa | apply pd | apply pe | refine zs ?_ GE437.out | refine zs ?_ GE438.out | refine zs ?_ GE439.out) | exact HB.out)⟩
 rw [if_neg c15] at H
 have c15b0 : (t440 == 0) = false := beq_eq_false_iff_ne.mpr c15
 have c15b1 : (t440 != 0) = true := bne_iff_ne.mpr c15
 (first | rw [c15b0] | (simp only [i64_w, i32_w]; rw [c15b0]) | skip)
 simp only [Option.some.injEq, Prod.mk.injEq] at H
 obtain ⟨rfl, rfl, rfl, rfl, rfl, rfl, rfl, rfl, rfl, rfl⟩ := H
 have hnb33 := NB438_437.out
 have hnc33 := NB437_438.out
 have hnb34 := NB438_439.out
 have hnc34 := NB439_438.out
 have hcz35_0 : w14.cell? ⟨gb438, 0, none⟩ = some (.int .i64 a1_0) := (zc BK438.out 0).trans rfl
 have hcz35_1 : w14.cell? ⟨gb438, 1, none⟩ = some (.string a1_1) := (zc BK438.out 1).trans rfl
 have hcz35_2 : w14.cell? ⟨gb438, 2, none⟩ = some (.int .i64 a1_2) := (zc BK438.out 2).trans rfl
 have hcz35_3 : w14.cell? ⟨gb438, 3, none⟩ = some (.int .i64 a1_3) := (zc BK438.out 3).trans rfl
 have hcz35_4 : w14.cell? ⟨gb438, 4, none⟩ = some (.int .i64 a1_4) := (zc BK438.out 4).trans rfl
 have hcz35_5 : w14.cell? ⟨gb438, 5, none⟩ = some (.int .i64 a1_5) := (zc BK438.out 5).trans rfl
 have hcz35_6 : w14.cell? ⟨gb438, 6, none⟩ = some (.bool a1_6) := (zc BK438.out 6).trans rfl
 have hcz35_7 : w14.cell? ⟨gb438, 7, none⟩ = some (.int .i64 a1_7) := (zc BK438.out 7).trans rfl
 have hcz35_8 : w14.cell? ⟨gb438, 8, none⟩ = some (.int .i64 a1_8) := (zc BK438.out 8).trans rfl
 have hfz35_0 := zf BK438.out 0
 have hfz35_1 := zf BK438.out 1
 have hfz35_2 := zf BK438.out 2
 have hfz35_3 := zf BK438.out 3
 have hfz35_4 := zf BK438.out 4
 have hfz35_5 := zf BK438.out 5
 have hfz35_6 := zf BK438.out 6
 have hfz35_7 := zf BK438.out 7
 have hfz35_8 := zf BK438.out 8
 have hnb36 := NB439_437.out
 have hnc36 := NB437_439.out
 have hcz37_0 : w14.cell? ⟨gb439, 0, none⟩ = some (.int .i64 0) := (zc BK439.out 0).trans rfl
 have hcz37_1 : w14.cell? ⟨gb439, 1, none⟩ = some (.string ⟨#[]⟩) := (zc BK439.out 1).trans rfl
 have hcz37_2 : w14.cell? ⟨gb439, 2, none⟩ = some (.int .i64 0) := (zc BK439.out 2).trans rfl
 have hcz37_3 : w14.cell? ⟨gb439, 3, none⟩ = some (.int .i64 0) := (zc BK439.out 3).trans rfl
 have hcz37_4 : w14.cell? ⟨gb439, 4, none⟩ = some (.int .i64 0) := (zc BK439.out 4).trans rfl
 have hcz37_5 : w14.cell? ⟨gb439, 5, none⟩ = some (.int .i64 0) := (zc BK439.out 5).trans rfl
 have hcz37_6 : w14.cell? ⟨gb439, 6, none⟩ = some (.bool false) := (zc BK439.out 6).trans rfl
 have hcz37_7 : w14.cell? ⟨gb439, 7, none⟩ = some (.int .i64 0) := (zc BK439.out 7).trans rfl
 have hcz37_8 : w14.cell? ⟨gb439, 8, none⟩ = some (.int .i64 0) := (zc BK439.out 8).trans rfl
 have hfz37_0 := zf BK439.out 0
 have hfz37_1 := zf BK439.out 1
 have hfz37_2 := zf BK439.out 2
 have hfz37_3 := zf BK439.out 3
 have hfz37_4 := zf BK439.out 4
 have hfz37_5 := zf BK439.out 5
 have hfz37_6 := zf BK439.out 6
 have hfz37_7 := zf BK439.out 7
 have hfz37_8 := zf BK439.out 8
 go_wp2
 refine bodyPost_ret (results_ct rfl _ _ gb439 31 #[.int .i64 a1_0, .string a1_1, .int .i64 a1_2, .int .i64 a1_3, .int .i64 a1_4, .int .i64 a1_5, .bool a1_6, .int .i64 a1_7, .int .i64 a1_8] (0, 0) _ rfl (by (with_reducible repeat (first | apply zn | apply zd | apply za)); refine zp (cs := #[.int .i64 a1_0, .string a1_1, .int .i64 a1_2, .int .i64 a1_3, .int .i64 a1_4, .int .i64 a1_5, .bool a1_6, .int .i64 a1_7, .int .i64 0]) ?_ 8 _ rfl; (with_reducible repeat (first | apply zn | apply zd | apply za)); refine zp (cs := #[.int .i64 a1_0, .string a1_1, .int .i64 a1_2, .int .i64 a1_3, .int .i64 a1_4, .int .i64 a1_5, .bool a1_6, .int .i64 0, .int .i64 0]) ?_ 7 _ rfl; (with_reducible repeat (first | apply zn | apply zd | apply za)); refine zp (cs := #[.int .i64 a1_0, .string a1_1, .int .i64 a1_2, .int .i64 a1_3, .int .i64 a1_4, .int .i64 a1_5, .bool false, .int .i64 0, .int .i64 0]) ?_ 6 _ rfl; (with_reducible repeat (first | apply zn | apply zd | apply za)); refine zp (cs := #[.int .i64 a1_0, .string a1_1, .int .i64 a1_2, .int .i64 a1_3, .int .i64 a1_4, .int .i64 0, .bool false, .int .i64 0, .int .i64 0]) ?_ 5 _ rfl; (with_reducible repeat (first | apply zn | apply zd | apply za)); refine zp (cs := #[.int .i64 a1_0, .string a1_1, .int .i64 a1_2, .int .i64 a1_3, .int .i64 0, .int .i64 0, .bool false, .int .i64 0, .int .i64 0]) ?_ 4 _ rfl; (with_reducible repeat (first | apply zn | apply zd | apply za)); refine zp (cs := #[.int .i64 a1_0, .string a1_1, .int .i64 a1_2, .int .i64 0, .int .i64 0, .int .i64 0, .bool false, .int .i64 0, .int .i64 0]) ?_ 3 _ rfl; (with_reducible repeat (first | apply zn | apply zd | apply za)); refine zp (cs := #[.int .i64 a1_0, .string a1_1, .int .i64 0, .int .i64 0, .int .i64 0, .int .i64 0, .bool false, .int .i64 0, .int .i64 0]) ?_ 2 _ rfl; (with_reducible repeat (first | apply zn | apply zd | apply za)); refine zp (cs := #[.int .i64 a1_0, .string ⟨#[]⟩, .int .i64 0, .int .i64 0, .int .i64 0, .int .i64 0, .bool false, .int .i64 0, .int .i64 0]) ?_ 1 _ rfl; (with_reducible repeat (first | apply zn | apply zd | apply za)); refine zp (cs := #[.int .i64 0, .string ⟨#[]⟩, .int .i64 0, .int .i64 0, .int .i64 0, .int .i64 0, .bool false, .int .i64 0, .int .i64 0]) ?_ 0 _ rfl; (with_reducible repeat (first | apply zn | apply zd | apply za)); exact BK439.out) Tryd.underlying31 rfl (by kernel_rfl)) rfl ?_
 exact ⟨by first | rfl | simp [*], by repeat (first | (with_reducible first | exact HB.out | apply pa | apply pd | apply pe | refine zs ?_ GE437.out | refine zs ?_ GE438.out | refine zs ?_ GE439.out) | exact HB.out)⟩
theorem key_fS (n : ByteArray) (dl : Int) (l : List S70) (k : Nat) (id sp : Int) (u : Bool) (hi : 0 ≤ id ∧ id ≤ 9223372036854775807) (h0 : 0 ≤ sp) (h1 : sp < (l.length : Int)) (hs : (rd_T70 l sp).f0.size ≤ 140737488351232) :
    def_Key.f (k + 1) id n dl l sp u = some ((⟨(Lib.itoa id).toArray⟩ : ByteArray) ++ (⟨#[47]⟩ : ByteArray) ++ (rd_T70 l sp).f0 ++ (⟨#[47]⟩ : ByteArray) ++ (if u = true then (⟨#[117, 110, 100, 111]⟩ : ByteArray) else (⟨#[100, 111]⟩ : ByteArray))) := by
  have hl := Lib.itoa_length_le id (by omega) hi.2
  have hit : (⟨(Lib.itoa id).toArray⟩ : ByteArray).size ≤ 21 := by
    show (Lib.itoa id).toArray.size ≤ 21
    rw [List.size_toArray]
    exact hl
  have e47 : (⟨#[47]⟩ : ByteArray).size = 1 := rfl
  unfold def_Key.f
  rw [if_neg (by omega), if_neg (by omega), df_ (by omega), def_Key.j0, if_neg (by decide)]
  unfold strconv_Itoa_69.f def_way.f
  rw [if_pos (by omega), bs_]
  generalize (⟨(Lib.itoa id).toArray⟩ : ByteArray) = s at *
  generalize rd_T70 l sp = x at *
  rw [if_pos (by omega), if_pos h0, if_pos h1, if_pos (by rw [ByteArray.size_append, e47]; omega), if_pos (by rw [ByteArray.size_append, ByteArray.size_append, e47]; omega)]
  cases u
  · have e : (⟨#[100, 111]⟩ : ByteArray).size = 2 := rfl
    rw [if_neg (by decide), bs_, if_pos (by rw [ByteArray.size_append, ByteArray.size_append, ByteArray.size_append, e47, e]; omega)]
    rfl
  · have e : (⟨#[117, 110, 100, 111]⟩ : ByteArray).size = 4 := rfl
    rw [if_pos rfl, bs_, if_pos (by rw [ByteArray.size_append, ByteArray.size_append, ByteArray.size_append, e47, e]; omega)]
    rfl
theorem nm_rd {l : List S70} {m : Nat} (hn : NmS m l) {sp : Int} (h0 : 0 ≤ sp) (h1 : sp < (l.length : Int)) : (rd_T70 l sp).f0.size ≤ m := by
  obtain ⟨j, rfl⟩ := Int.eq_ofNat_of_zero_le h0
  have hj : j < l.length := by omega
  rw [rdS_at hj]
  exact (hn _ (List.getElem_mem hj)).1
theorem emit_ok {n : ByteArray} {dl : Int} {l : List S70} {m : Nat} (hm : m ≤ 140737488351232) (hn : NmS m l) (hz : n.size ≤ m) (k : Nat) (hk : 50 ≤ k) (id : Int) (df : ByteArray) (st ph sp tr : Int) (out : Bool) (at_ sk now : Int) (ht : -9223372036854775808 ≤ tr ∧ tr ≤ 9223372036854775807)
    (hg : goodS n dl l id df st ph sp tr out at_ sk = true) (ho : overS ph = false) (hw : 0 ≤ now ∧ now ≤ 1099511627776) (hM : maySg dl l st ph sp tr out at_ now = true) (hi : 0 ≤ id ∧ id ≤ 9223372036854775807) (h0 : 0 ≤ sp) (h1 : sp < (l.length : Int)) :
    ∃ pa key, saga_Emit.f k n dl l id df st ph sp tr out at_ sk now = some (id, df, st, ph, sp, wrap64 (tr + 1), true, ofT (ofT now + ofT (rd_T70 l sp).f2), sk, id, sp, (ph == 1), wrap64 (tr + 1), pa, key, 0) := by
  obtain ⟨k, rfl⟩ : ∃ j, k = j + 3 := ⟨k - 3, by omega⟩
  have hc : checkS (goodS n dl l id df st ph sp tr out at_ sk) ph now = 0 := by
    unfold checkS
    rw [hg, if_pos ⟨rfl, hw⟩, ho]
    rfl
  unfold saga_Emit.f
  rw [check_fS n dl l hm hn hz (k + 3) (by omega) id df st ph sp tr out at_ sk now ht, bs_, hc, if_pos rfl, may_fS n dl l id df st ph sp tr out at_ sk now h0 h1 ht, bs_, hM, if_pos rfl, if_pos ⟨h0, h1⟩, tickAdd_f, bs_,
    key_fS n dl l (k + 2) id sp (ph == 1) hi h0 h1 (Nat.le_trans (nm_rd hn h0 h1) hm), bs_]
  exact ⟨_, _, rfl⟩
def doneS (len id : Int) (df : ByteArray) (st ph sp tr at_ sk now : Int) : Int × ByteArray × Int × Int × Int × Int × Bool × Int × Int :=
  if ph = 0 then (if sp = len - 1 then (id, df, st, 3, sp, tr, false, at_, sk) else (id, df, st, 0, sp + 1, 0, false, now, sk))
  else if sp > 0 then (id, df, st, 1, sp - 1, 0, false, now, sk) else if sk > 0 then (id, df, st, 5, sp, tr, false, at_, sk) else (id, df, st, 4, sp, tr, false, at_, sk)
theorem done_f (n : ByteArray) (dl : Int) (l : List S70) (hl : 0 < l.length ∧ l.length ≤ 32) (k : Nat) (id : Int) (df : ByteArray) (st ph sp tr : Int) (out : Bool) (at_ sk now : Int) (h0 : 0 ≤ sp) (h1 : sp < (l.length : Int)) :
    saga_done.f (k + 1) n dl l id df st ph sp tr out at_ sk now = some (doneS (l.length : Int) id df st ph sp tr at_ sk now) := by
  have e1 : wrap64 ((l.length : Int) - 1) = (l.length : Int) - 1 := by unfold wrap64; omega
  have e2 : wrap64 (sp + 1) = sp + 1 := by unfold wrap64; omega
  unfold saga_done.f doneS
  rw [e1]
  by_cases hp : ph = 0
  · rw [if_pos hp, if_pos hp, saga_done.j0]
    by_cases hs : sp = (l.length : Int) - 1
    · rw [if_pos (beq_iff_eq.2 hs), if_pos hs]
      rfl
    · rw [if_neg (fun h => hs (beq_iff_eq.1 h)), if_neg hs, if_pos hp, e2]
      rfl
  · rw [if_neg hp, if_neg hp, saga_done.j0, if_neg (by decide), if_neg hp]
    by_cases hs : sp > 0
    · have e3 : wrap64 (sp - 1) = sp - 1 := by unfold wrap64; omega
      rw [if_pos hs, if_pos hs, e3]
      rfl
    · rw [if_neg hs, if_neg hs]
      split <;> rfl
def accS (ph sp tr : Int) (out : Bool) (rs : Int) (ru : Bool) (rt : Int) (rg : Bool) : Bool :=
  if ph > 1 then false else if (ru != (ph == 1)) = true then false else if rs = sp then (if rt < 1 then false else if rt > tr then false else if rg = true then true else if out = true then rt == tr else false) else false
theorem acc_f (id : Int) (df : ByteArray) (st ph sp tr : Int) (out : Bool) (at_ sk : Int) (ri rs : Int) (ru : Bool) (rt : Int) (rg : Bool) : saga_accepted.f id df st ph sp tr out at_ sk ri rs ru rt rg = some (accS ph sp tr out rs ru rt rg) := by
  unfold saga_accepted.f accS
  split
  · rfl
  split
  · rfl
  split
  · split
    · rfl
    split
    · rfl
    split
    · rfl
    split <;> rfl
  · rfl
theorem reply_done {n : ByteArray} {dl : Int} {l : List S70} {m : Nat} (hm : m ≤ 140737488351232) (hn : NmS m l) (hz : n.size ≤ m) (k : Nat) (hk : 50 ≤ k) (id : Int) (df : ByteArray) (st ph sp tr : Int) (out : Bool) (at_ sk now : Int) (ht : -9223372036854775808 ≤ tr ∧ tr ≤ 9223372036854775807)
    (hg : goodS n dl l id df st ph sp tr out at_ sk = true) (ho : overS ph = false) (hw : 0 ≤ now ∧ now ≤ 1099511627776) (rs : Int) (ru : Bool) (rt : Int) (ha : accS ph sp tr out rs ru rt true = true) (hl : 0 < l.length ∧ l.length ≤ 32) (h0 : 0 ≤ sp) (h1 : sp < (l.length : Int)) :
    saga_Reply.f k n dl l id df st ph sp tr out at_ sk id rs ru rt true now = some ((doneS (l.length : Int) id df st ph sp tr at_ sk now).1, (doneS (l.length : Int) id df st ph sp tr at_ sk now).2.1, (doneS (l.length : Int) id df st ph sp tr at_ sk now).2.2.1, (doneS (l.length : Int) id df st ph sp tr at_ sk now).2.2.2.1, (doneS (l.length : Int) id df st ph sp tr at_ sk now).2.2.2.2.1, (doneS (l.length : Int) id df st ph sp tr at_ sk now).2.2.2.2.2.1, (doneS (l.length : Int) id df st ph sp tr at_ sk now).2.2.2.2.2.2.1, (doneS (l.length : Int) id df st ph sp tr at_ sk now).2.2.2.2.2.2.2.1, (doneS (l.length : Int) id df st ph sp tr at_ sk now).2.2.2.2.2.2.2.2, 0) := by
  obtain ⟨k, rfl⟩ : ∃ j, k = j + 1 := ⟨k - 1, by omega⟩
  have hc : checkS (goodS n dl l id df st ph sp tr out at_ sk) ph now = 0 := by
    unfold checkS
    rw [hg, if_pos ⟨rfl, hw⟩, ho]
    rfl
  unfold saga_Reply.f
  rw [check_fS n dl l hm hn hz (k + 1) (by omega) id df st ph sp tr out at_ sk now ht, bs_, hc, if_pos rfl, if_pos rfl, acc_f, bs_, ha, if_pos rfl, if_pos rfl, done_f n dl l hl k id df st ph sp tr out at_ sk now h0 h1, bs_]
def backS (id : Int) (df : ByteArray) (st ph sp tr : Int) (at_ sk now : Int) : Int × ByteArray × Int × Int × Int × Int × Bool × Int × Int :=
  if sp = 0 then (id, df, st, 4, sp, tr, false, at_, sk) else (id, df, st, 1, sp - 1, 0, false, now, sk)
theorem back_f (id : Int) (df : ByteArray) (st ph sp tr : Int) (out : Bool) (at_ sk now : Int) (h0 : 0 ≤ sp) (h1 : sp ≤ 1000) : saga_back.f id df st ph sp tr out at_ sk now = some (backS id df st ph sp tr at_ sk now) := by
  unfold saga_back.f backS
  split
  · rfl
  · rw [show wrap64 (sp - 1) = sp - 1 by unfold wrap64; omega]
    rfl
theorem cancel_ok {n : ByteArray} {dl : Int} {l : List S70} {m : Nat} (hm : m ≤ 140737488351232) (hn : NmS m l) (hz : n.size ≤ m) (k : Nat) (hk : 50 ≤ k) (id : Int) (df : ByteArray) (st sp tr : Int) (out : Bool) (at_ sk now : Int) (ht : -9223372036854775808 ≤ tr ∧ tr ≤ 9223372036854775807)
    (hg : goodS n dl l id df st 0 sp tr out at_ sk = true) (hw : 0 ≤ now ∧ now ≤ 1099511627776) (h0 : 0 ≤ sp) (h1 : sp ≤ 1000) :
    saga_Cancel.f k n dl l id df st 0 sp tr out at_ sk now = some ((backS id df st 0 sp tr at_ sk now).1, (backS id df st 0 sp tr at_ sk now).2.1, (backS id df st 0 sp tr at_ sk now).2.2.1, (backS id df st 0 sp tr at_ sk now).2.2.2.1, (backS id df st 0 sp tr at_ sk now).2.2.2.2.1, (backS id df st 0 sp tr at_ sk now).2.2.2.2.2.1, (backS id df st 0 sp tr at_ sk now).2.2.2.2.2.2.1, (backS id df st 0 sp tr at_ sk now).2.2.2.2.2.2.2.1, (backS id df st 0 sp tr at_ sk now).2.2.2.2.2.2.2.2, 0) := by
  have hc : checkS (goodS n dl l id df st 0 sp tr out at_ sk) 0 now = 0 := by
    unfold checkS
    rw [hg, if_pos ⟨rfl, hw⟩]
    rfl
  unfold saga_Cancel.f
  rw [check_fS n dl l hm hn hz k (by omega) id df st 0 sp tr out at_ sk now ht, bs_, hc, if_pos rfl, if_pos rfl, back_f id df st 0 sp tr out at_ sk now h0 h1, bs_]
theorem good0 {n : ByteArray} {dl : Int} {l : List S70} (hc : (chkD n dl l).2 = 0) {id st ph sp at_ sk : Int} (hi : 0 ≤ id) (hp : ph = 0 ∨ ph = 1) (h0 : 0 ≤ sp) (h1 : sp < (l.length : Int)) (hs : 0 ≤ st ∧ st ≤ 1099511627776) (ha : 0 ≤ at_ ∧ at_ ≤ 1099511627776) (hk : 0 ≤ sk ∧ sk ≤ 32) : goodS n dl l id n st ph sp 0 false at_ sk = true := by
  have hr := planP_r (plS_good hc (ph := ph) h0 h1)
  unfold goodS triesS
  rw [if_pos ⟨hc, rfl, hi, by omega, ⟨h0, h1⟩, hs, ha, hk⟩, if_neg (by omega), if_neg (fun h => by have := h.1; omega), if_neg (by decide), if_neg (by omega)]
theorem good1 {n : ByteArray} {dl : Int} {l : List S70} (hc : (chkD n dl l).2 = 0) {id st ph sp at_ sk : Int} (hi : 0 ≤ id) (hp : ph = 0 ∨ ph = 1) (h0 : 0 ≤ sp) (h1 : sp < (l.length : Int)) (hs : 0 ≤ st ∧ st ≤ 1099511627776) (ha : 0 ≤ at_ ∧ at_ ≤ 1099511627776) (hk : 0 ≤ sk ∧ sk ≤ 32) : goodS n dl l id n st ph sp 1 true at_ sk = true := by
  have hr := planP_r (plS_good hc (ph := ph) h0 h1)
  unfold goodS triesS
  rw [if_pos ⟨hc, rfl, hi, by omega, ⟨h0, h1⟩, hs, ha, hk⟩, if_neg (by omega), if_neg (fun h => by have := h.1; omega), if_pos rfl, if_pos (by decide), dt_ (by omega)]
theorem may0 {n : ByteArray} {l : List S70} (hc : (chkD n 0 l).2 = 0) {st ph sp at_ now : Int} (hp : ph = 0 ∨ ph = 1) (h0 : 0 ≤ sp) (h1 : sp < (l.length : Int)) (ha : 0 ≤ at_) (hw : at_ ≤ now) (hw2 : now ≤ 1099511627776) : maySg 0 l st ph sp 0 false at_ now = true := by
  have hg := plS_good hc (ph := ph) h0 h1
  have hr := planP_r hg
  unfold maySg endS leftS
  rw [if_pos rfl, if_pos (by rcases hp with h | h; exact .inr ⟨h, by omega⟩; exact .inl h), if_neg (by decide), ofT_id ha (by omega), ofT_id (show 0 ≤ now by omega) hw2, if_pos hw, if_pos hg]
  refine dt_ ?_
  unfold mx
  split <;> omega
theorem over01 {ph : Int} (hp : ph = 0 ∨ ph = 1) : overS ph = false := by
  rcases hp with h | h <;> subst h <;> rfl
def saga_Late.f (k : Nat) (a0_0 : ByteArray) (a0_1 : Int) (l0_2 : List (S70)) (a1_0 : Int) (a1_1 : ByteArray) (a1_2 : Int) (a1_3 : Int) (a1_4 : Int) (a1_5 : Int) (a1_6 : Bool) (a1_7 : Int) (a1_8 : Int) (a2 : Int) : Option (Int × ByteArray × Int × Int × Int × Int × Bool × Int × Int × Int) := (saga_check.f k a0_0 a0_1 l0_2 a1_0 a1_1 a1_2 a1_3 a1_4 a1_5 a1_6 a1_7 a1_8 a2).bind fun t263 => (if t263 = 0 then (if a1_6 = true then ((tick_Due.f a2 a1_7).bind fun t264 => (if t264 = true then ((saga_fails.f k a0_0 a0_1 l0_2 a1_0 a1_1 a1_2 a1_3 a1_4 a1_5 a1_6 a1_7 a1_8 a2).bind fun bt265 => (some (bt265.1, bt265.2.1, bt265.2.2.1, bt265.2.2.2.1, bt265.2.2.2.2.1, bt265.2.2.2.2.2.1, bt265.2.2.2.2.2.2.1, bt265.2.2.2.2.2.2.2.1, bt265.2.2.2.2.2.2.2.2, 0))) else (some (a1_0, a1_1, a1_2, a1_3, a1_4, a1_5, a1_6, a1_7, a1_8, 9)))) else (some (a1_0, a1_1, a1_2, a1_3, a1_4, a1_5, a1_6, a1_7, a1_8, 9))) else (some (a1_0, a1_1, a1_2, a1_3, a1_4, a1_5, a1_6, a1_7, a1_8, t263)))
theorem saga_Late.calls (k : Nat) (a0_0 : ByteArray) (a0_1 : Int) (A0_2 : Option Addr) (c0_2 : Nat) (l0_2 : List (S70)) (a1_0 : Int) (a1_1 : ByteArray) (a1_2 : Int) (a1_3 : Int) (a1_4 : Int) (a1_5 : Int) (a1_6 : Bool) (a1_7 : Int) (a1_8 : Int) (a2 : Int) (r1 : Int) (r2 : ByteArray) (r3 : Int) (r4 : Int) (r5 : Int) (r6 : Int) (r7 : Bool) (r8 : Int) (r9 : Int) (r10 : Int) (w : World) (hr0_2 : Kd.C k70 w A0_2 l0_2.length l0_2) (hc0_2 : l0_2.length ≤ c0_2) (hTab_ : Tabs_ w) (h : saga_Late.f k a0_0 a0_1 l0_2 a1_0 a1_1 a1_2 a1_3 a1_4 a1_5 a1_6 a1_7 a1_8 a2 = some (r1, r2, r3, r4, r5, r6, r7, r8, r9, r10)) :
 Calls Tryd.prog 30 #[.agg #[.string a0_0, .int .i64 a0_1, .slice A0_2 l0_2.length c0_2], .agg #[.int .i64 a1_0, .string a1_1, .int .i64 a1_2, .int .i64 a1_3, .int .i64 a1_4, .int .i64 a1_5, .bool a1_6, .int .i64 a1_7, .int .i64 a1_8], .int .i64 a2] w fun e w' => e = .returned (.tuple #[.agg #[.int .i64 r1, .string r2, .int .i64 r3, .int .i64 r4, .int .i64 r5, .int .i64 r6, .bool r7, .int .i64 r8, .int .i64 r9], .int .i64 r10]) ∧ Below w.heap.size w w' := by
 have HT := ak_ hTab_
 clear hTab_
 have hu24 := Tryd.underlying24
 have hu31 := Tryd.underlying31
 have HR0_2 := ak_ hr0_2
 have HC0_2 := ak_ hc0_2
 clear hr0_2 hc0_2
 have HB := ak_ (Below.refl w.heap.size w)
 have H : ((saga_check.f k a0_0 a0_1 l0_2 a1_0 a1_1 a1_2 a1_3 a1_4 a1_5 a1_6 a1_7 a1_8 a2).bind fun t263 => (if t263 = 0 then (if a1_6 = true then ((tick_Due.f a2 a1_7).bind fun t264 => (if t264 = true then ((saga_fails.f k a0_0 a0_1 l0_2 a1_0 a1_1 a1_2 a1_3 a1_4 a1_5 a1_6 a1_7 a1_8 a2).bind fun bt265 => (some (bt265.1, bt265.2.1, bt265.2.2.1, bt265.2.2.2.1, bt265.2.2.2.2.1, bt265.2.2.2.2.2.1, bt265.2.2.2.2.2.2.1, bt265.2.2.2.2.2.2.2.1, bt265.2.2.2.2.2.2.2.2, 0))) else (some (a1_0, a1_1, a1_2, a1_3, a1_4, a1_5, a1_6, a1_7, a1_8, 9)))) else (some (a1_0, a1_1, a1_2, a1_3, a1_4, a1_5, a1_6, a1_7, a1_8, 9))) else (some (a1_0, a1_1, a1_2, a1_3, a1_4, a1_5, a1_6, a1_7, a1_8, t263)))) = some (r1, r2, r3, r4, r5, r6, r7, r8, r9, r10) := h
 clear h
 replace H := ob_ H
 obtain ⟨t263, A40, H⟩ := H
 replace H : (if t263 = 0 then (if a1_6 = true then ((tick_Due.f a2 a1_7).bind fun t264 => (if t264 = true then ((saga_fails.f k a0_0 a0_1 l0_2 a1_0 a1_1 a1_2 a1_3 a1_4 a1_5 a1_6 a1_7 a1_8 a2).bind fun bt265 => (some (bt265.1, bt265.2.1, bt265.2.2.1, bt265.2.2.2.1, bt265.2.2.2.2.1, bt265.2.2.2.2.2.1, bt265.2.2.2.2.2.2.1, bt265.2.2.2.2.2.2.2.1, bt265.2.2.2.2.2.2.2.2, 0))) else (some (a1_0, a1_1, a1_2, a1_3, a1_4, a1_5, a1_6, a1_7, a1_8, 9)))) else (some (a1_0, a1_1, a1_2, a1_3, a1_4, a1_5, a1_6, a1_7, a1_8, 9))) else (some (a1_0, a1_1, a1_2, a1_3, a1_4, a1_5, a1_6, a1_7, a1_8, t263))) = some (r1, r2, r3, r4, r5, r6, r7, r8, r9, r10) := H
 have A4 := ak_ A40
 clear A40
 have HF5 := ak_ H
 clear H
 go_enter Tryd.func30, Tryd.ntmps30
 go_upto_if 13 with (first | ((with_reducible refine gate_dst (N := 3) rfl ?_); refine box_event ?hg (N := 3) ?hd (cs := #[.string a0_0, .int .i64 a0_1, .slice A0_2 l0_2.length c0_2]) (t := 24) ?hr ?_; (case hd | hg => rfl); (case hr => first | (go_simp; done) | (go_simp; rfl)); intro gb260 hg w6 hbox hb; have n0_ := ak_ (ps (by with_reducible repeat first | exact HB.out | apply pa | apply pd | apply pe) hb); have n1_ := ak_ (hbox); have n2_ := ak_ ((by rw [hg]; exact (below_size (by with_reducible repeat first | exact HB.out | apply pa | apply pd | apply pe)) : w.heap.size ≤ gb260)); have n3_ := ak_ ((by rw [hg]; exact (below_size (by with_reducible repeat first | exact HB.out | apply pa | apply pd | apply pe)) : w.heap.size ≤ gb260)); clear HB; have HB := n0_; have BK260 := n1_; have GW260 := n2_; have GE260 := n3_; clear n0_ n1_ n2_ n3_ hb hbox hg) | ((with_reducible refine gate_dst (N := 4) rfl ?_); refine box_event ?hg (N := 4) ?hd (cs := #[.int .i64 a1_0, .string a1_1, .int .i64 a1_2, .int .i64 a1_3, .int .i64 a1_4, .int .i64 a1_5, .bool a1_6, .int .i64 a1_7, .int .i64 a1_8]) (t := 31) ?hr ?_; (case hd | hg => rfl); (case hr => first | (go_simp; done) | (go_simp; rfl)); intro gb261 hg w7 hbox hb; have n0_ := ak_ (blk_below (g := gb260) (o := .cells #[.string a0_0, .int .i64 a0_1, .slice A0_2 l0_2.length c0_2] 24 (0, 0)) (by (with_reducible repeat (first | apply zn | apply zd | apply za)); exact BK260.out) hb); have n1_ := ak_ (ps (by with_reducible repeat first | exact HB.out | apply pa | apply pd | apply pe | refine zs ?_ GE260.out) hb); have n2_ := ak_ (hbox); have n3_ := ak_ ((by rw [hg]; exact (below_size (by with_reducible repeat first | exact HB.out | apply pa | apply pd | apply pe | refine zs ?_ GE260.out)) : w.heap.size ≤ gb261)); have n4_ := ak_ ((by rw [hg]; exact (below_size (by with_reducible repeat first | exact HB.out | apply pa | apply pd | apply pe | refine zs ?_ GE260.out)) : w.heap.size ≤ gb261)); have n5_ := ak_ ((by rw [hg]; exact Nat.ne_of_lt (blk_lt (g := gb260) (by (with_reducible repeat (first | apply zn | apply zd | apply za)); exact BK260.out)) : gb260 ≠ gb261)); have n6_ := ak_ ((by rw [hg]; exact Nat.ne_of_gt (blk_lt (g := gb260) (by (with_reducible repeat (first | apply zn | apply zd | apply za)); exact BK260.out)) : gb261 ≠ gb260)); clear BK260 HB; have BK260 := n0_; have HB := n1_; have BK261 := n2_; have GW261 := n3_; have GE261 := n4_; have NB260_261 := n5_; have NB261_260 := n6_; clear n0_ n1_ n2_ n3_ n4_ n5_ n6_ hb hbox hg) | ((with_reducible refine gate_dst (N := 6) rfl ?_); refine box_event ?hg (N := 6) ?hd (cs := #[.int .i64 0, .string ⟨#[]⟩, .int .i64 0, .int .i64 0, .int .i64 0, .int .i64 0, .bool false, .int .i64 0, .int .i64 0]) (t := 31) ?hr ?_; (case hd | hg => rfl); (case hr => first | (go_simp; done) | (go_simp; rfl)); intro gb262 hg w8 hbox hb; have n0_ := ak_ (blk_below (g := gb260) (o := .cells #[.string a0_0, .int .i64 a0_1, .slice A0_2 l0_2.length c0_2] 24 (0, 0)) (by (with_reducible repeat (first | apply zn | apply zd | apply za)); exact BK260.out) hb); have n1_ := ak_ (blk_below (g := gb261) (o := .cells #[.int .i64 a1_0, .string a1_1, .int .i64 a1_2, .int .i64 a1_3, .int .i64 a1_4, .int .i64 a1_5, .bool a1_6, .int .i64 a1_7, .int .i64 a1_8] 31 (0, 0)) (by (with_reducible repeat (first | apply zn | apply zd | apply za)); exact BK261.out) hb); have n2_ := ak_ (ps (by with_reducible repeat first | exact HB.out | apply pa | apply pd | apply pe | refine zs ?_ GE260.out | refine zs ?_ GE261.out) hb); have n3_ := ak_ (hbox); have n4_ := ak_ ((by rw [hg]; exact (below_size (by with_reducible repeat first | exact HB.out | apply pa | apply pd | apply pe | refine zs ?_ GE260.out | refine zs ?_ GE261.out)) : w.heap.size ≤ gb262)); have n5_ := ak_ ((by rw [hg]; exact (below_size (by with_reducible repeat first | exact HB.out | apply pa | apply pd | apply pe | refine zs ?_ GE260.out | refine zs ?_ GE261.out)) : w.heap.size ≤ gb262)); have n6_ := ak_ ((by rw [hg]; exact Nat.ne_of_lt (blk_lt (g := gb260) (by (with_reducible repeat (first | apply zn | apply zd | apply za)); exact BK260.out)) : gb260 ≠ gb262)); have n7_ := ak_ ((by rw [hg]; exact Nat.ne_of_gt (blk_lt (g := gb260) (by (with_reducible repeat (first | apply zn | apply zd | apply za)); exact BK260.out)) : gb262 ≠ gb260)); have n8_ := ak_ ((by rw [hg]; exact Nat.ne_of_lt (blk_lt (g := gb261) (by (with_reducible repeat (first | apply zn | apply zd | apply za)); exact BK261.out)) : gb261 ≠ gb262)); have n9_ := ak_ ((by rw [hg]; exact Nat.ne_of_gt (blk_lt (g := gb261) (by (with_reducible repeat (first | apply zn | apply zd | apply za)); exact BK261.out)) : gb262 ≠ gb261)); clear BK260 BK261 HB; have BK260 := n0_; have BK261 := n1_; have HB := n2_; have BK262 := n3_; have GW262 := n4_; have GE262 := n5_; have NB260_262 := n6_; have NB262_260 := n7_; have NB261_262 := n8_; have NB262_261 := n9_; clear n0_ n1_ n2_ n3_ n4_ n5_ n6_ n7_ n8_ n9_ hb hbox hg; have hnb9 := NB260_261.out; have hnc9 := NB261_260.out; have hnb10 := NB260_262.out; have hnc10 := NB262_260.out; have hcz11_0 : w8.cell? ⟨gb260, 0, none⟩ = some (.string a0_0) := (zc BK260.out 0).trans rfl; have hcz11_1 : w8.cell? ⟨gb260, 1, none⟩ = some (.int .i64 a0_1) := (zc BK260.out 1).trans rfl; have hcz11_2 : w8.cell? ⟨gb260, 2, none⟩ = some (.slice A0_2 l0_2.length c0_2) := (zc BK260.out 2).trans rfl; have hfz11_0 := zf BK260.out 0; have hfz11_1 := zf BK260.out 1; have hfz11_2 := zf BK260.out 2; have hnb12 := NB261_262.out; have hnc12 := NB262_261.out; have hcz13_0 : w8.cell? ⟨gb261, 0, none⟩ = some (.int .i64 a1_0) := (zc BK261.out 0).trans rfl; have hcz13_1 : w8.cell? ⟨gb261, 1, none⟩ = some (.string a1_1) := (zc BK261.out 1).trans rfl; have hcz13_2 : w8.cell? ⟨gb261, 2, none⟩ = some (.int .i64 a1_2) := (zc BK261.out 2).trans rfl; have hcz13_3 : w8.cell? ⟨gb261, 3, none⟩ = some (.int .i64 a1_3) := (zc BK261.out 3).trans rfl; have hcz13_4 : w8.cell? ⟨gb261, 4, none⟩ = some (.int .i64 a1_4) := (zc BK261.out 4).trans rfl; have hcz13_5 : w8.cell? ⟨gb261, 5, none⟩ = some (.int .i64 a1_5) := (zc BK261.out 5).trans rfl; have hcz13_6 : w8.cell? ⟨gb261, 6, none⟩ = some (.bool a1_6) := (zc BK261.out 6).trans rfl; have hcz13_7 : w8.cell? ⟨gb261, 7, none⟩ = some (.int .i64 a1_7) := (zc BK261.out 7).trans rfl; have hcz13_8 : w8.cell? ⟨gb261, 8, none⟩ = some (.int .i64 a1_8) := (zc BK261.out 8).trans rfl; have hfz13_0 := zf BK261.out 0; have hfz13_1 := zf BK261.out 1; have hfz13_2 := zf BK261.out 2; have hfz13_3 := zf BK261.out 3; have hfz13_4 := zf BK261.out 4; have hfz13_5 := zf BK261.out 5; have hfz13_6 := zf BK261.out 6; have hfz13_7 := zf BK261.out 7; have hfz13_8 := zf BK261.out 8) | ((with_reducible refine gate_callee (f := 34) rfl ?_); refine goesL_ (some 12) rfl rfl Tryd.func34 (by kernel_rfl) rfl #[.agg #[.string a0_0, .int .i64 a0_1, .slice A0_2 l0_2.length c0_2], .agg #[.int .i64 a1_0, .string a1_1, .int .i64 a1_2, .int .i64 a1_3, .int .i64 a1_4, .int .i64 a1_5, .bool a1_6, .int .i64 a1_7, .int .i64 a1_8], .int .i64 a2] rfl (by (try simp only [mt_, mc_, mn_]); first | done | rfl) ?_; (with_reducible refine (saga_check.calls k a0_0 a0_1 _ _ l0_2 a1_0 a1_1 a1_2 a1_3 a1_4 a1_5 a1_6 a1_7 a1_8 a2 t263 _ ?side1 ?side2 ?tab_ A4.out).mono ?_); (case tab_ => first | exact HT.out | exact Tabs_.below HT.out (by with_reducible repeat first | exact HB.out | apply pa | apply pd | apply pe)); (case side1 => repeat (first | exact (Kd.C_below HR0_2.out HB.out) | (with_reducible refine Kd.C_alloc ?_ _) | (with_reducible refine Kd.C_drewN ?_ _) | (with_reducible refine Kd.C_drew ?_))); (case side2 => exact HC0_2.out); rintro e w14 ⟨rfl, hb⟩; refine ⟨_, rfl, ?_⟩; have n0_ := ak_ (blk_below (g := gb260) (o := .cells #[.string a0_0, .int .i64 a0_1, .slice A0_2 l0_2.length c0_2] 24 (0, 0)) (by (with_reducible repeat (first | apply zn | apply zd | apply za)); exact BK260.out) hb); have n1_ := ak_ (blk_below (g := gb261) (o := .cells #[.int .i64 a1_0, .string a1_1, .int .i64 a1_2, .int .i64 a1_3, .int .i64 a1_4, .int .i64 a1_5, .bool a1_6, .int .i64 a1_7, .int .i64 a1_8] 31 (0, 0)) (by (with_reducible repeat (first | apply zn | apply zd | apply za)); exact BK261.out) hb); have n2_ := ak_ (blk_below (g := gb262) (o := .cells #[.int .i64 0, .string ⟨#[]⟩, .int .i64 0, .int .i64 0, .int .i64 0, .int .i64 0, .bool false, .int .i64 0, .int .i64 0] 31 (0, 0)) (by (with_reducible repeat (first | apply zn | apply zd | apply za)); exact BK262.out) hb); have n3_ := ak_ (ps (by with_reducible repeat first | exact HB.out | apply pa | apply pd | apply pe | refine zs ?_ GE260.out | refine zs ?_ GE261.out | refine zs ?_ GE262.out) hb); clear BK260 BK261 BK262 HB; have BK260 := n0_; have BK261 := n1_; have BK262 := n2_; have HB := n3_; clear n0_ n1_ n2_ n3_))
 (try simp only [Act.put, sa_, sz_, ss_])
 have H := HF5.out
 clear HF5
 by_cases c15 : t263 = 0
 · rw [if_pos c15] at H
   have c15b0 : (t263 == 0) = true := beq_iff_eq.mpr c15
   have c15b1 : (t263 != 0) = false := bne_eq_false_iff_eq.mpr c15
   clear c15
   (first | rw [c15b0] | (simp only [i64_w, i32_w]; rw [c15b0]) | skip)
   by_cases c16 : a1_6 = true
   · subst c16
     have H1 : ((tick_Due.f a2 a1_7).bind fun t264 => (if t264 = true then ((saga_fails.f k a0_0 a0_1 l0_2 a1_0 a1_1 a1_2 a1_3 a1_4 a1_5 true a1_7 a1_8 a2).bind fun bt265 => (some (bt265.1, bt265.2.1, bt265.2.2.1, bt265.2.2.2.1, bt265.2.2.2.2.1, bt265.2.2.2.2.2.1, bt265.2.2.2.2.2.2.1, bt265.2.2.2.2.2.2.2.1, bt265.2.2.2.2.2.2.2.2, 0))) else (some (a1_0, a1_1, a1_2, a1_3, a1_4, a1_5, true, a1_7, a1_8, 9)))) = some (r1, r2, r3, r4, r5, r6, r7, r8, r9, r10) := by rw [if_pos rfl] at H; exact H
     clear H
     have H := H1
     clear H1
     replace H := ob_ H
     obtain ⟨t264, A170, H⟩ := H
     replace H : (if t264 = true then ((saga_fails.f k a0_0 a0_1 l0_2 a1_0 a1_1 a1_2 a1_3 a1_4 a1_5 true a1_7 a1_8 a2).bind fun bt265 => (some (bt265.1, bt265.2.1, bt265.2.2.1, bt265.2.2.2.1, bt265.2.2.2.2.1, bt265.2.2.2.2.2.1, bt265.2.2.2.2.2.2.1, bt265.2.2.2.2.2.2.2.1, bt265.2.2.2.2.2.2.2.2, 0))) else (some (a1_0, a1_1, a1_2, a1_3, a1_4, a1_5, true, a1_7, a1_8, 9))) = some (r1, r2, r3, r4, r5, r6, r7, r8, r9, r10) := H
     have A17 := ak_ A170
     clear A170
     have HF18 := ak_ H
     clear H
     have hnb19 := NB261_260.out
     have hnc19 := NB260_261.out
     have hnb20 := NB261_262.out
     have hnc20 := NB262_261.out
     have hcz21_0 : w14.cell? ⟨gb261, 0, none⟩ = some (.int .i64 a1_0) := (zc BK261.out 0).trans rfl
     have hcz21_1 : w14.cell? ⟨gb261, 1, none⟩ = some (.string a1_1) := (zc BK261.out 1).trans rfl
     have hcz21_2 : w14.cell? ⟨gb261, 2, none⟩ = some (.int .i64 a1_2) := (zc BK261.out 2).trans rfl
     have hcz21_3 : w14.cell? ⟨gb261, 3, none⟩ = some (.int .i64 a1_3) := (zc BK261.out 3).trans rfl
     have hcz21_4 : w14.cell? ⟨gb261, 4, none⟩ = some (.int .i64 a1_4) := (zc BK261.out 4).trans rfl
     have hcz21_5 : w14.cell? ⟨gb261, 5, none⟩ = some (.int .i64 a1_5) := (zc BK261.out 5).trans rfl
     have hcz21_6 : w14.cell? ⟨gb261, 6, none⟩ = some (.bool true) := (zc BK261.out 6).trans rfl
     have hcz21_7 : w14.cell? ⟨gb261, 7, none⟩ = some (.int .i64 a1_7) := (zc BK261.out 7).trans rfl
     have hcz21_8 : w14.cell? ⟨gb261, 8, none⟩ = some (.int .i64 a1_8) := (zc BK261.out 8).trans rfl
     have hfz21_0 := zf BK261.out 0
     have hfz21_1 := zf BK261.out 1
     have hfz21_2 := zf BK261.out 2
     have hfz21_3 := zf BK261.out 3
     have hfz21_4 := zf BK261.out 4
     have hfz21_5 := zf BK261.out 5
     have hfz21_6 := zf BK261.out 6
     have hfz21_7 := zf BK261.out 7
     have hfz21_8 := zf BK261.out 8
     go_upto_if 18 with (first | (go_at_call 63; (with_reducible refine (tick_Due.calls a2 a1_7 t264 _ A17.out).mono ?_); rintro e w22 ⟨rfl, hb⟩; have n0_ := ak_ (blk_below (g := gb260) (o := .cells #[.string a0_0, .int .i64 a0_1, .slice A0_2 l0_2.length c0_2] 24 (0, 0)) (by (with_reducible repeat (first | apply zn | apply zd | apply za)); exact BK260.out) hb); have n1_ := ak_ (blk_below (g := gb261) (o := .cells #[.int .i64 a1_0, .string a1_1, .int .i64 a1_2, .int .i64 a1_3, .int .i64 a1_4, .int .i64 a1_5, .bool true, .int .i64 a1_7, .int .i64 a1_8] 31 (0, 0)) (by (with_reducible repeat (first | apply zn | apply zd | apply za)); exact BK261.out) hb); have n2_ := ak_ (blk_below (g := gb262) (o := .cells #[.int .i64 0, .string ⟨#[]⟩, .int .i64 0, .int .i64 0, .int .i64 0, .int .i64 0, .bool false, .int .i64 0, .int .i64 0] 31 (0, 0)) (by (with_reducible repeat (first | apply zn | apply zd | apply za)); exact BK262.out) hb); have n3_ := ak_ (ps (by with_reducible repeat first | exact HB.out | apply pa | apply pd | apply pe | refine zs ?_ GE260.out | refine zs ?_ GE261.out | refine zs ?_ GE262.out) hb); clear BK260 BK261 BK262 HB; have BK260 := n0_; have BK261 := n1_; have BK262 := n2_; have HB := n3_; clear n0_ n1_ n2_ n3_))
     (try simp only [Act.put, sa_, sz_, ss_])
     have H := HF18.out
     clear HF18
     by_cases c23 : t264 = true
     · subst c23
       have H1 : ((saga_fails.f k a0_0 a0_1 l0_2 a1_0 a1_1 a1_2 a1_3 a1_4 a1_5 true a1_7 a1_8 a2).bind fun bt265 => (some (bt265.1, bt265.2.1, bt265.2.2.1, bt265.2.2.2.1, bt265.2.2.2.2.1, bt265.2.2.2.2.2.1, bt265.2.2.2.2.2.2.1, bt265.2.2.2.2.2.2.2.1, bt265.2.2.2.2.2.2.2.2, 0))) = some (r1, r2, r3, r4, r5, r6, r7, r8, r9, r10) := by rw [if_pos rfl] at H; exact H
       clear H
       have H := H1
       clear H1
       replace H := ob_ H
       obtain ⟨⟨t265, t266, t267, t268, t269, t270, t271, t272, t273⟩, A240, H⟩ := H
       replace H : (some (t265, t266, t267, t268, t269, t270, t271, t272, t273, 0)) = some (r1, r2, r3, r4, r5, r6, r7, r8, r9, r10) := H
       have A24 := ak_ A240
       clear A240
       simp only [Option.some.injEq, Prod.mk.injEq] at H
       obtain ⟨rfl, rfl, rfl, rfl, rfl, rfl, rfl, rfl, rfl, rfl⟩ := H
       have hnb25 := NB260_261.out
       have hnc25 := NB261_260.out
       have hnb26 := NB260_262.out
       have hnc26 := NB262_260.out
       have hcz27_0 : w22.cell? ⟨gb260, 0, none⟩ = some (.string a0_0) := (zc BK260.out 0).trans rfl
       have hcz27_1 : w22.cell? ⟨gb260, 1, none⟩ = some (.int .i64 a0_1) := (zc BK260.out 1).trans rfl
       have hcz27_2 : w22.cell? ⟨gb260, 2, none⟩ = some (.slice A0_2 l0_2.length c0_2) := (zc BK260.out 2).trans rfl
       have hfz27_0 := zf BK260.out 0
       have hfz27_1 := zf BK260.out 1
       have hfz27_2 := zf BK260.out 2
       have hnb28 := NB261_262.out
       have hnc28 := NB262_261.out
       have hcz29_0 : w22.cell? ⟨gb261, 0, none⟩ = some (.int .i64 a1_0) := (zc BK261.out 0).trans rfl
       have hcz29_1 : w22.cell? ⟨gb261, 1, none⟩ = some (.string a1_1) := (zc BK261.out 1).trans rfl
       have hcz29_2 : w22.cell? ⟨gb261, 2, none⟩ = some (.int .i64 a1_2) := (zc BK261.out 2).trans rfl
       have hcz29_3 : w22.cell? ⟨gb261, 3, none⟩ = some (.int .i64 a1_3) := (zc BK261.out 3).trans rfl
       have hcz29_4 : w22.cell? ⟨gb261, 4, none⟩ = some (.int .i64 a1_4) := (zc BK261.out 4).trans rfl
       have hcz29_5 : w22.cell? ⟨gb261, 5, none⟩ = some (.int .i64 a1_5) := (zc BK261.out 5).trans rfl
       have hcz29_6 : w22.cell? ⟨gb261, 6, none⟩ = some (.bool true) := (zc BK261.out 6).trans rfl
       have hcz29_7 : w22.cell? ⟨gb261, 7, none⟩ = some (.int .i64 a1_7) := (zc BK261.out 7).trans rfl
       have hcz29_8 : w22.cell? ⟨gb261, 8, none⟩ = some (.int .i64 a1_8) := (zc BK261.out 8).trans rfl
       have hfz29_0 := zf BK261.out 0
       have hfz29_1 := zf BK261.out 1
       have hfz29_2 := zf BK261.out 2
       have hfz29_3 := zf BK261.out 3
       have hfz29_4 := zf BK261.out 4
       have hfz29_5 := zf BK261.out 5
       have hfz29_6 := zf BK261.out 6
       have hfz29_7 := zf BK261.out 7
       have hfz29_8 := zf BK261.out 8
       go_wp2_with (first | ((with_reducible refine gate_callee (f := 40) rfl ?_); refine goesL_ (some 33) rfl rfl Tryd.func40 (by kernel_rfl) rfl #[.agg #[.string a0_0, .int .i64 a0_1, .slice A0_2 l0_2.length c0_2], .agg #[.int .i64 a1_0, .string a1_1, .int .i64 a1_2, .int .i64 a1_3, .int .i64 a1_4, .int .i64 a1_5, .bool true, .int .i64 a1_7, .int .i64 a1_8], .int .i64 a2] rfl (by (try simp only [mt_, mc_, mn_]); first | done | rfl) ?_; (with_reducible refine (saga_fails.calls k a0_0 a0_1 _ _ l0_2 a1_0 a1_1 a1_2 a1_3 a1_4 a1_5 true a1_7 a1_8 a2 t265 t266 t267 t268 t269 t270 t271 t272 t273 _ ?side1 ?side2 A24.out).mono ?_); (case side1 => repeat (first | exact (Kd.C_below HR0_2.out HB.out) | (with_reducible refine Kd.C_alloc ?_ _) | (with_reducible refine Kd.C_drewN ?_ _) | (with_reducible refine Kd.C_drew ?_))); (case side2 => exact HC0_2.out); rintro e w30 ⟨rfl, hb⟩; refine ⟨_, rfl, ?_⟩; have n0_ := ak_ (blk_below (g := gb260) (o := .cells #[.string a0_0, .int .i64 a0_1, .slice A0_2 l0_2.length c0_2] 24 (0, 0)) (by (with_reducible repeat (first | apply zn | apply zd | apply za)); exact BK260.out) hb); have n1_ := ak_ (blk_below (g := gb261) (o := .cells #[.int .i64 a1_0, .string a1_1, .int .i64 a1_2, .int .i64 a1_3, .int .i64 a1_4, .int .i64 a1_5, .bool true, .int .i64 a1_7, .int .i64 a1_8] 31 (0, 0)) (by (with_reducible repeat (first | apply zn | apply zd | apply za)); exact BK261.out) hb); have n2_ := ak_ (blk_below (g := gb262) (o := .cells #[.int .i64 0, .string ⟨#[]⟩, .int .i64 0, .int .i64 0, .int .i64 0, .int .i64 0, .bool false, .int .i64 0, .int .i64 0] 31 (0, 0)) (by (with_reducible repeat (first | apply zn | apply zd | apply za)); exact BK262.out) hb); have n3_ := ak_ (ps (by with_reducible repeat first | exact HB.out | apply pa | apply pd | apply pe | refine zs ?_ GE260.out | refine zs ?_ GE261.out | refine zs ?_ GE262.out) hb); clear BK260 BK261 BK262 HB; have BK260 := n0_; have BK261 := n1_; have BK262 := n2_; have HB := n3_; clear n0_ n1_ n2_ n3_; have hcz31_0 : w30.cell? ⟨gb262, 0, none⟩ = some (.int .i64 0) := (zc BK262.out 0).trans rfl; have hcz31_1 : w30.cell? ⟨gb262, 1, none⟩ = some (.string ⟨#[]⟩) := (zc BK262.out 1).trans rfl; have hcz31_2 : w30.cell? ⟨gb262, 2, none⟩ = some (.int .i64 0) := (zc BK262.out 2).trans rfl; have hcz31_3 : w30.cell? ⟨gb262, 3, none⟩ = some (.int .i64 0) := (zc BK262.out 3).trans rfl; have hcz31_4 : w30.cell? ⟨gb262, 4, none⟩ = some (.int .i64 0) := (zc BK262.out 4).trans rfl; have hcz31_5 : w30.cell? ⟨gb262, 5, none⟩ = some (.int .i64 0) := (zc BK262.out 5).trans rfl; have hcz31_6 : w30.cell? ⟨gb262, 6, none⟩ = some (.bool false) := (zc BK262.out 6).trans rfl; have hcz31_7 : w30.cell? ⟨gb262, 7, none⟩ = some (.int .i64 0) := (zc BK262.out 7).trans rfl; have hcz31_8 : w30.cell? ⟨gb262, 8, none⟩ = some (.int .i64 0) := (zc BK262.out 8).trans rfl; have hfz31_0 := zf BK262.out 0; have hfz31_1 := zf BK262.out 1; have hfz31_2 := zf BK262.out 2; have hfz31_3 := zf BK262.out 3; have hfz31_4 := zf BK262.out 4; have hfz31_5 := zf BK262.out 5; have hfz31_6 := zf BK262.out 6; have hfz31_7 := zf BK262.out 7; have hfz31_8 := zf BK262.out 8))
       refine bodyPost_ret (results_ct rfl _ _ gb262 31 #[.int .i64 t265, .string t266, .int .i64 t267, .int .i64 t268, .int .i64 t269, .int .i64 t270, .bool t271, .int .i64 t272, .int .i64 t273] (0, 0) _ rfl (by (with_reducible repeat (first | apply zn | apply zd | apply za)); refine zp (cs := #[.int .i64 t265, .string t266, .int .i64 t267, .int .i64 t268, .int .i64 t269, .int .i64 t270, .bool t271, .int .i64 t272, .int .i64 0]) ?_ 8 _ rfl; (with_reducible repeat (first | apply zn | apply zd | apply za)); refine zp (cs := #[.int .i64 t265, .string t266, .int .i64 t267, .int .i64 t268, .int .i64 t269, .int .i64 t270, .bool t271, .int .i64 0, .int .i64 0]) ?_ 7 _ rfl; (with_reducible repeat (first | apply zn | apply zd | apply za)); refine zp (cs := #[.int .i64 t265, .string t266, .int .i64 t267, .int .i64 t268, .int .i64 t269, .int .i64 t270, .bool false, .int .i64 0, .int .i64 0]) ?_ 6 _ rfl; (with_reducible repeat (first | apply zn | apply zd | apply za)); refine zp (cs := #[.int .i64 t265, .string t266, .int .i64 t267, .int .i64 t268, .int .i64 t269, .int .i64 0, .bool false, .int .i64 0, .int .i64 0]) ?_ 5 _ rfl; (with_reducible repeat (first | apply zn | apply zd | apply za)); refine zp (cs := #[.int .i64 t265, .string t266, .int .i64 t267, .int .i64 t268, .int .i64 0, .int .i64 0, .bool false, .int .i64 0, .int .i64 0]) ?_ 4 _ rfl; (with_reducible repeat (first | apply zn | apply zd | apply za)); refine zp (cs := #[.int .i64 t265, .string t266, .int .i64 t267, .int .i64 0, .int .i64 0, .int .i64 0, .bool false, .int .i64 0, .int .i64 0]) ?_ 3 _ rfl; (with_reducible repeat (first | apply zn | apply zd | apply za)); refine zp (cs := #[.int .i64 t265, .string t266, .int .i64 0, .int .i64 0, .int .i64 0, .int .i64 0, .bool false, .int .i64 0, .int .i64 0]) ?_ 2 _ rfl; (with_reducible repeat (first | apply zn | apply zd | apply za)); refine zp (cs := #[.int .i64 t265, .string ⟨#[]⟩, .int .i64 0, .int .i64 0, .int .i64 0, .int .i64 0, .bool false, .int .i64 0, .int .i64 0]) ?_ 1 _ rfl; (with_reducible repeat (first | apply zn | apply zd | apply za)); refine zp (cs := #[.int .i64 0, .string ⟨#[]⟩, .int .i64 0, .int .i64 0, .int .i64 0, .int .i64 0, .bool false, .int .i64 0, .int .i64 0]) ?_ 0 _ rfl; (with_reducible repeat (first | apply zn | apply zd | apply za)); exact BK262.out) Tryd.underlying31 rfl (by kernel_rfl)) rfl ?_
       exact ⟨by first | rfl | simp [*], by repeat (first | (with_reducible first | exact HB.out | apply pa | apply pd | apply pe | refine zs ?_ GE260.out | refine zs ?_ GE261.out | refine zs ?_ GE262.out) | exact HB.out)⟩
     replace c23 := Bool.eq_false_iff.mpr c23
     subst c23
     have H1 : (some (a1_0, a1_1, a1_2, a1_3, a1_4, a1_5, true, a1_7, a1_8, 9)) = some (r1, r2, r3, r4, r5, r6, r7, r8, r9, r10) := by rw [if_neg (show ¬ (false = true) by decide)] at H; exact H
     clear H
     have H := H1
     clear H1
     simp only [Option.some.injEq, Prod.mk.injEq] at H
     obtain ⟨rfl, rfl, rfl, rfl, rfl, rfl, rfl, rfl, rfl, rfl⟩ := H
     have hnb32 := NB261_260.out
     have hnc32 := NB260_261.out
     have hnb33 := NB261_262.out
     have hnc33 := NB262_261.out
     have hcz34_0 : w22.cell? ⟨gb261, 0, none⟩ = some (.int .i64 a1_0) := (zc BK261.out 0).trans rfl
     have hcz34_1 : w22.cell? ⟨gb261, 1, none⟩ = some (.string a1_1) := (zc BK261.out 1).trans rfl
     have hcz34_2 : w22.cell? ⟨gb261, 2, none⟩ = some (.int .i64 a1_2) := (zc BK261.out 2).trans rfl
     have hcz34_3 : w22.cell? ⟨gb261, 3, none⟩ = some (.int .i64 a1_3) := (zc BK261.out 3).trans rfl
     have hcz34_4 : w22.cell? ⟨gb261, 4, none⟩ = some (.int .i64 a1_4) := (zc BK261.out 4).trans rfl
     have hcz34_5 : w22.cell? ⟨gb261, 5, none⟩ = some (.int .i64 a1_5) := (zc BK261.out 5).trans rfl
     have hcz34_6 : w22.cell? ⟨gb261, 6, none⟩ = some (.bool true) := (zc BK261.out 6).trans rfl
     have hcz34_7 : w22.cell? ⟨gb261, 7, none⟩ = some (.int .i64 a1_7) := (zc BK261.out 7).trans rfl
     have hcz34_8 : w22.cell? ⟨gb261, 8, none⟩ = some (.int .i64 a1_8) := (zc BK261.out 8).trans rfl
     have hfz34_0 := zf BK261.out 0
     have hfz34_1 := zf BK261.out 1
     have hfz34_2 := zf BK261.out 2
     have hfz34_3 := zf BK261.out 3
     have hfz34_4 := zf BK261.out 4
     have hfz34_5 := zf BK261.out 5
     have hfz34_6 := zf BK261.out 6
     have hfz34_7 := zf BK261.out 7
     have hfz34_8 := zf BK261.out 8
     have hnb35 := NB262_260.out
     have hnc35 := NB260_262.out
     have hcz36_0 : w22.cell? ⟨gb262, 0, none⟩ = some (.int .i64 0) := (zc BK262.out 0).trans rfl
     have hcz36_1 : w22.cell? ⟨gb262, 1, none⟩ = some (.string ⟨#[]⟩) := (zc BK262.out 1).trans rfl
     have hcz36_2 : w22.cell? ⟨gb262, 2, none⟩ = some (.int .i64 0) := (zc BK262.out 2).trans rfl
     have hcz36_3 : w22.cell? ⟨gb262, 3, none⟩ = some (.int .i64 0) := (zc BK262.out 3).trans rfl
     have hcz36_4 : w22.cell? ⟨gb262, 4, none⟩ = some (.int .i64 0) := (zc BK262.out 4).trans rfl
     have hcz36_5 : w22.cell? ⟨gb262, 5, none⟩ = some (.int .i64 0) := (zc BK262.out 5).trans rfl
     have hcz36_6 : w22.cell? ⟨gb262, 6, none⟩ = some (.bool false) := (zc BK262.out 6).trans rfl
     have hcz36_7 : w22.cell? ⟨gb262, 7, none⟩ = some (.int .i64 0) := (zc BK262.out 7).trans rfl
     have hcz36_8 : w22.cell? ⟨gb262, 8, none⟩ = some (.int .i64 0) := (zc BK262.out 8).trans rfl
     have hfz36_0 := zf BK262.out 0
     have hfz36_1 := zf BK262.out 1
     have hfz36_2 := zf BK262.out 2
     have hfz36_3 := zf BK262.out 3
     have hfz36_4 := zf BK262.out 4
     have hfz36_5 := zf BK262.out 5
     have hfz36_6 := zf BK262.out 6
     have hfz36_7 := zf BK262.out 7
     have hfz36_8 := zf BK262.out 8
     go_wp2
     refine bodyPost_ret (results_ct rfl _ _ gb262 31 #[.int .i64 a1_0, .string a1_1, .int .i64 a1_2, .int .i64 a1_3, .int .i64 a1_4, .int .i64 a1_5, .bool true, .int .i64 a1_7, .int .i64 a1_8] (0, 0) _ rfl (by (with_reducible repeat (first | apply zn | apply zd | apply za)); refine zp (cs := #[.int .i64 a1_0, .string a1_1, .int .i64 a1_2, .int .i64 a1_3, .int .i64 a1_4, .int .i64 a1_5, .bool true, .int .i64 a1_7, .int .i64 0]) ?_ 8 _ rfl; (with_reducible repeat (first | apply zn | apply zd | apply za)); refine zp (cs := #[.int .i64 a1_0, .string a1_1, .int .i64 a1_2, .int .i64 a1_3, .int .i64 a1_4, .int .i64 a1_5, .bool true, .int .i64 0, .int .i64 0]) ?_ 7 _ rfl; (with_reducible repeat (first | apply zn | apply zd | apply za)); refine zp (cs := #[.int .i64 a1_0, .string a1_1, .int .i64 a1_2, .int .i64 a1_3, .int .i64 a1_4, .int .i64 a1_5, .bool false, .int .i64 0, .int .i64 0]) ?_ 6 _ rfl; (with_reducible repeat (first | apply zn | apply zd | apply za)); refine zp (cs := #[.int .i64 a1_0, .string a1_1, .int .i64 a1_2, .int .i64 a1_3, .int .i64 a1_4, .int .i64 0, .bool false, .int .i64 0, .int .i64 0]) ?_ 5 _ rfl; (with_reducible repeat (first | apply zn | apply zd | apply za)); refine zp (cs := #[.int .i64 a1_0, .string a1_1, .int .i64 a1_2, .int .i64 a1_3, .int .i64 0, .int .i64 0, .bool false, .int .i64 0, .int .i64 0]) ?_ 4 _ rfl; (with_reducible repeat (first | apply zn | apply zd | apply za)); refine zp (cs := #[.int .i64 a1_0, .string a1_1, .int .i64 a1_2, .int .i64 0, .int .i64 0, .int .i64 0, .bool false, .int .i64 0, .int .i64 0]) ?_ 3 _ rfl; (with_reducible repeat (first | apply zn | apply zd | apply za)); refine zp (cs := #[.int .i64 a1_0, .string a1_1, .int .i64 0, .int .i64 0, .int .i64 0, .int .i64 0, .bool false, .int .i64 0, .int .i64 0]) ?_ 2 _ rfl; (with_reducible repeat (first | apply zn | apply zd | apply za)); refine zp (cs := #[.int .i64 a1_0, .string ⟨#[]⟩, .int .i64 0, .int .i64 0, .int .i64 0, .int .i64 0, .bool false, .int .i64 0, .int .i64 0]) ?_ 1 _ rfl; (with_reducible repeat (first | apply zn | apply zd | apply za)); refine zp (cs := #[.int .i64 0, .string ⟨#[]⟩, .int .i64 0, .int .i64 0, .int .i64 0, .int .i64 0, .bool false, .int .i64 0, .int .i64 0]) ?_ 0 _ rfl; (with_reducible repeat (first | apply zn | apply zd | apply za)); exact BK262.out) Tryd.underlying31 rfl (by kernel_rfl)) rfl ?_
     exact ⟨by first | rfl | simp [*], by repeat (first | (with_reducible first | exact HB.out | apply pa | apply pd | apply pe | refine zs ?_ GE260.out | refine zs ?_ GE261.out | refine zs ?_ GE262.out) | exact HB.out)⟩
   replace c16 := Bool.eq_false_iff.mpr c16
   subst c16
   have H1 : (some (a1_0, a1_1, a1_2, a1_3, a1_4, a1_5, false, a1_7, a1_8, 9)) = some (r1, r2, r3, r4, r5, r6, r7, r8, r9, r10) := by rw [if_neg (show ¬ (false = true) by decide)] at H; exact H
   clear H
   have H := H1
   clear H1
   simp only [Option.some.injEq, Prod.mk.injEq] at H
   obtain ⟨rfl, rfl, rfl, rfl, rfl, rfl, rfl, rfl, rfl, rfl⟩ := H
   have hnb37 := NB261_260.out
   have hnc37 := NB260_261.out
   have hnb38 := NB261_262.out
   have hnc38 := NB262_261.out
   have hcz39_0 : w14.cell? ⟨gb261, 0, none⟩ = some (.int .i64 a1_0) := (zc BK261.out 0).trans rfl
   have hcz39_1 : w14.cell? ⟨gb261, 1, none⟩ = some (.string a1_1) := (zc BK261.out 1).trans rfl
   have hcz39_2 : w14.cell? ⟨gb261, 2, none⟩ = some (.int .i64 a1_2) := (zc BK261.out 2).trans rfl
   have hcz39_3 : w14.cell? ⟨gb261, 3, none⟩ = some (.int .i64 a1_3) := (zc BK261.out 3).trans rfl
   have hcz39_4 : w14.cell? ⟨gb261, 4, none⟩ = some (.int .i64 a1_4) := (zc BK261.out 4).trans rfl
   have hcz39_5 : w14.cell? ⟨gb261, 5, none⟩ = some (.int .i64 a1_5) := (zc BK261.out 5).trans rfl
   have hcz39_6 : w14.cell? ⟨gb261, 6, none⟩ = some (.bool false) := (zc BK261.out 6).trans rfl
   have hcz39_7 : w14.cell? ⟨gb261, 7, none⟩ = some (.int .i64 a1_7) := (zc BK261.out 7).trans rfl
   have hcz39_8 : w14.cell? ⟨gb261, 8, none⟩ = some (.int .i64 a1_8) := (zc BK261.out 8).trans rfl
   have hfz39_0 := zf BK261.out 0
   have hfz39_1 := zf BK261.out 1
   have hfz39_2 := zf BK261.out 2
   have hfz39_3 := zf BK261.out 3
   have hfz39_4 := zf BK261.out 4
   have hfz39_5 := zf BK261.out 5
   have hfz39_6 := zf BK261.out 6
   have hfz39_7 := zf BK261.out 7
   have hfz39_8 := zf BK261.out 8
   have hnb40 := NB262_260.out
   have hnc40 := NB260_262.out
   have hcz41_0 : w14.cell? ⟨gb262, 0, none⟩ = some (.int .i64 0) := (zc BK262.out 0).trans rfl
   have hcz41_1 : w14.cell? ⟨gb262, 1, none⟩ = some (.string ⟨#[]⟩) := (zc BK262.out 1).trans rfl
   have hcz41_2 : w14.cell? ⟨gb262, 2, none⟩ = some (.int .i64 0) := (zc BK262.out 2).trans rfl
   have hcz41_3 : w14.cell? ⟨gb262, 3, none⟩ = some (.int .i64 0) := (zc BK262.out 3).trans rfl
   have hcz41_4 : w14.cell? ⟨gb262, 4, none⟩ = some (.int .i64 0) := (zc BK262.out 4).trans rfl
   have hcz41_5 : w14.cell? ⟨gb262, 5, none⟩ = some (.int .i64 0) := (zc BK262.out 5).trans rfl
   have hcz41_6 : w14.cell? ⟨gb262, 6, none⟩ = some (.bool false) := (zc BK262.out 6).trans rfl
   have hcz41_7 : w14.cell? ⟨gb262, 7, none⟩ = some (.int .i64 0) := (zc BK262.out 7).trans rfl
   have hcz41_8 : w14.cell? ⟨gb262, 8, none⟩ = some (.int .i64 0) := (zc BK262.out 8).trans rfl
   have hfz41_0 := zf BK262.out 0
   have hfz41_1 := zf BK262.out 1
   have hfz41_2 := zf BK262.out 2
   have hfz41_3 := zf BK262.out 3
   have hfz41_4 := zf BK262.out 4
   have hfz41_5 := zf BK262.out 5
   have hfz41_6 := zf BK262.out 6
   have hfz41_7 := zf BK262.out 7
   have hfz41_8 := zf BK262.out 8
   go_wp2
   refine bodyPost_ret (results_ct rfl _ _ gb262 31 #[.int .i64 a1_0, .string a1_1, .int .i64 a1_2, .int .i64 a1_3, .int .i64 a1_4, .int .i64 a1_5, .bool false, .int .i64 a1_7, .int .i64 a1_8] (0, 0) _ rfl (by (with_reducible repeat (first | apply zn | apply zd | apply za)); refine zp (cs := #[.int .i64 a1_0, .string a1_1, .int .i64 a1_2, .int .i64 a1_3, .int .i64 a1_4, .int .i64 a1_5, .bool false, .int .i64 a1_7, .int .i64 0]) ?_ 8 _ rfl; (with_reducible repeat (first | apply zn | apply zd | apply za)); refine zp (cs := #[.int .i64 a1_0, .string a1_1, .int .i64 a1_2, .int .i64 a1_3, .int .i64 a1_4, .int .i64 a1_5, .bool false, .int .i64 0, .int .i64 0]) ?_ 7 _ rfl; (with_reducible repeat (first | apply zn | apply zd | apply za)); refine zp (cs := #[.int .i64 a1_0, .string a1_1, .int .i64 a1_2, .int .i64 a1_3, .int .i64 a1_4, .int .i64 a1_5, .bool false, .int .i64 0, .int .i64 0]) ?_ 6 _ rfl; (with_reducible repeat (first | apply zn | apply zd | apply za)); refine zp (cs := #[.int .i64 a1_0, .string a1_1, .int .i64 a1_2, .int .i64 a1_3, .int .i64 a1_4, .int .i64 0, .bool false, .int .i64 0, .int .i64 0]) ?_ 5 _ rfl; (with_reducible repeat (first | apply zn | apply zd | apply za)); refine zp (cs := #[.int .i64 a1_0, .string a1_1, .int .i64 a1_2, .int .i64 a1_3, .int .i64 0, .int .i64 0, .bool false, .int .i64 0, .int .i64 0]) ?_ 4 _ rfl; (with_reducible repeat (first | apply zn | apply zd | apply za)); refine zp (cs := #[.int .i64 a1_0, .string a1_1, .int .i64 a1_2, .int .i64 0, .int .i64 0, .int .i64 0, .bool false, .int .i64 0, .int .i64 0]) ?_ 3 _ rfl; (with_reducible repeat (first | apply zn | apply zd | apply za)); refine zp (cs := #[.int .i64 a1_0, .string a1_1, .int .i64 0, .int .i64 0, .int .i64 0, .int .i64 0, .bool false, .int .i64 0, .int .i64 0]) ?_ 2 _ rfl; (with_reducible repeat (first | apply zn | apply zd | apply za)); refine zp (cs := #[.int .i64 a1_0, .string ⟨#[]⟩, .int .i64 0, .int .i64 0, .int .i64 0, .int .i64 0, .bool false, .int .i64 0, .int .i64 0]) ?_ 1 _ rfl; (with_reducible repeat (first | apply zn | apply zd | apply za)); refine zp (cs := #[.int .i64 0, .string ⟨#[]⟩, .int .i64 0, .int .i64 0, .int .i64 0, .int .i64 0, .bool false, .int .i64 0, .int .i64 0]) ?_ 0 _ rfl; (with_reducible repeat (first | apply zn | apply zd | apply za)); exact BK262.out) Tryd.underlying31 rfl (by kernel_rfl)) rfl ?_
   exact ⟨by first | rfl | simp [*], by repeat (first | (with_reducible first | exact HB.out | apply pa | apply pd | apply pe | refine zs ?_ GE260.out | refine zs ?_ GE261.out | refine zs ?_ GE262.out) | exact HB.out)⟩
 rw [if_neg c15] at H
 have c15b0 : (t263 == 0) = false := beq_eq_false_iff_ne.mpr c15
 have c15b1 : (t263 != 0) = true := bne_iff_ne.mpr c15
 (first | rw [c15b0] | (simp only [i64_w, i32_w]; rw [c15b0]) | skip)
 simp only [Option.some.injEq, Prod.mk.injEq] at H
 obtain ⟨rfl, rfl, rfl, rfl, rfl, rfl, rfl, rfl, rfl, rfl⟩ := H
 have hnb42 := NB261_260.out
 have hnc42 := NB260_261.out
 have hnb43 := NB261_262.out
 have hnc43 := NB262_261.out
 have hcz44_0 : w14.cell? ⟨gb261, 0, none⟩ = some (.int .i64 a1_0) := (zc BK261.out 0).trans rfl
 have hcz44_1 : w14.cell? ⟨gb261, 1, none⟩ = some (.string a1_1) := (zc BK261.out 1).trans rfl
 have hcz44_2 : w14.cell? ⟨gb261, 2, none⟩ = some (.int .i64 a1_2) := (zc BK261.out 2).trans rfl
 have hcz44_3 : w14.cell? ⟨gb261, 3, none⟩ = some (.int .i64 a1_3) := (zc BK261.out 3).trans rfl
 have hcz44_4 : w14.cell? ⟨gb261, 4, none⟩ = some (.int .i64 a1_4) := (zc BK261.out 4).trans rfl
 have hcz44_5 : w14.cell? ⟨gb261, 5, none⟩ = some (.int .i64 a1_5) := (zc BK261.out 5).trans rfl
 have hcz44_6 : w14.cell? ⟨gb261, 6, none⟩ = some (.bool a1_6) := (zc BK261.out 6).trans rfl
 have hcz44_7 : w14.cell? ⟨gb261, 7, none⟩ = some (.int .i64 a1_7) := (zc BK261.out 7).trans rfl
 have hcz44_8 : w14.cell? ⟨gb261, 8, none⟩ = some (.int .i64 a1_8) := (zc BK261.out 8).trans rfl
 have hfz44_0 := zf BK261.out 0
 have hfz44_1 := zf BK261.out 1
 have hfz44_2 := zf BK261.out 2
 have hfz44_3 := zf BK261.out 3
 have hfz44_4 := zf BK261.out 4
 have hfz44_5 := zf BK261.out 5
 have hfz44_6 := zf BK261.out 6
 have hfz44_7 := zf BK261.out 7
 have hfz44_8 := zf BK261.out 8
 have hnb45 := NB262_260.out
 have hnc45 := NB260_262.out
 have hcz46_0 : w14.cell? ⟨gb262, 0, none⟩ = some (.int .i64 0) := (zc BK262.out 0).trans rfl
 have hcz46_1 : w14.cell? ⟨gb262, 1, none⟩ = some (.string ⟨#[]⟩) := (zc BK262.out 1).trans rfl
 have hcz46_2 : w14.cell? ⟨gb262, 2, none⟩ = some (.int .i64 0) := (zc BK262.out 2).trans rfl
 have hcz46_3 : w14.cell? ⟨gb262, 3, none⟩ = some (.int .i64 0) := (zc BK262.out 3).trans rfl
 have hcz46_4 : w14.cell? ⟨gb262, 4, none⟩ = some (.int .i64 0) := (zc BK262.out 4).trans rfl
 have hcz46_5 : w14.cell? ⟨gb262, 5, none⟩ = some (.int .i64 0) := (zc BK262.out 5).trans rfl
 have hcz46_6 : w14.cell? ⟨gb262, 6, none⟩ = some (.bool false) := (zc BK262.out 6).trans rfl
 have hcz46_7 : w14.cell? ⟨gb262, 7, none⟩ = some (.int .i64 0) := (zc BK262.out 7).trans rfl
 have hcz46_8 : w14.cell? ⟨gb262, 8, none⟩ = some (.int .i64 0) := (zc BK262.out 8).trans rfl
 have hfz46_0 := zf BK262.out 0
 have hfz46_1 := zf BK262.out 1
 have hfz46_2 := zf BK262.out 2
 have hfz46_3 := zf BK262.out 3
 have hfz46_4 := zf BK262.out 4
 have hfz46_5 := zf BK262.out 5
 have hfz46_6 := zf BK262.out 6
 have hfz46_7 := zf BK262.out 7
 have hfz46_8 := zf BK262.out 8
 go_wp2
 refine bodyPost_ret (results_ct rfl _ _ gb262 31 #[.int .i64 a1_0, .string a1_1, .int .i64 a1_2, .int .i64 a1_3, .int .i64 a1_4, .int .i64 a1_5, .bool a1_6, .int .i64 a1_7, .int .i64 a1_8] (0, 0) _ rfl (by (with_reducible repeat (first | apply zn | apply zd | apply za)); refine zp (cs := #[.int .i64 a1_0, .string a1_1, .int .i64 a1_2, .int .i64 a1_3, .int .i64 a1_4, .int .i64 a1_5, .bool a1_6, .int .i64 a1_7, .int .i64 0]) ?_ 8 _ rfl; (with_reducible repeat (first | apply zn | apply zd | apply za)); refine zp (cs := #[.int .i64 a1_0, .string a1_1, .int .i64 a1_2, .int .i64 a1_3, .int .i64 a1_4, .int .i64 a1_5, .bool a1_6, .int .i64 0, .int .i64 0]) ?_ 7 _ rfl; (with_reducible repeat (first | apply zn | apply zd | apply za)); refine zp (cs := #[.int .i64 a1_0, .string a1_1, .int .i64 a1_2, .int .i64 a1_3, .int .i64 a1_4, .int .i64 a1_5, .bool false, .int .i64 0, .int .i64 0]) ?_ 6 _ rfl; (with_reducible repeat (first | apply zn | apply zd | apply za)); refine zp (cs := #[.int .i64 a1_0, .string a1_1, .int .i64 a1_2, .int .i64 a1_3, .int .i64 a1_4, .int .i64 0, .bool false, .int .i64 0, .int .i64 0]) ?_ 5 _ rfl; (with_reducible repeat (first | apply zn | apply zd | apply za)); refine zp (cs := #[.int .i64 a1_0, .string a1_1, .int .i64 a1_2, .int .i64 a1_3, .int .i64 0, .int .i64 0, .bool false, .int .i64 0, .int .i64 0]) ?_ 4 _ rfl; (with_reducible repeat (first | apply zn | apply zd | apply za)); refine zp (cs := #[.int .i64 a1_0, .string a1_1, .int .i64 a1_2, .int .i64 0, .int .i64 0, .int .i64 0, .bool false, .int .i64 0, .int .i64 0]) ?_ 3 _ rfl; (with_reducible repeat (first | apply zn | apply zd | apply za)); refine zp (cs := #[.int .i64 a1_0, .string a1_1, .int .i64 0, .int .i64 0, .int .i64 0, .int .i64 0, .bool false, .int .i64 0, .int .i64 0]) ?_ 2 _ rfl; (with_reducible repeat (first | apply zn | apply zd | apply za)); refine zp (cs := #[.int .i64 a1_0, .string ⟨#[]⟩, .int .i64 0, .int .i64 0, .int .i64 0, .int .i64 0, .bool false, .int .i64 0, .int .i64 0]) ?_ 1 _ rfl; (with_reducible repeat (first | apply zn | apply zd | apply za)); refine zp (cs := #[.int .i64 0, .string ⟨#[]⟩, .int .i64 0, .int .i64 0, .int .i64 0, .int .i64 0, .bool false, .int .i64 0, .int .i64 0]) ?_ 0 _ rfl; (with_reducible repeat (first | apply zn | apply zd | apply za)); exact BK262.out) Tryd.underlying31 rfl (by kernel_rfl)) rfl ?_
 exact ⟨by first | rfl | simp [*], by repeat (first | (with_reducible first | exact HB.out | apply pa | apply pd | apply pe | refine zs ?_ GE260.out | refine zs ?_ GE261.out | refine zs ?_ GE262.out) | exact HB.out)⟩
end Go.Proofs.YtmfddmhomkcikaaDoor.Q
