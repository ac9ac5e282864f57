/- Part 7 of a claim's texts. -/
import Derived.Test.YtmfddmhomkcikaaDoorPk1
import Derived.Test.YtmfddmhomkcikaaDoorPk4
import Derived.Test.YtmfddmhomkcikaaDoorPk5
import Derived.Test.YtmfddmhomkcikaaDoorPk6
namespace Go.Proofs.YtmfddmhomkcikaaDoor.Q
open Go.RowKit Go.Proofs.YtmfddmhomkcikaaDoorW.PrintWords Go.Proofs.YtmfddmhomkcikaaDoorW.PrintLast Go.Proofs.YtmfddmhomkcikaaDoorW.PrintMore
attribute [local go_sem] max2_int min2_int max_two min_two max_three min_three max_four min_four
set_option linter.unusedVariables false
set_option linter.unusedSimpArgs false
set_option maxHeartbeats 8000000
set_option maxRecDepth 100000
open Go.Proofs.YtmfddmhomkcikaaDoor.Q.H_
def saga_fails.f (k : Nat) (a0_0 : ByteArray) (a0_1 : Int) (l0_2 : List (S70)) (a1_0 : Int) (a1_1 : ByteArray) (a1_2 : Int) (a1_3 : Int) (a1_4 : Int) (a1_5 : Int) (a1_6 : Bool) (a1_7 : Int) (a1_8 : Int) (a2 : Int) : Option (Int × ByteArray × Int × Int × Int × Int × Bool × Int × Int) := (saga_plan.f a0_0 a0_1 l0_2 a1_0 a1_1 a1_2 a1_3 a1_4 a1_5 a1_6 a1_7 a1_8).bind fun bt243 => ((backoff_Left.f bt243.1 bt243.2.1 bt243.2.2.1 bt243.2.2.2 a1_5).bind fun t248 => (if t248 > 0 then ((backoff_Wait.f k bt243.1 bt243.2.1 bt243.2.2.1 bt243.2.2.2 (wrap64 (a1_5 - 1))).bind fun t249 => ((tick_Add.f a2 t249).bind fun t250 => (some (a1_0, a1_1, a1_2, a1_3, a1_4, a1_5, false, t250, a1_8)))) else (if a1_3 = 0 then ((saga_back.f a1_0 a1_1 a1_2 a1_3 a1_4 a1_5 false a1_7 a1_8 a2).bind fun bt251 => (some (bt251.1, bt251.2.1, bt251.2.2.1, bt251.2.2.2.1, bt251.2.2.2.2.1, bt251.2.2.2.2.2.1, bt251.2.2.2.2.2.2.1, bt251.2.2.2.2.2.2.2.1, bt251.2.2.2.2.2.2.2.2))) else (some (a1_0, a1_1, a1_2, 2, a1_4, a1_5, false, a1_7, a1_8)))))
theorem saga_fails.calls (k : Nat) (a0_0 : ByteArray) (a0_1 : Int) (A0_2 : Option Addr) (c0_2 : Nat) (l0_2 : List (S70)) (a1_0 : Int) (a1_1 : ByteArray) (a1_2 : Int) (a1_3 : Int) (a1_4 : Int) (a1_5 : Int) (a1_6 : Bool) (a1_7 : Int) (a1_8 : Int) (a2 : Int) (r1 : Int) (r2 : ByteArray) (r3 : Int) (r4 : Int) (r5 : Int) (r6 : Int) (r7 : Bool) (r8 : Int) (r9 : Int) (w : World) (hr0_2 : Kd.C k70 w A0_2 l0_2.length l0_2) (hc0_2 : l0_2.length ≤ c0_2) (h : saga_fails.f k a0_0 a0_1 l0_2 a1_0 a1_1 a1_2 a1_3 a1_4 a1_5 a1_6 a1_7 a1_8 a2 = some (r1, r2, r3, r4, r5, r6, r7, r8, r9)) :
 Calls Tryd.prog 40 #[.agg #[.string a0_0, .int .i64 a0_1, .slice A0_2 l0_2.length c0_2], .agg #[.int .i64 a1_0, .string a1_1, .int .i64 a1_2, .int .i64 a1_3, .int .i64 a1_4, .int .i64 a1_5, .bool a1_6, .int .i64 a1_7, .int .i64 a1_8], .int .i64 a2] w fun e w' => e = .returned (.agg #[.int .i64 r1, .string r2, .int .i64 r3, .int .i64 r4, .int .i64 r5, .int .i64 r6, .bool r7, .int .i64 r8, .int .i64 r9]) ∧ Below w.heap.size w w' := by
 have hu24 := Tryd.underlying24
 have hu31 := Tryd.underlying31
 have hu54 := Tryd.underlying54
 have HR0_2 := ak_ hr0_2
 have HC0_2 := ak_ hc0_2
 clear hr0_2 hc0_2
 have HB := ak_ (Below.refl w.heap.size w)
 have H : ((saga_plan.f a0_0 a0_1 l0_2 a1_0 a1_1 a1_2 a1_3 a1_4 a1_5 a1_6 a1_7 a1_8).bind fun bt243 => ((backoff_Left.f bt243.1 bt243.2.1 bt243.2.2.1 bt243.2.2.2 a1_5).bind fun t248 => (if t248 > 0 then ((backoff_Wait.f k bt243.1 bt243.2.1 bt243.2.2.1 bt243.2.2.2 (wrap64 (a1_5 - 1))).bind fun t249 => ((tick_Add.f a2 t249).bind fun t250 => (some (a1_0, a1_1, a1_2, a1_3, a1_4, a1_5, false, t250, a1_8)))) else (if a1_3 = 0 then ((saga_back.f a1_0 a1_1 a1_2 a1_3 a1_4 a1_5 false a1_7 a1_8 a2).bind fun bt251 => (some (bt251.1, bt251.2.1, bt251.2.2.1, bt251.2.2.2.1, bt251.2.2.2.2.1, bt251.2.2.2.2.2.1, bt251.2.2.2.2.2.2.1, bt251.2.2.2.2.2.2.2.1, bt251.2.2.2.2.2.2.2.2))) else (some (a1_0, a1_1, a1_2, 2, a1_4, a1_5, false, a1_7, a1_8)))))) = some (r1, r2, r3, r4, r5, r6, r7, r8, r9) := h
 clear h
 replace H := ob_ H
 obtain ⟨⟨t243, t244, t245, t246⟩, A40, H⟩ := H
 replace H : ((backoff_Left.f t243 t244 t245 t246 a1_5).bind fun t248 => (if t248 > 0 then ((backoff_Wait.f k t243 t244 t245 t246 (wrap64 (a1_5 - 1))).bind fun t249 => ((tick_Add.f a2 t249).bind fun t250 => (some (a1_0, a1_1, a1_2, a1_3, a1_4, a1_5, false, t250, a1_8)))) else (if a1_3 = 0 then ((saga_back.f a1_0 a1_1 a1_2 a1_3 a1_4 a1_5 false a1_7 a1_8 a2).bind fun bt251 => (some (bt251.1, bt251.2.1, bt251.2.2.1, bt251.2.2.2.1, bt251.2.2.2.2.1, bt251.2.2.2.2.2.1, bt251.2.2.2.2.2.2.1, bt251.2.2.2.2.2.2.2.1, bt251.2.2.2.2.2.2.2.2))) else (some (a1_0, a1_1, a1_2, 2, a1_4, a1_5, false, a1_7, a1_8))))) = some (r1, r2, r3, r4, r5, r6, r7, r8, r9) := H
 have A4 := ak_ A40
 clear A40
 replace H := ob_ H
 obtain ⟨t248, A50, H⟩ := H
 replace H : (if t248 > 0 then ((backoff_Wait.f k t243 t244 t245 t246 (wrap64 (a1_5 - 1))).bind fun t249 => ((tick_Add.f a2 t249).bind fun t250 => (some (a1_0, a1_1, a1_2, a1_3, a1_4, a1_5, false, t250, a1_8)))) else (if a1_3 = 0 then ((saga_back.f a1_0 a1_1 a1_2 a1_3 a1_4 a1_5 false a1_7 a1_8 a2).bind fun bt251 => (some (bt251.1, bt251.2.1, bt251.2.2.1, bt251.2.2.2.1, bt251.2.2.2.2.1, bt251.2.2.2.2.2.1, bt251.2.2.2.2.2.2.1, bt251.2.2.2.2.2.2.2.1, bt251.2.2.2.2.2.2.2.2))) else (some (a1_0, a1_1, a1_2, 2, a1_4, a1_5, false, a1_7, a1_8)))) = some (r1, r2, r3, r4, r5, r6, r7, r8, r9) := H
 have A5 := ak_ A50
 clear A50
 have HF6 := ak_ H
 clear H
 go_enter Tryd.func40, Tryd.ntmps40
 go_upto_if 12 with (first | ((with_reducible refine gate_dst (N := 3) rfl ?_); refine box_event ?hg (N := 3) ?hd (cs := #[.string a0_0, .int .i64 a0_1, .slice A0_2 l0_2.length c0_2]) (t := 24) ?hr ?_; (case hd | hg => rfl); (case hr => first | (go_simp; done) | (go_simp; rfl)); intro gb240 hg w7 hbox hb; have n0_ := ak_ (ps (by with_reducible repeat first | exact HB.out | apply pa | apply pd | apply pe) hb); have n1_ := ak_ (hbox); have n2_ := ak_ ((by rw [hg]; exact (below_size (by with_reducible repeat first | exact HB.out | apply pa | apply pd | apply pe)) : w.heap.size ≤ gb240)); have n3_ := ak_ ((by rw [hg]; exact (below_size (by with_reducible repeat first | exact HB.out | apply pa | apply pd | apply pe)) : w.heap.size ≤ gb240)); clear HB; have HB := n0_; have BK240 := n1_; have GW240 := n2_; have GE240 := n3_; clear n0_ n1_ n2_ n3_ hb hbox hg) | ((with_reducible refine gate_dst (N := 4) rfl ?_); refine box_event ?hg (N := 4) ?hd (cs := #[.int .i64 a1_0, .string a1_1, .int .i64 a1_2, .int .i64 a1_3, .int .i64 a1_4, .int .i64 a1_5, .bool a1_6, .int .i64 a1_7, .int .i64 a1_8]) (t := 31) ?hr ?_; (case hd | hg => rfl); (case hr => first | (go_simp; done) | (go_simp; rfl)); intro gb241 hg w8 hbox hb; have n0_ := ak_ (blk_below (g := gb240) (o := .cells #[.string a0_0, .int .i64 a0_1, .slice A0_2 l0_2.length c0_2] 24 (0, 0)) (by (with_reducible repeat (first | apply zn | apply zd | apply za)); exact BK240.out) hb); have n1_ := ak_ (ps (by with_reducible repeat first | exact HB.out | apply pa | apply pd | apply pe | refine zs ?_ GE240.out) hb); have n2_ := ak_ (hbox); have n3_ := ak_ ((by rw [hg]; exact (below_size (by with_reducible repeat first | exact HB.out | apply pa | apply pd | apply pe | refine zs ?_ GE240.out)) : w.heap.size ≤ gb241)); have n4_ := ak_ ((by rw [hg]; exact (below_size (by with_reducible repeat first | exact HB.out | apply pa | apply pd | apply pe | refine zs ?_ GE240.out)) : w.heap.size ≤ gb241)); have n5_ := ak_ ((by rw [hg]; exact Nat.ne_of_lt (blk_lt (g := gb240) (by (with_reducible repeat (first | apply zn | apply zd | apply za)); exact BK240.out)) : gb240 ≠ gb241)); have n6_ := ak_ ((by rw [hg]; exact Nat.ne_of_gt (blk_lt (g := gb240) (by (with_reducible repeat (first | apply zn | apply zd | apply za)); exact BK240.out)) : gb241 ≠ gb240)); clear BK240 HB; have BK240 := n0_; have HB := n1_; have BK241 := n2_; have GW241 := n3_; have GE241 := n4_; have NB240_241 := n5_; have NB241_240 := n6_; clear n0_ n1_ n2_ n3_ n4_ n5_ n6_ hb hbox hg) | ((with_reducible refine gate_dst (N := 6) rfl ?_); refine box_event ?hg (N := 6) ?hd (cs := #[.int .i64 0, .string ⟨#[]⟩, .int .i64 0, .int .i64 0, .int .i64 0, .int .i64 0, .bool false, .int .i64 0, .int .i64 0]) (t := 31) ?hr ?_; (case hd | hg => rfl); (case hr => first | (go_simp; done) | (go_simp; rfl)); intro gb242 hg w9 hbox hb; have n0_ := ak_ (blk_below (g := gb240) (o := .cells #[.string a0_0, .int .i64 a0_1, .slice A0_2 l0_2.length c0_2] 24 (0, 0)) (by (with_reducible repeat (first | apply zn | apply zd | apply za)); exact BK240.out) hb); have n1_ := ak_ (blk_below (g := gb241) (o := .cells #[.int .i64 a1_0, .string a1_1, .int .i64 a1_2, .int .i64 a1_3, .int .i64 a1_4, .int .i64 a1_5, .bool a1_6, .int .i64 a1_7, .int .i64 a1_8] 31 (0, 0)) (by (with_reducible repeat (first | apply zn | apply zd | apply za)); exact BK241.out) hb); have n2_ := ak_ (ps (by with_reducible repeat first | exact HB.out | apply pa | apply pd | apply pe | refine zs ?_ GE240.out | refine zs ?_ GE241.out) hb); have n3_ := ak_ (hbox); have n4_ := ak_ ((by rw [hg]; exact (below_size (by with_reducible repeat first | exact HB.out | apply pa | apply pd | apply pe | refine zs ?_ GE240.out | refine zs ?_ GE241.out)) : w.heap.size ≤ gb242)); have n5_ := ak_ ((by rw [hg]; exact (below_size (by with_reducible repeat first | exact HB.out | apply pa | apply pd | apply pe | refine zs ?_ GE240.out | refine zs ?_ GE241.out)) : w.heap.size ≤ gb242)); have n6_ := ak_ ((by rw [hg]; exact Nat.ne_of_lt (blk_lt (g := gb240) (by (with_reducible repeat (first | apply zn | apply zd | apply za)); exact BK240.out)) : gb240 ≠ gb242)); have n7_ := ak_ ((by rw [hg]; exact Nat.ne_of_gt (blk_lt (g := gb240) (by (with_reducible repeat (first | apply zn | apply zd | apply za)); exact BK240.out)) : gb242 ≠ gb240)); have n8_ := ak_ ((by rw [hg]; exact Nat.ne_of_lt (blk_lt (g := gb241) (by (with_reducible repeat (first | apply zn | apply zd | apply za)); exact BK241.out)) : gb241 ≠ gb242)); have n9_ := ak_ ((by rw [hg]; exact Nat.ne_of_gt (blk_lt (g := gb241) (by (with_reducible repeat (first | apply zn | apply zd | apply za)); exact BK241.out)) : gb242 ≠ gb241)); clear BK240 BK241 HB; have BK240 := n0_; have BK241 := n1_; have HB := n2_; have BK242 := n3_; have GW242 := n4_; have GE242 := n5_; have NB240_242 := n6_; have NB242_240 := n7_; have NB241_242 := n8_; have NB242_241 := n9_; clear n0_ n1_ n2_ n3_ n4_ n5_ n6_ n7_ n8_ n9_ hb hbox hg; have hnb10 := NB240_241.out; have hnc10 := NB241_240.out; have hnb11 := NB240_242.out; have hnc11 := NB242_240.out; have hcz12_0 : w9.cell? ⟨gb240, 0, none⟩ = some (.string a0_0) := (zc BK240.out 0).trans rfl; have hcz12_1 : w9.cell? ⟨gb240, 1, none⟩ = some (.int .i64 a0_1) := (zc BK240.out 1).trans rfl; have hcz12_2 : w9.cell? ⟨gb240, 2, none⟩ = some (.slice A0_2 l0_2.length c0_2) := (zc BK240.out 2).trans rfl; have hfz12_0 := zf BK240.out 0; have hfz12_1 := zf BK240.out 1; have hfz12_2 := zf BK240.out 2; have hnb13 := NB241_242.out; have hnc13 := NB242_241.out; have hcz14_0 : w9.cell? ⟨gb241, 0, none⟩ = some (.int .i64 a1_0) := (zc BK241.out 0).trans rfl; have hcz14_1 : w9.cell? ⟨gb241, 1, none⟩ = some (.string a1_1) := (zc BK241.out 1).trans rfl; have hcz14_2 : w9.cell? ⟨gb241, 2, none⟩ = some (.int .i64 a1_2) := (zc BK241.out 2).trans rfl; have hcz14_3 : w9.cell? ⟨gb241, 3, none⟩ = some (.int .i64 a1_3) := (zc BK241.out 3).trans rfl; have hcz14_4 : w9.cell? ⟨gb241, 4, none⟩ = some (.int .i64 a1_4) := (zc BK241.out 4).trans rfl; have hcz14_5 : w9.cell? ⟨gb241, 5, none⟩ = some (.int .i64 a1_5) := (zc BK241.out 5).trans rfl; have hcz14_6 : w9.cell? ⟨gb241, 6, none⟩ = some (.bool a1_6) := (zc BK241.out 6).trans rfl; have hcz14_7 : w9.cell? ⟨gb241, 7, none⟩ = some (.int .i64 a1_7) := (zc BK241.out 7).trans rfl; have hcz14_8 : w9.cell? ⟨gb241, 8, none⟩ = some (.int .i64 a1_8) := (zc BK241.out 8).trans rfl; have hfz14_0 := zf BK241.out 0; have hfz14_1 := zf BK241.out 1; have hfz14_2 := zf BK241.out 2; have hfz14_3 := zf BK241.out 3; have hfz14_4 := zf BK241.out 4; have hfz14_5 := zf BK241.out 5; have hfz14_6 := zf BK241.out 6; have hfz14_7 := zf BK241.out 7; have hfz14_8 := zf BK241.out 8) | ((with_reducible refine gate_callee (f := 56) rfl ?_); refine goesL_ (some 10) rfl rfl Tryd.func56 (by kernel_rfl) rfl #[.agg #[.string a0_0, .int .i64 a0_1, .slice A0_2 l0_2.length c0_2], .agg #[.int .i64 a1_0, .string a1_1, .int .i64 a1_2, .int .i64 a1_3, .int .i64 a1_4, .int .i64 a1_5, .bool a1_6, .int .i64 a1_7, .int .i64 a1_8]] rfl (by (try simp only [mt_, mc_, mn_]); first | done | rfl) ?_; (with_reducible refine (saga_plan.calls a0_0 a0_1 _ _ l0_2 a1_0 a1_1 a1_2 a1_3 a1_4 a1_5 a1_6 a1_7 a1_8 t243 t244 t245 t246 _ ?side1 ?side2 A4.out).mono ?_); (case side1 => repeat (first | exact (Kd.C_below HR0_2.out HB.out) | (with_reducible refine Kd.C_alloc ?_ _) | (with_reducible refine Kd.C_drewN ?_ _) | (with_reducible refine Kd.C_drew ?_))); (case side2 => exact HC0_2.out); rintro e w15 ⟨rfl, hb⟩; refine ⟨_, rfl, ?_⟩; have n0_ := ak_ (blk_below (g := gb240) (o := .cells #[.string a0_0, .int .i64 a0_1, .slice A0_2 l0_2.length c0_2] 24 (0, 0)) (by (with_reducible repeat (first | apply zn | apply zd | apply za)); exact BK240.out) hb); have n1_ := ak_ (blk_below (g := gb241) (o := .cells #[.int .i64 a1_0, .string a1_1, .int .i64 a1_2, .int .i64 a1_3, .int .i64 a1_4, .int .i64 a1_5, .bool a1_6, .int .i64 a1_7, .int .i64 a1_8] 31 (0, 0)) (by (with_reducible repeat (first | apply zn | apply zd | apply za)); exact BK241.out) hb); have n2_ := ak_ (blk_below (g := gb242) (o := .cells #[.int .i64 0, .string ⟨#[]⟩, .int .i64 0, .int .i64 0, .int .i64 0, .int .i64 0, .bool false, .int .i64 0, .int .i64 0] 31 (0, 0)) (by (with_reducible repeat (first | apply zn | apply zd | apply za)); exact BK242.out) hb); have n3_ := ak_ (ps (by with_reducible repeat first | exact HB.out | apply pa | apply pd | apply pe | refine zs ?_ GE240.out | refine zs ?_ GE241.out | refine zs ?_ GE242.out) hb); clear BK240 BK241 BK242 HB; have BK240 := n0_; have BK241 := n1_; have BK242 := n2_; have HB := n3_; clear n0_ n1_ n2_ n3_) | ((with_reducible refine gate_dst (N := 7) rfl ?_); refine box_event ?hg (N := 7) ?hd (cs := #[.int .i64 0, .int .i64 0, .int .i64 0, .int .i64 0]) (t := 54) ?hr ?_; (case hd | hg => rfl); (case hr => first | (go_simp; done) | (go_simp; rfl)); intro gb247 hg w16 hbox hb; have n0_ := ak_ (blk_below (g := gb240) (o := .cells #[.string a0_0, .int .i64 a0_1, .slice A0_2 l0_2.length c0_2] 24 (0, 0)) (by (with_reducible repeat (first | apply zn | apply zd | apply za)); exact BK240.out) hb); have n1_ := ak_ (blk_below (g := gb241) (o := .cells #[.int .i64 a1_0, .string a1_1, .int .i64 a1_2, .int .i64 a1_3, .int .i64 a1_4, .int .i64 a1_5, .bool a1_6, .int .i64 a1_7, .int .i64 a1_8] 31 (0, 0)) (by (with_reducible repeat (first | apply zn | apply zd | apply za)); exact BK241.out) hb); have n2_ := ak_ (blk_below (g := gb242) (o := .cells #[.int .i64 0, .string ⟨#[]⟩, .int .i64 0, .int .i64 0, .int .i64 0, .int .i64 0, .bool false, .int .i64 0, .int .i64 0] 31 (0, 0)) (by (with_reducible repeat (first | apply zn | apply zd | apply za)); exact BK242.out) hb); have n3_ := ak_ (ps (by with_reducible repeat first | exact HB.out | apply pa | apply pd | apply pe | refine zs ?_ GE240.out | refine zs ?_ GE241.out | refine zs ?_ GE242.out) hb); have n4_ := ak_ (hbox); have n5_ := ak_ ((by rw [hg]; exact (below_size (by with_reducible repeat first | exact HB.out | apply pa | apply pd | apply pe | refine zs ?_ GE240.out | refine zs ?_ GE241.out | refine zs ?_ GE242.out)) : w.heap.size ≤ gb247)); have n6_ := ak_ ((by rw [hg]; exact (below_size (by with_reducible repeat first | exact HB.out | apply pa | apply pd | apply pe | refine zs ?_ GE240.out | refine zs ?_ GE241.out | refine zs ?_ GE242.out)) : w.heap.size ≤ gb247)); have n7_ := ak_ ((by rw [hg]; exact Nat.ne_of_lt (blk_lt (g := gb240) (by (with_reducible repeat (first | apply zn | apply zd | apply za)); exact BK240.out)) : gb240 ≠ gb247)); have n8_ := ak_ ((by rw [hg]; exact Nat.ne_of_gt (blk_lt (g := gb240) (by (with_reducible repeat (first | apply zn | apply zd | apply za)); exact BK240.out)) : gb247 ≠ gb240)); have n9_ := ak_ ((by rw [hg]; exact Nat.ne_of_lt (blk_lt (g := gb241) (by (with_reducible repeat (first | apply zn | apply zd | apply za)); exact BK241.out)) : gb241 ≠ gb247)); have n10_ := ak_ ((by rw [hg]; exact Nat.ne_of_gt (blk_lt (g := gb241) (by (with_reducible repeat (first | apply zn | apply zd | apply za)); exact BK241.out)) : gb247 ≠ gb241)); have n11_ := ak_ ((by rw [hg]; exact Nat.ne_of_lt (blk_lt (g := gb242) (by (with_reducible repeat (first | apply zn | apply zd | apply za)); exact BK242.out)) : gb242 ≠ gb247)); have n12_ := ak_ ((by rw [hg]; exact Nat.ne_of_gt (blk_lt (g := gb242) (by (with_reducible repeat (first | apply zn | apply zd | apply za)); exact BK242.out)) : gb247 ≠ gb242)); clear BK240 BK241 BK242 HB; have BK240 := n0_; have BK241 := n1_; have BK242 := n2_; have HB := n3_; have BK247 := n4_; have GW247 := n5_; have GE247 := n6_; have NB240_247 := n7_; have NB247_240 := n8_; have NB241_247 := n9_; have NB247_241 := n10_; have NB242_247 := n11_; have NB247_242 := n12_; clear n0_ n1_ n2_ n3_ n4_ n5_ n6_ n7_ n8_ n9_ n10_ n11_ n12_ hb hbox hg; have hnb17 := NB247_240.out; have hnc17 := NB240_247.out; have hnb18 := NB247_241.out; have hnc18 := NB241_247.out; have hnb19 := NB247_242.out; have hnc19 := NB242_247.out; have hcz20_0 : w16.cell? ⟨gb247, 0, none⟩ = some (.int .i64 0) := (zc BK247.out 0).trans rfl; have hcz20_1 : w16.cell? ⟨gb247, 1, none⟩ = some (.int .i64 0) := (zc BK247.out 1).trans rfl; have hcz20_2 : w16.cell? ⟨gb247, 2, none⟩ = some (.int .i64 0) := (zc BK247.out 2).trans rfl; have hcz20_3 : w16.cell? ⟨gb247, 3, none⟩ = some (.int .i64 0) := (zc BK247.out 3).trans rfl; have hfz20_0 := zf BK247.out 0; have hfz20_1 := zf BK247.out 1; have hfz20_2 := zf BK247.out 2; have hfz20_3 := zf BK247.out 3; have hcz21_0 : w16.cell? ⟨gb241, 0, none⟩ = some (.int .i64 a1_0) := (zc BK241.out 0).trans rfl; have hcz21_1 : w16.cell? ⟨gb241, 1, none⟩ = some (.string a1_1) := (zc BK241.out 1).trans rfl; have hcz21_2 : w16.cell? ⟨gb241, 2, none⟩ = some (.int .i64 a1_2) := (zc BK241.out 2).trans rfl; have hcz21_3 : w16.cell? ⟨gb241, 3, none⟩ = some (.int .i64 a1_3) := (zc BK241.out 3).trans rfl; have hcz21_4 : w16.cell? ⟨gb241, 4, none⟩ = some (.int .i64 a1_4) := (zc BK241.out 4).trans rfl; have hcz21_5 : w16.cell? ⟨gb241, 5, none⟩ = some (.int .i64 a1_5) := (zc BK241.out 5).trans rfl; have hcz21_6 : w16.cell? ⟨gb241, 6, none⟩ = some (.bool a1_6) := (zc BK241.out 6).trans rfl; have hcz21_7 : w16.cell? ⟨gb241, 7, none⟩ = some (.int .i64 a1_7) := (zc BK241.out 7).trans rfl; have hcz21_8 : w16.cell? ⟨gb241, 8, none⟩ = some (.int .i64 a1_8) := (zc BK241.out 8).trans rfl; have hfz21_0 := zf BK241.out 0; have hfz21_1 := zf BK241.out 1; have hfz21_2 := zf BK241.out 2; have hfz21_3 := zf BK241.out 3; have hfz21_4 := zf BK241.out 4; have hfz21_5 := zf BK241.out 5; have hfz21_6 := zf BK241.out 6; have hfz21_7 := zf BK241.out 7; have hfz21_8 := zf BK241.out 8) | ((with_reducible refine gate_callee (f := 55) rfl ?_); refine goesL_ (some 16) rfl rfl Tryd.func55 (by kernel_rfl) rfl #[.agg #[.int .i64 t243, .int .i64 t244, .int .i64 t245, .int .i64 t246], .int .i64 a1_5] rfl (by (try simp only [mt_, mc_, mn_]); first | done | rfl) ?_; (with_reducible refine (backoff_Left.calls t243 t244 t245 t246 a1_5 t248 _ A5.out).mono ?_); rintro e w22 ⟨rfl, hb⟩; refine ⟨_, rfl, ?_⟩; have n0_ := ak_ (blk_below (g := gb240) (o := .cells #[.string a0_0, .int .i64 a0_1, .slice A0_2 l0_2.length c0_2] 24 (0, 0)) (by (with_reducible repeat (first | apply zn | apply zd | apply za)); refine zr ?_ NB240_241.out _; (repeat (first | (with_reducible first | apply zn | apply zd | apply za) | refine zr ?_ NB240_247.out _)); (with_reducible repeat (first | apply zn | apply zd | apply za)); exact BK240.out) hb); have n1_ := ak_ (blk_below (g := gb241) (o := .cells #[.int .i64 a1_0, .string a1_1, .int .i64 a1_2, .int .i64 a1_3, .int .i64 a1_4, .int .i64 a1_5, .bool false, .int .i64 a1_7, .int .i64 a1_8] 31 (0, 0)) (by (with_reducible repeat (first | apply zn | apply zd | apply za)); refine zp (cs := #[.int .i64 a1_0, .string a1_1, .int .i64 a1_2, .int .i64 a1_3, .int .i64 a1_4, .int .i64 a1_5, .bool a1_6, .int .i64 a1_7, .int .i64 a1_8]) ?_ 6 _ rfl; (repeat (first | (with_reducible first | apply zn | apply zd | apply za) | refine zr ?_ NB241_247.out _)); (with_reducible repeat (first | apply zn | apply zd | apply za)); exact BK241.out) hb); have n2_ := ak_ (blk_below (g := gb242) (o := .cells #[.int .i64 0, .string ⟨#[]⟩, .int .i64 0, .int .i64 0, .int .i64 0, .int .i64 0, .bool false, .int .i64 0, .int .i64 0] 31 (0, 0)) (by (with_reducible repeat (first | apply zn | apply zd | apply za)); refine zr ?_ NB242_241.out _; (repeat (first | (with_reducible first | apply zn | apply zd | apply za) | refine zr ?_ NB242_247.out _)); (with_reducible repeat (first | apply zn | apply zd | apply za)); exact BK242.out) hb); have n3_ := ak_ (blk_below (g := gb247) (o := .cells #[.int .i64 t243, .int .i64 t244, .int .i64 t245, .int .i64 t246] 54 (0, 0)) (by (with_reducible repeat (first | apply zn | apply zd | apply za)); refine zr ?_ NB247_241.out _; (with_reducible repeat (first | apply zn | apply zd | apply za)); refine zp (cs := #[.int .i64 t243, .int .i64 t244, .int .i64 t245, .int .i64 0]) ?_ 3 _ rfl; (with_reducible repeat (first | apply zn | apply zd | apply za)); refine zp (cs := #[.int .i64 t243, .int .i64 t244, .int .i64 0, .int .i64 0]) ?_ 2 _ rfl; (with_reducible repeat (first | apply zn | apply zd | apply za)); refine zp (cs := #[.int .i64 t243, .int .i64 0, .int .i64 0, .int .i64 0]) ?_ 1 _ rfl; (with_reducible repeat (first | apply zn | apply zd | apply za)); refine zp (cs := #[.int .i64 0, .int .i64 0, .int .i64 0, .int .i64 0]) ?_ 0 _ rfl; (with_reducible repeat (first | apply zn | apply zd | apply za)); exact BK247.out) hb); have n4_ := ak_ (ps (by with_reducible repeat first | exact HB.out | apply pa | apply pd | apply pe | refine zs ?_ GE240.out | refine zs ?_ GE241.out | refine zs ?_ GE242.out | refine zs ?_ GE247.out) hb); clear BK240 BK241 BK242 BK247 HB; have BK240 := n0_; have BK241 := n1_; have BK242 := n2_; have BK247 := n3_; have HB := n4_; clear n0_ n1_ n2_ n3_ n4_))
 (try simp only [Act.put, sa_, sz_, ss_])
 have H := HF6.out
 clear HF6
 by_cases c23 : t248 > 0
 · rw [if_pos c23] at H
   have c23b0 : decide (0 < t248) = true := dt_ c23
   clear c23
   (first | rw [c23b0] | (simp only [i64_w, i32_w]; rw [c23b0]) | skip)
   replace H := ob_ H
   obtain ⟨t249, A240, H⟩ := H
   replace H : ((tick_Add.f a2 t249).bind fun t250 => (some (a1_0, a1_1, a1_2, a1_3, a1_4, a1_5, false, t250, a1_8))) = some (r1, r2, r3, r4, r5, r6, r7, r8, r9) := H
   have A24 := ak_ A240
   clear A240
   replace H := ob_ H
   obtain ⟨t250, A250, H⟩ := H
   replace H : (some (a1_0, a1_1, a1_2, a1_3, a1_4, a1_5, false, t250, a1_8)) = some (r1, r2, r3, r4, r5, r6, r7, r8, r9) := H
   have A25 := ak_ A250
   clear A250
   simp only [Option.some.injEq, Prod.mk.injEq] at H
   obtain ⟨rfl, rfl, rfl, rfl, rfl, rfl, rfl, rfl, rfl⟩ := H
   have hnb26 := NB247_240.out
   have hnc26 := NB240_247.out
   have hnb27 := NB247_241.out
   have hnc27 := NB241_247.out
   have hnb28 := NB247_242.out
   have hnc28 := NB242_247.out
   have hcz29_0 : w22.cell? ⟨gb247, 0, none⟩ = some (.int .i64 t243) := (zc BK247.out 0).trans rfl
   have hcz29_1 : w22.cell? ⟨gb247, 1, none⟩ = some (.int .i64 t244) := (zc BK247.out 1).trans rfl
   have hcz29_2 : w22.cell? ⟨gb247, 2, none⟩ = some (.int .i64 t245) := (zc BK247.out 2).trans rfl
   have hcz29_3 : w22.cell? ⟨gb247, 3, none⟩ = some (.int .i64 t246) := (zc BK247.out 3).trans rfl
   have hfz29_0 := zf BK247.out 0
   have hfz29_1 := zf BK247.out 1
   have hfz29_2 := zf BK247.out 2
   have hfz29_3 := zf BK247.out 3
   have hnb30 := NB241_240.out
   have hnc30 := NB240_241.out
   have hnb31 := NB241_242.out
   have hnc31 := NB242_241.out
   have hcz32_0 : w22.cell? ⟨gb241, 0, none⟩ = some (.int .i64 a1_0) := (zc BK241.out 0).trans rfl
   have hcz32_1 : w22.cell? ⟨gb241, 1, none⟩ = some (.string a1_1) := (zc BK241.out 1).trans rfl
   have hcz32_2 : w22.cell? ⟨gb241, 2, none⟩ = some (.int .i64 a1_2) := (zc BK241.out 2).trans rfl
   have hcz32_3 : w22.cell? ⟨gb241, 3, none⟩ = some (.int .i64 a1_3) := (zc BK241.out 3).trans rfl
   have hcz32_4 : w22.cell? ⟨gb241, 4, none⟩ = some (.int .i64 a1_4) := (zc BK241.out 4).trans rfl
   have hcz32_5 : w22.cell? ⟨gb241, 5, none⟩ = some (.int .i64 a1_5) := (zc BK241.out 5).trans rfl
   have hcz32_6 : w22.cell? ⟨gb241, 6, none⟩ = some (.bool false) := (zc BK241.out 6).trans rfl
   have hcz32_7 : w22.cell? ⟨gb241, 7, none⟩ = some (.int .i64 a1_7) := (zc BK241.out 7).trans rfl
   have hcz32_8 : w22.cell? ⟨gb241, 8, none⟩ = some (.int .i64 a1_8) := (zc BK241.out 8).trans rfl
   have hfz32_0 := zf BK241.out 0
   have hfz32_1 := zf BK241.out 1
   have hfz32_2 := zf BK241.out 2
   have hfz32_3 := zf BK241.out 3
   have hfz32_4 := zf BK241.out 4
   have hfz32_5 := zf BK241.out 5
   have hfz32_6 := zf BK241.out 6
   have hfz32_7 := zf BK241.out 7
   have hfz32_8 := zf BK241.out 8
   go_wp2_with (first | ((with_reducible refine gate_callee (f := 73) rfl ?_); refine goesL_ (some 23) rfl rfl Tryd.func73 (by kernel_rfl) rfl #[.agg #[.int .i64 t243, .int .i64 t244, .int .i64 t245, .int .i64 t246], .int .i64 (wrap64 (a1_5 - 1))] rfl (by (try simp only [mt_, mc_, mn_]); first | done | rfl) ?_; (with_reducible refine (backoff_Wait.calls k t243 t244 t245 t246 (wrap64 (a1_5 - 1)) t249 _ A24.out).mono ?_); rintro e w33 ⟨rfl, hb⟩; refine ⟨_, rfl, ?_⟩; have n0_ := ak_ (blk_below (g := gb240) (o := .cells #[.string a0_0, .int .i64 a0_1, .slice A0_2 l0_2.length c0_2] 24 (0, 0)) (by (with_reducible repeat (first | apply zn | apply zd | apply za)); exact BK240.out) hb); have n1_ := ak_ (blk_below (g := gb241) (o := .cells #[.int .i64 a1_0, .string a1_1, .int .i64 a1_2, .int .i64 a1_3, .int .i64 a1_4, .int .i64 a1_5, .bool false, .int .i64 a1_7, .int .i64 a1_8] 31 (0, 0)) (by (with_reducible repeat (first | apply zn | apply zd | apply za)); exact BK241.out) hb); have n2_ := ak_ (blk_below (g := gb242) (o := .cells #[.int .i64 0, .string ⟨#[]⟩, .int .i64 0, .int .i64 0, .int .i64 0, .int .i64 0, .bool false, .int .i64 0, .int .i64 0] 31 (0, 0)) (by (with_reducible repeat (first | apply zn | apply zd | apply za)); exact BK242.out) hb); have n3_ := ak_ (blk_below (g := gb247) (o := .cells #[.int .i64 t243, .int .i64 t244, .int .i64 t245, .int .i64 t246] 54 (0, 0)) (by (with_reducible repeat (first | apply zn | apply zd | apply za)); exact BK247.out) hb); have n4_ := ak_ (ps (by with_reducible repeat first | exact HB.out | apply pa | apply pd | apply pe | refine zs ?_ GE240.out | refine zs ?_ GE241.out | refine zs ?_ GE242.out | refine zs ?_ GE247.out) hb); clear BK240 BK241 BK242 BK247 HB; have BK240 := n0_; have BK241 := n1_; have BK242 := n2_; have BK247 := n3_; have HB := n4_; clear n0_ n1_ n2_ n3_ n4_) | ((with_reducible refine gate_callee (f := 36) rfl ?_); refine goesL_ (some 24) rfl rfl Tryd.func36 (by kernel_rfl) rfl #[.int .i64 a2, .int .i64 t249] rfl (by simp only [mt_, mc_, mn_] <;> rfl) ?_; (with_reducible refine (tick_Add.calls a2 t249 t250 _ A25.out).mono ?_); rintro e w34 ⟨rfl, hb⟩; refine ⟨_, rfl, ?_⟩; have n0_ := ak_ (blk_below (g := gb240) (o := .cells #[.string a0_0, .int .i64 a0_1, .slice A0_2 l0_2.length c0_2] 24 (0, 0)) (by (with_reducible repeat (first | apply zn | apply zd | apply za)); exact BK240.out) hb); have n1_ := ak_ (blk_below (g := gb241) (o := .cells #[.int .i64 a1_0, .string a1_1, .int .i64 a1_2, .int .i64 a1_3, .int .i64 a1_4, .int .i64 a1_5, .bool false, .int .i64 a1_7, .int .i64 a1_8] 31 (0, 0)) (by (with_reducible repeat (first | apply zn | apply zd | apply za)); exact BK241.out) hb); have n2_ := ak_ (blk_below (g := gb242) (o := .cells #[.int .i64 0, .string ⟨#[]⟩, .int .i64 0, .int .i64 0, .int .i64 0, .int .i64 0, .bool false, .int .i64 0, .int .i64 0] 31 (0, 0)) (by (with_reducible repeat (first | apply zn | apply zd | apply za)); exact BK242.out) hb); have n3_ := ak_ (blk_below (g := gb247) (o := .cells #[.int .i64 t243, .int .i64 t244, .int .i64 t245, .int .i64 t246] 54 (0, 0)) (by (with_reducible repeat (first | apply zn | apply zd | apply za)); exact BK247.out) hb); have n4_ := ak_ (ps (by with_reducible repeat first | exact HB.out | apply pa | apply pd | apply pe | refine zs ?_ GE240.out | refine zs ?_ GE241.out | refine zs ?_ GE242.out | refine zs ?_ GE247.out) hb); clear BK240 BK241 BK242 BK247 HB; have BK240 := n0_; have BK241 := n1_; have BK242 := n2_; have BK247 := n3_; have HB := n4_; clear n0_ n1_ n2_ n3_ n4_; have hcz35_0 : w34.cell? ⟨gb241, 0, none⟩ = some (.int .i64 a1_0) := (zc BK241.out 0).trans rfl; have hcz35_1 : w34.cell? ⟨gb241, 1, none⟩ = some (.string a1_1) := (zc BK241.out 1).trans rfl; have hcz35_2 : w34.cell? ⟨gb241, 2, none⟩ = some (.int .i64 a1_2) := (zc BK241.out 2).trans rfl; have hcz35_3 : w34.cell? ⟨gb241, 3, none⟩ = some (.int .i64 a1_3) := (zc BK241.out 3).trans rfl; have hcz35_4 : w34.cell? ⟨gb241, 4, none⟩ = some (.int .i64 a1_4) := (zc BK241.out 4).trans rfl; have hcz35_5 : w34.cell? ⟨gb241, 5, none⟩ = some (.int .i64 a1_5) := (zc BK241.out 5).trans rfl; have hcz35_6 : w34.cell? ⟨gb241, 6, none⟩ = some (.bool false) := (zc BK241.out 6).trans rfl; have hcz35_7 : w34.cell? ⟨gb241, 7, none⟩ = some (.int .i64 a1_7) := (zc BK241.out 7).trans rfl; have hcz35_8 : w34.cell? ⟨gb241, 8, none⟩ = some (.int .i64 a1_8) := (zc BK241.out 8).trans rfl; have hfz35_0 := zf BK241.out 0; have hfz35_1 := zf BK241.out 1; have hfz35_2 := zf BK241.out 2; have hfz35_3 := zf BK241.out 3; have hfz35_4 := zf BK241.out 4; have hfz35_5 := zf BK241.out 5; have hfz35_6 := zf BK241.out 6; have hfz35_7 := zf BK241.out 7; have hfz35_8 := zf BK241.out 8; have hnb36 := NB242_240.out; have hnc36 := NB240_242.out; have hcz37_0 : w34.cell? ⟨gb242, 0, none⟩ = some (.int .i64 0) := (zc BK242.out 0).trans rfl; have hcz37_1 : w34.cell? ⟨gb242, 1, none⟩ = some (.string ⟨#[]⟩) := (zc BK242.out 1).trans rfl; have hcz37_2 : w34.cell? ⟨gb242, 2, none⟩ = some (.int .i64 0) := (zc BK242.out 2).trans rfl; have hcz37_3 : w34.cell? ⟨gb242, 3, none⟩ = some (.int .i64 0) := (zc BK242.out 3).trans rfl; have hcz37_4 : w34.cell? ⟨gb242, 4, none⟩ = some (.int .i64 0) := (zc BK242.out 4).trans rfl; have hcz37_5 : w34.cell? ⟨gb242, 5, none⟩ = some (.int .i64 0) := (zc BK242.out 5).trans rfl; have hcz37_6 : w34.cell? ⟨gb242, 6, none⟩ = some (.bool false) := (zc BK242.out 6).trans rfl; have hcz37_7 : w34.cell? ⟨gb242, 7, none⟩ = some (.int .i64 0) := (zc BK242.out 7).trans rfl; have hcz37_8 : w34.cell? ⟨gb242, 8, none⟩ = some (.int .i64 0) := (zc BK242.out 8).trans rfl; have hfz37_0 := zf BK242.out 0; have hfz37_1 := zf BK242.out 1; have hfz37_2 := zf BK242.out 2; have hfz37_3 := zf BK242.out 3; have hfz37_4 := zf BK242.out 4; have hfz37_5 := zf BK242.out 5; have hfz37_6 := zf BK242.out 6; have hfz37_7 := zf BK242.out 7; have hfz37_8 := zf BK242.out 8))
   refine bodyPost_ret (results_cell_row rfl _ _ gb242 31 #[.int .i64 a1_0, .string a1_1, .int .i64 a1_2, .int .i64 a1_3, .int .i64 a1_4, .int .i64 a1_5, .bool false, .int .i64 t250, .int .i64 a1_8] (0, 0) _ rfl (by (with_reducible repeat (first | apply zn | apply zd | apply za)); refine zp (cs := #[.int .i64 a1_0, .string a1_1, .int .i64 a1_2, .int .i64 a1_3, .int .i64 a1_4, .int .i64 a1_5, .bool false, .int .i64 t250, .int .i64 0]) ?_ 8 _ rfl; (with_reducible repeat (first | apply zn | apply zd | apply za)); refine zp (cs := #[.int .i64 a1_0, .string a1_1, .int .i64 a1_2, .int .i64 a1_3, .int .i64 a1_4, .int .i64 a1_5, .bool false, .int .i64 0, .int .i64 0]) ?_ 7 _ rfl; (with_reducible repeat (first | apply zn | apply zd | apply za)); refine zp (cs := #[.int .i64 a1_0, .string a1_1, .int .i64 a1_2, .int .i64 a1_3, .int .i64 a1_4, .int .i64 a1_5, .bool false, .int .i64 0, .int .i64 0]) ?_ 6 _ rfl; (with_reducible repeat (first | apply zn | apply zd | apply za)); refine zp (cs := #[.int .i64 a1_0, .string a1_1, .int .i64 a1_2, .int .i64 a1_3, .int .i64 a1_4, .int .i64 0, .bool false, .int .i64 0, .int .i64 0]) ?_ 5 _ rfl; (with_reducible repeat (first | apply zn | apply zd | apply za)); refine zp (cs := #[.int .i64 a1_0, .string a1_1, .int .i64 a1_2, .int .i64 a1_3, .int .i64 0, .int .i64 0, .bool false, .int .i64 0, .int .i64 0]) ?_ 4 _ rfl; (with_reducible repeat (first | apply zn | apply zd | apply za)); refine zp (cs := #[.int .i64 a1_0, .string a1_1, .int .i64 a1_2, .int .i64 0, .int .i64 0, .int .i64 0, .bool false, .int .i64 0, .int .i64 0]) ?_ 3 _ rfl; (with_reducible repeat (first | apply zn | apply zd | apply za)); refine zp (cs := #[.int .i64 a1_0, .string a1_1, .int .i64 0, .int .i64 0, .int .i64 0, .int .i64 0, .bool false, .int .i64 0, .int .i64 0]) ?_ 2 _ rfl; (with_reducible repeat (first | apply zn | apply zd | apply za)); refine zp (cs := #[.int .i64 a1_0, .string ⟨#[]⟩, .int .i64 0, .int .i64 0, .int .i64 0, .int .i64 0, .bool false, .int .i64 0, .int .i64 0]) ?_ 1 _ rfl; (with_reducible repeat (first | apply zn | apply zd | apply za)); refine zp (cs := #[.int .i64 0, .string ⟨#[]⟩, .int .i64 0, .int .i64 0, .int .i64 0, .int .i64 0, .bool false, .int .i64 0, .int .i64 0]) ?_ 0 _ rfl; (with_reducible repeat (first | apply zn | apply zd | apply za)); refine zr ?_ NB242_241.out _; (with_reducible repeat (first | apply zn | apply zd | apply za)); exact BK242.out) Tryd.underlying31 rfl (by kernel_rfl)) rfl ?_
   exact ⟨by first | rfl | simp [*], by repeat (first | (with_reducible first | exact HB.out | apply pa | apply pd | apply pe | refine zs ?_ GE240.out | refine zs ?_ GE241.out | refine zs ?_ GE242.out | refine zs ?_ GE247.out) | exact HB.out)⟩
 rw [if_neg c23] at H
 have c23b0 : decide (0 < t248) = false := df_ c23
 clear c23
 (first | rw [c23b0] | (simp only [i64_w, i32_w]; rw [c23b0]) | skip)
 have HF38 := ak_ H
 clear H
 have hnb39 := NB241_240.out
 have hnc39 := NB240_241.out
 have hnb40 := NB241_242.out
 have hnc40 := NB242_241.out
 have hnb41 := NB241_247.out
 have hnc41 := NB247_241.out
 have hcz42_0 : w22.cell? ⟨gb241, 0, none⟩ = some (.int .i64 a1_0) := (zc BK241.out 0).trans rfl
 have hcz42_1 : w22.cell? ⟨gb241, 1, none⟩ = some (.string a1_1) := (zc BK241.out 1).trans rfl
 have hcz42_2 : w22.cell? ⟨gb241, 2, none⟩ = some (.int .i64 a1_2) := (zc BK241.out 2).trans rfl
 have hcz42_3 : w22.cell? ⟨gb241, 3, none⟩ = some (.int .i64 a1_3) := (zc BK241.out 3).trans rfl
 have hcz42_4 : w22.cell? ⟨gb241, 4, none⟩ = some (.int .i64 a1_4) := (zc BK241.out 4).trans rfl
 have hcz42_5 : w22.cell? ⟨gb241, 5, none⟩ = some (.int .i64 a1_5) := (zc BK241.out 5).trans rfl
 have hcz42_6 : w22.cell? ⟨gb241, 6, none⟩ = some (.bool false) := (zc BK241.out 6).trans rfl
 have hcz42_7 : w22.cell? ⟨gb241, 7, none⟩ = some (.int .i64 a1_7) := (zc BK241.out 7).trans rfl
 have hcz42_8 : w22.cell? ⟨gb241, 8, none⟩ = some (.int .i64 a1_8) := (zc BK241.out 8).trans rfl
 have hfz42_0 := zf BK241.out 0
 have hfz42_1 := zf BK241.out 1
 have hfz42_2 := zf BK241.out 2
 have hfz42_3 := zf BK241.out 3
 have hfz42_4 := zf BK241.out 4
 have hfz42_5 := zf BK241.out 5
 have hfz42_6 := zf BK241.out 6
 have hfz42_7 := zf BK241.out 7
 have hfz42_8 := zf BK241.out 8
 go_upto_if 27 with (fail)
 have H := HF38.out
 clear HF38
 by_cases c43 : a1_3 = 0
 · rw [if_pos c43] at H
   have c43b0 : (a1_3 == 0) = true := beq_iff_eq.mpr c43
   have c43b1 : (a1_3 != 0) = false := bne_eq_false_iff_eq.mpr c43
   clear c43
   (first | rw [c43b0] | (simp only [i64_w, i32_w]; rw [c43b0]) | skip)
   replace H := ob_ H
   obtain ⟨⟨t251, t252, t253, t254, t255, t256, t257, t258, t259⟩, A440, H⟩ := H
   replace H : (some (t251, t252, t253, t254, t255, t256, t257, t258, t259)) = some (r1, r2, r3, r4, r5, r6, r7, r8, r9) := H
   have A44 := ak_ A440
   clear A440
   simp only [Option.some.injEq, Prod.mk.injEq] at H
   obtain ⟨rfl, rfl, rfl, rfl, rfl, rfl, rfl, rfl, rfl⟩ := H
   have hnb45 := NB241_240.out
   have hnc45 := NB240_241.out
   have hnb46 := NB241_242.out
   have hnc46 := NB242_241.out
   have hnb47 := NB241_247.out
   have hnc47 := NB247_241.out
   have hcz48_0 : w22.cell? ⟨gb241, 0, none⟩ = some (.int .i64 a1_0) := (zc BK241.out 0).trans rfl
   have hcz48_1 : w22.cell? ⟨gb241, 1, none⟩ = some (.string a1_1) := (zc BK241.out 1).trans rfl
   have hcz48_2 : w22.cell? ⟨gb241, 2, none⟩ = some (.int .i64 a1_2) := (zc BK241.out 2).trans rfl
   have hcz48_3 : w22.cell? ⟨gb241, 3, none⟩ = some (.int .i64 a1_3) := (zc BK241.out 3).trans rfl
   have hcz48_4 : w22.cell? ⟨gb241, 4, none⟩ = some (.int .i64 a1_4) := (zc BK241.out 4).trans rfl
   have hcz48_5 : w22.cell? ⟨gb241, 5, none⟩ = some (.int .i64 a1_5) := (zc BK241.out 5).trans rfl
   have hcz48_6 : w22.cell? ⟨gb241, 6, none⟩ = some (.bool false) := (zc BK241.out 6).trans rfl
   have hcz48_7 : w22.cell? ⟨gb241, 7, none⟩ = some (.int .i64 a1_7) := (zc BK241.out 7).trans rfl
   have hcz48_8 : w22.cell? ⟨gb241, 8, none⟩ = some (.int .i64 a1_8) := (zc BK241.out 8).trans rfl
   have hfz48_0 := zf BK241.out 0
   have hfz48_1 := zf BK241.out 1
   have hfz48_2 := zf BK241.out 2
   have hfz48_3 := zf BK241.out 3
   have hfz48_4 := zf BK241.out 4
   have hfz48_5 := zf BK241.out 5
   have hfz48_6 := zf BK241.out 6
   have hfz48_7 := zf BK241.out 7
   have hfz48_8 := zf BK241.out 8
   go_wp2_with (first | ((with_reducible refine gate_callee (f := 41) rfl ?_); refine goesL_ (some 33) rfl rfl Tryd.func41 (by kernel_rfl) rfl #[.agg #[.int .i64 a1_0, .string a1_1, .int .i64 a1_2, .int .i64 a1_3, .int .i64 a1_4, .int .i64 a1_5, .bool false, .int .i64 a1_7, .int .i64 a1_8], .int .i64 a2] rfl (by (try simp only [mt_, mc_, mn_]); first | done | rfl) ?_; (with_reducible refine (saga_back.calls a1_0 a1_1 a1_2 a1_3 a1_4 a1_5 false a1_7 a1_8 a2 t251 t252 t253 t254 t255 t256 t257 t258 t259 _ A44.out).mono ?_); rintro e w49 ⟨rfl, hb⟩; refine ⟨_, rfl, ?_⟩; have n0_ := ak_ (blk_below (g := gb240) (o := .cells #[.string a0_0, .int .i64 a0_1, .slice A0_2 l0_2.length c0_2] 24 (0, 0)) (by (with_reducible repeat (first | apply zn | apply zd | apply za)); exact BK240.out) hb); have n1_ := ak_ (blk_below (g := gb241) (o := .cells #[.int .i64 a1_0, .string a1_1, .int .i64 a1_2, .int .i64 a1_3, .int .i64 a1_4, .int .i64 a1_5, .bool false, .int .i64 a1_7, .int .i64 a1_8] 31 (0, 0)) (by (with_reducible repeat (first | apply zn | apply zd | apply za)); exact BK241.out) hb); have n2_ := ak_ (blk_below (g := gb242) (o := .cells #[.int .i64 0, .string ⟨#[]⟩, .int .i64 0, .int .i64 0, .int .i64 0, .int .i64 0, .bool false, .int .i64 0, .int .i64 0] 31 (0, 0)) (by (with_reducible repeat (first | apply zn | apply zd | apply za)); exact BK242.out) hb); have n3_ := ak_ (blk_below (g := gb247) (o := .cells #[.int .i64 t243, .int .i64 t244, .int .i64 t245, .int .i64 t246] 54 (0, 0)) (by (with_reducible repeat (first | apply zn | apply zd | apply za)); exact BK247.out) hb); have n4_ := ak_ (ps (by with_reducible repeat first | exact HB.out | apply pa | apply pd | apply pe | refine zs ?_ GE240.out | refine zs ?_ GE241.out | refine zs ?_ GE242.out | refine zs ?_ GE247.out) hb); clear BK240 BK241 BK242 BK247 HB; have BK240 := n0_; have BK241 := n1_; have BK242 := n2_; have BK247 := n3_; have HB := n4_; clear n0_ n1_ n2_ n3_ n4_; have hnb50 := NB242_240.out; have hnc50 := NB240_242.out; have hnb51 := NB242_247.out; have hnc51 := NB247_242.out; have hcz52_0 : w49.cell? ⟨gb242, 0, none⟩ = some (.int .i64 0) := (zc BK242.out 0).trans rfl; have hcz52_1 : w49.cell? ⟨gb242, 1, none⟩ = some (.string ⟨#[]⟩) := (zc BK242.out 1).trans rfl; have hcz52_2 : w49.cell? ⟨gb242, 2, none⟩ = some (.int .i64 0) := (zc BK242.out 2).trans rfl; have hcz52_3 : w49.cell? ⟨gb242, 3, none⟩ = some (.int .i64 0) := (zc BK242.out 3).trans rfl; have hcz52_4 : w49.cell? ⟨gb242, 4, none⟩ = some (.int .i64 0) := (zc BK242.out 4).trans rfl; have hcz52_5 : w49.cell? ⟨gb242, 5, none⟩ = some (.int .i64 0) := (zc BK242.out 5).trans rfl; have hcz52_6 : w49.cell? ⟨gb242, 6, none⟩ = some (.bool false) := (zc BK242.out 6).trans rfl; have hcz52_7 : w49.cell? ⟨gb242, 7, none⟩ = some (.int .i64 0) := (zc BK242.out 7).trans rfl; have hcz52_8 : w49.cell? ⟨gb242, 8, none⟩ = some (.int .i64 0) := (zc BK242.out 8).trans rfl; have hfz52_0 := zf BK242.out 0; have hfz52_1 := zf BK242.out 1; have hfz52_2 := zf BK242.out 2; have hfz52_3 := zf BK242.out 3; have hfz52_4 := zf BK242.out 4; have hfz52_5 := zf BK242.out 5; have hfz52_6 := zf BK242.out 6; have hfz52_7 := zf BK242.out 7; have hfz52_8 := zf BK242.out 8))
   refine bodyPost_ret (results_cell_row rfl _ _ gb242 31 #[.int .i64 t251, .string t252, .int .i64 t253, .int .i64 t254, .int .i64 t255, .int .i64 t256, .bool t257, .int .i64 t258, .int .i64 t259] (0, 0) _ rfl (by (with_reducible repeat (first | apply zn | apply zd | apply za)); refine zp (cs := #[.int .i64 t251, .string t252, .int .i64 t253, .int .i64 t254, .int .i64 t255, .int .i64 t256, .bool t257, .int .i64 t258, .int .i64 0]) ?_ 8 _ rfl; (with_reducible repeat (first | apply zn | apply zd | apply za)); refine zp (cs := #[.int .i64 t251, .string t252, .int .i64 t253, .int .i64 t254, .int .i64 t255, .int .i64 t256, .bool t257, .int .i64 0, .int .i64 0]) ?_ 7 _ rfl; (with_reducible repeat (first | apply zn | apply zd | apply za)); refine zp (cs := #[.int .i64 t251, .string t252, .int .i64 t253, .int .i64 t254, .int .i64 t255, .int .i64 t256, .bool false, .int .i64 0, .int .i64 0]) ?_ 6 _ rfl; (with_reducible repeat (first | apply zn | apply zd | apply za)); refine zp (cs := #[.int .i64 t251, .string t252, .int .i64 t253, .int .i64 t254, .int .i64 t255, .int .i64 0, .bool false, .int .i64 0, .int .i64 0]) ?_ 5 _ rfl; (with_reducible repeat (first | apply zn | apply zd | apply za)); refine zp (cs := #[.int .i64 t251, .string t252, .int .i64 t253, .int .i64 t254, .int .i64 0, .int .i64 0, .bool false, .int .i64 0, .int .i64 0]) ?_ 4 _ rfl; (with_reducible repeat (first | apply zn | apply zd | apply za)); refine zp (cs := #[.int .i64 t251, .string t252, .int .i64 t253, .int .i64 0, .int .i64 0, .int .i64 0, .bool false, .int .i64 0, .int .i64 0]) ?_ 3 _ rfl; (with_reducible repeat (first | apply zn | apply zd | apply za)); refine zp (cs := #[.int .i64 t251, .string t252, .int .i64 0, .int .i64 0, .int .i64 0, .int .i64 0, .bool false, .int .i64 0, .int .i64 0]) ?_ 2 _ rfl; (with_reducible repeat (first | apply zn | apply zd | apply za)); refine zp (cs := #[.int .i64 t251, .string ⟨#[]⟩, .int .i64 0, .int .i64 0, .int .i64 0, .int .i64 0, .bool false, .int .i64 0, .int .i64 0]) ?_ 1 _ rfl; (with_reducible repeat (first | apply zn | apply zd | apply za)); refine zp (cs := #[.int .i64 0, .string ⟨#[]⟩, .int .i64 0, .int .i64 0, .int .i64 0, .int .i64 0, .bool false, .int .i64 0, .int .i64 0]) ?_ 0 _ rfl; (with_reducible repeat (first | apply zn | apply zd | apply za)); exact BK242.out) Tryd.underlying31 rfl (by kernel_rfl)) rfl ?_
   exact ⟨by first | rfl | simp [*], by repeat (first | (with_reducible first | exact HB.out | apply pa | apply pd | apply pe | refine zs ?_ GE240.out | refine zs ?_ GE241.out | refine zs ?_ GE242.out | refine zs ?_ GE247.out) | exact HB.out)⟩
 rw [if_neg c43] at H
 have c43b0 : (a1_3 == 0) = false := beq_eq_false_iff_ne.mpr c43
 have c43b1 : (a1_3 != 0) = true := bne_iff_ne.mpr c43
 (first | rw [c43b0] | (simp only [i64_w, i32_w]; rw [c43b0]) | skip)
 simp only [Option.some.injEq, Prod.mk.injEq] at H
 obtain ⟨rfl, rfl, rfl, rfl, rfl, rfl, rfl, rfl, rfl⟩ := H
 have hnb53 := NB241_240.out
 have hnc53 := NB240_241.out
 have hnb54 := NB241_242.out
 have hnc54 := NB242_241.out
 have hnb55 := NB241_247.out
 have hnc55 := NB247_241.out
 have hcz56_0 : w22.cell? ⟨gb241, 0, none⟩ = some (.int .i64 a1_0) := (zc BK241.out 0).trans rfl
 have hcz56_1 : w22.cell? ⟨gb241, 1, none⟩ = some (.string a1_1) := (zc BK241.out 1).trans rfl
 have hcz56_2 : w22.cell? ⟨gb241, 2, none⟩ = some (.int .i64 a1_2) := (zc BK241.out 2).trans rfl
 have hcz56_3 : w22.cell? ⟨gb241, 3, none⟩ = some (.int .i64 a1_3) := (zc BK241.out 3).trans rfl
 have hcz56_4 : w22.cell? ⟨gb241, 4, none⟩ = some (.int .i64 a1_4) := (zc BK241.out 4).trans rfl
 have hcz56_5 : w22.cell? ⟨gb241, 5, none⟩ = some (.int .i64 a1_5) := (zc BK241.out 5).trans rfl
 have hcz56_6 : w22.cell? ⟨gb241, 6, none⟩ = some (.bool false) := (zc BK241.out 6).trans rfl
 have hcz56_7 : w22.cell? ⟨gb241, 7, none⟩ = some (.int .i64 a1_7) := (zc BK241.out 7).trans rfl
 have hcz56_8 : w22.cell? ⟨gb241, 8, none⟩ = some (.int .i64 a1_8) := (zc BK241.out 8).trans rfl
 have hfz56_0 := zf BK241.out 0
 have hfz56_1 := zf BK241.out 1
 have hfz56_2 := zf BK241.out 2
 have hfz56_3 := zf BK241.out 3
 have hfz56_4 := zf BK241.out 4
 have hfz56_5 := zf BK241.out 5
 have hfz56_6 := zf BK241.out 6
 have hfz56_7 := zf BK241.out 7
 have hfz56_8 := zf BK241.out 8
 have hnb57 := NB242_240.out
 have hnc57 := NB240_242.out
 have hnb58 := NB242_247.out
 have hnc58 := NB247_242.out
 have hcz59_0 : w22.cell? ⟨gb242, 0, none⟩ = some (.int .i64 0) := (zc BK242.out 0).trans rfl
 have hcz59_1 : w22.cell? ⟨gb242, 1, none⟩ = some (.string ⟨#[]⟩) := (zc BK242.out 1).trans rfl
 have hcz59_2 : w22.cell? ⟨gb242, 2, none⟩ = some (.int .i64 0) := (zc BK242.out 2).trans rfl
 have hcz59_3 : w22.cell? ⟨gb242, 3, none⟩ = some (.int .i64 0) := (zc BK242.out 3).trans rfl
 have hcz59_4 : w22.cell? ⟨gb242, 4, none⟩ = some (.int .i64 0) := (zc BK242.out 4).trans rfl
 have hcz59_5 : w22.cell? ⟨gb242, 5, none⟩ = some (.int .i64 0) := (zc BK242.out 5).trans rfl
 have hcz59_6 : w22.cell? ⟨gb242, 6, none⟩ = some (.bool false) := (zc BK242.out 6).trans rfl
 have hcz59_7 : w22.cell? ⟨gb242, 7, none⟩ = some (.int .i64 0) := (zc BK242.out 7).trans rfl
 have hcz59_8 : w22.cell? ⟨gb242, 8, none⟩ = some (.int .i64 0) := (zc BK242.out 8).trans rfl
 have hfz59_0 := zf BK242.out 0
 have hfz59_1 := zf BK242.out 1
 have hfz59_2 := zf BK242.out 2
 have hfz59_3 := zf BK242.out 3
 have hfz59_4 := zf BK242.out 4
 have hfz59_5 := zf BK242.out 5
 have hfz59_6 := zf BK242.out 6
 have hfz59_7 := zf BK242.out 7
 have hfz59_8 := zf BK242.out 8
 go_wp2
 refine bodyPost_ret (results_cell_row rfl _ _ gb242 31 #[.int .i64 a1_0, .string a1_1, .int .i64 a1_2, .int .i64 2, .int .i64 a1_4, .int .i64 a1_5, .bool false, .int .i64 a1_7, .int .i64 a1_8] (0, 0) _ rfl (by (with_reducible repeat (first | apply zn | apply zd | apply za)); refine zp (cs := #[.int .i64 a1_0, .string a1_1, .int .i64 a1_2, .int .i64 2, .int .i64 a1_4, .int .i64 a1_5, .bool false, .int .i64 a1_7, .int .i64 0]) ?_ 8 _ rfl; (with_reducible repeat (first | apply zn | apply zd | apply za)); refine zp (cs := #[.int .i64 a1_0, .string a1_1, .int .i64 a1_2, .int .i64 2, .int .i64 a1_4, .int .i64 a1_5, .bool false, .int .i64 0, .int .i64 0]) ?_ 7 _ rfl; (with_reducible repeat (first | apply zn | apply zd | apply za)); refine zp (cs := #[.int .i64 a1_0, .string a1_1, .int .i64 a1_2, .int .i64 2, .int .i64 a1_4, .int .i64 a1_5, .bool false, .int .i64 0, .int .i64 0]) ?_ 6 _ rfl; (with_reducible repeat (first | apply zn | apply zd | apply za)); refine zp (cs := #[.int .i64 a1_0, .string a1_1, .int .i64 a1_2, .int .i64 2, .int .i64 a1_4, .int .i64 0, .bool false, .int .i64 0, .int .i64 0]) ?_ 5 _ rfl; (with_reducible repeat (first | apply zn | apply zd | apply za)); refine zp (cs := #[.int .i64 a1_0, .string a1_1, .int .i64 a1_2, .int .i64 2, .int .i64 0, .int .i64 0, .bool false, .int .i64 0, .int .i64 0]) ?_ 4 _ rfl; (with_reducible repeat (first | apply zn | apply zd | apply za)); refine zp (cs := #[.int .i64 a1_0, .string a1_1, .int .i64 a1_2, .int .i64 0, .int .i64 0, .int .i64 0, .bool false, .int .i64 0, .int .i64 0]) ?_ 3 _ rfl; (with_reducible repeat (first | apply zn | apply zd | apply za)); refine zp (cs := #[.int .i64 a1_0, .string a1_1, .int .i64 0, .int .i64 0, .int .i64 0, .int .i64 0, .bool false, .int .i64 0, .int .i64 0]) ?_ 2 _ rfl; (with_reducible repeat (first | apply zn | apply zd | apply za)); refine zp (cs := #[.int .i64 a1_0, .string ⟨#[]⟩, .int .i64 0, .int .i64 0, .int .i64 0, .int .i64 0, .bool false, .int .i64 0, .int .i64 0]) ?_ 1 _ rfl; (with_reducible repeat (first | apply zn | apply zd | apply za)); refine zp (cs := #[.int .i64 0, .string ⟨#[]⟩, .int .i64 0, .int .i64 0, .int .i64 0, .int .i64 0, .bool false, .int .i64 0, .int .i64 0]) ?_ 0 _ rfl; (with_reducible repeat (first | apply zn | apply zd | apply za)); refine zr ?_ NB242_241.out _; (with_reducible repeat (first | apply zn | apply zd | apply za)); exact BK242.out) Tryd.underlying31 rfl (by kernel_rfl)) rfl ?_
 exact ⟨by first | rfl | simp [*], by repeat (first | (with_reducible first | exact HB.out | apply pa | apply pd | apply pe | refine zs ?_ GE240.out | refine zs ?_ GE241.out | refine zs ?_ GE242.out | refine zs ?_ GE247.out) | exact HB.out)⟩
def saga_accepted.f (a0_0 : Int) (a0_1 : ByteArray) (a0_2 : Int) (a0_3 : Int) (a0_4 : Int) (a0_5 : Int) (a0_6 : Bool) (a0_7 : Int) (a0_8 : Int) (a1_0 : Int) (a1_1 : Int) (a1_2 : Bool) (a1_3 : Int) (a1_4 : Bool) : Option (Bool) := if a0_3 > 1 then (some false) else (if (a1_2 != (a0_3 == 1)) = true then (some false) else (if a1_1 = a0_4 then (if a1_3 < 1 then (some false) else (if a1_3 > a0_5 then (some false) else (if a1_4 = true then (some true) else (if a0_6 = true then (some (a1_3 == a0_5)) else (some false))))) else (some false)))
theorem saga_accepted.calls (a0_0 : Int) (a0_1 : ByteArray) (a0_2 : Int) (a0_3 : Int) (a0_4 : Int) (a0_5 : Int) (a0_6 : Bool) (a0_7 : Int) (a0_8 : Int) (a1_0 : Int) (a1_1 : Int) (a1_2 : Bool) (a1_3 : Int) (a1_4 : Bool) (r : Bool) (w : World) (h : saga_accepted.f a0_0 a0_1 a0_2 a0_3 a0_4 a0_5 a0_6 a0_7 a0_8 a1_0 a1_1 a1_2 a1_3 a1_4 = some r) :
 Calls Tryd.prog 38 #[.agg #[.int .i64 a0_0, .string a0_1, .int .i64 a0_2, .int .i64 a0_3, .int .i64 a0_4, .int .i64 a0_5, .bool a0_6, .int .i64 a0_7, .int .i64 a0_8], .agg #[.int .i64 a1_0, .int .i64 a1_1, .bool a1_2, .int .i64 a1_3, .bool a1_4]] w fun e w' => e = .returned (.bool r) ∧ Below w.heap.size w w' := by
 have hu31 := Tryd.underlying31
 have hu41 := Tryd.underlying41
 have HB := ak_ (Below.refl w.heap.size w)
 have H : (if a0_3 > 1 then (some false) else (if (a1_2 != (a0_3 == 1)) = true then (some false) else (if a1_1 = a0_4 then (if a1_3 < 1 then (some false) else (if a1_3 > a0_5 then (some false) else (if a1_4 = true then (some true) else (if a0_6 = true then (some (a1_3 == a0_5)) else (some false))))) else (some false)))) = some r := h
 clear h
 by_cases c3 : a0_3 > 1
 · rw [if_pos c3] at H
   have c3b0 : decide (1 < a0_3) = true := dt_ c3
   clear c3
   obtain rfl := Option.some.inj H
   go_enter Tryd.func38, Tryd.ntmps38
   go_wp2_with (first | ((with_reducible refine gate_dst (N := 2) rfl ?_); refine box_event ?hg (N := 2) ?hd (cs := #[.int .i64 a0_0, .string a0_1, .int .i64 a0_2, .int .i64 a0_3, .int .i64 a0_4, .int .i64 a0_5, .bool a0_6, .int .i64 a0_7, .int .i64 a0_8]) (t := 31) ?hr ?_; (case hd | hg => rfl); (case hr => first | (go_simp; done) | (go_simp; rfl)); intro gb363 hg w4 hbox hb; have n0_ := ak_ (ps (by with_reducible repeat first | exact HB.out | apply pa | apply pd | apply pe) hb); have n1_ := ak_ (hbox); have n2_ := ak_ ((by rw [hg]; exact (below_size (by with_reducible repeat first | exact HB.out | apply pa | apply pd | apply pe)) : w.heap.size ≤ gb363)); have n3_ := ak_ ((by rw [hg]; exact (below_size (by with_reducible repeat first | exact HB.out | apply pa | apply pd | apply pe)) : w.heap.size ≤ gb363)); clear HB; have HB := n0_; have BK363 := n1_; have GW363 := n2_; have GE363 := n3_; clear n0_ n1_ n2_ n3_ hb hbox hg) | ((with_reducible refine gate_dst (N := 3) rfl ?_); refine box_event ?hg (N := 3) ?hd (cs := #[.int .i64 a1_0, .int .i64 a1_1, .bool a1_2, .int .i64 a1_3, .bool a1_4]) (t := 41) ?hr ?_; (case hd | hg => rfl); (case hr => first | (go_simp; done) | (go_simp; rfl)); intro gb364 hg w5 hbox hb; have n0_ := ak_ (blk_below (g := gb363) (o := .cells #[.int .i64 a0_0, .string a0_1, .int .i64 a0_2, .int .i64 a0_3, .int .i64 a0_4, .int .i64 a0_5, .bool a0_6, .int .i64 a0_7, .int .i64 a0_8] 31 (0, 0)) (by (with_reducible repeat (first | apply zn | apply zd | apply za)); exact BK363.out) hb); have n1_ := ak_ (ps (by with_reducible repeat first | exact HB.out | apply pa | apply pd | apply pe | refine zs ?_ GE363.out) hb); have n2_ := ak_ (hbox); have n3_ := ak_ ((by rw [hg]; exact (below_size (by with_reducible repeat first | exact HB.out | apply pa | apply pd | apply pe | refine zs ?_ GE363.out)) : w.heap.size ≤ gb364)); have n4_ := ak_ ((by rw [hg]; exact (below_size (by with_reducible repeat first | exact HB.out | apply pa | apply pd | apply pe | refine zs ?_ GE363.out)) : w.heap.size ≤ gb364)); have n5_ := ak_ ((by rw [hg]; exact Nat.ne_of_lt (blk_lt (g := gb363) (by (with_reducible repeat (first | apply zn | apply zd | apply za)); exact BK363.out)) : gb363 ≠ gb364)); have n6_ := ak_ ((by rw [hg]; exact Nat.ne_of_gt (blk_lt (g := gb363) (by (with_reducible repeat (first | apply zn | apply zd | apply za)); exact BK363.out)) : gb364 ≠ gb363)); clear BK363 HB; have BK363 := n0_; have HB := n1_; have BK364 := n2_; have GW364 := n3_; have GE364 := n4_; have NB363_364 := n5_; have NB364_363 := n6_; clear n0_ n1_ n2_ n3_ n4_ n5_ n6_ hb hbox hg; have hnb6 := NB363_364.out; have hnc6 := NB364_363.out; have hcz7_0 : w5.cell? ⟨gb363, 0, none⟩ = some (.int .i64 a0_0) := (zc BK363.out 0).trans rfl; have hcz7_1 : w5.cell? ⟨gb363, 1, none⟩ = some (.string a0_1) := (zc BK363.out 1).trans rfl; have hcz7_2 : w5.cell? ⟨gb363, 2, none⟩ = some (.int .i64 a0_2) := (zc BK363.out 2).trans rfl; have hcz7_3 : w5.cell? ⟨gb363, 3, none⟩ = some (.int .i64 a0_3) := (zc BK363.out 3).trans rfl; have hcz7_4 : w5.cell? ⟨gb363, 4, none⟩ = some (.int .i64 a0_4) := (zc BK363.out 4).trans rfl; have hcz7_5 : w5.cell? ⟨gb363, 5, none⟩ = some (.int .i64 a0_5) := (zc BK363.out 5).trans rfl; have hcz7_6 : w5.cell? ⟨gb363, 6, none⟩ = some (.bool a0_6) := (zc BK363.out 6).trans rfl; have hcz7_7 : w5.cell? ⟨gb363, 7, none⟩ = some (.int .i64 a0_7) := (zc BK363.out 7).trans rfl; have hcz7_8 : w5.cell? ⟨gb363, 8, none⟩ = some (.int .i64 a0_8) := (zc BK363.out 8).trans rfl; have hfz7_0 := zf BK363.out 0; have hfz7_1 := zf BK363.out 1; have hfz7_2 := zf BK363.out 2; have hfz7_3 := zf BK363.out 3; have hfz7_4 := zf BK363.out 4; have hfz7_5 := zf BK363.out 5; have hfz7_6 := zf BK363.out 6; have hfz7_7 := zf BK363.out 7; have hfz7_8 := zf BK363.out 8))
   go_ret
   exact ⟨by first | rfl | simp [*], by repeat (first | (with_reducible first | exact HB.out | apply pa | apply pd | apply pe | refine zs ?_ GE363.out | refine zs ?_ GE364.out) | exact HB.out)⟩
 rw [if_neg c3] at H
 have c3b0 : decide (1 < a0_3) = false := df_ c3
 clear c3
 by_cases c8 : (a1_2 != (a0_3 == 1)) = true
 · rw [if_pos c8] at H
   have c8b0 : (a1_2 != (a0_3 == 1)) = true := c8
   (try (have c8b1 : decide (a1_2 = (a0_3 == 1)) = false := by simpa using c8))
   (try (have c8b2 : (a1_2 == (a0_3 == 1)) = false := by simpa using c8))
   (try (have c8b3 : ¬ (a1_2 = (a0_3 == 1)) := by simpa using c8))
   clear c8
   obtain rfl := Option.some.inj H
   go_enter Tryd.func38, Tryd.ntmps38
   go_wp2_with (first | ((with_reducible refine gate_dst (N := 2) rfl ?_); refine box_event ?hg (N := 2) ?hd (cs := #[.int .i64 a0_0, .string a0_1, .int .i64 a0_2, .int .i64 a0_3, .int .i64 a0_4, .int .i64 a0_5, .bool a0_6, .int .i64 a0_7, .int .i64 a0_8]) (t := 31) ?hr ?_; (case hd | hg => rfl); (case hr => first | (go_simp; done) | (go_simp; rfl)); intro gb363 hg w9 hbox hb; have n0_ := ak_ (ps (by with_reducible repeat first | exact HB.out | apply pa | apply pd | apply pe) hb); have n1_ := ak_ (hbox); have n2_ := ak_ ((by rw [hg]; exact (below_size (by with_reducible repeat first | exact HB.out | apply pa | apply pd | apply pe)) : w.heap.size ≤ gb363)); have n3_ := ak_ ((by rw [hg]; exact (below_size (by with_reducible repeat first | exact HB.out | apply pa | apply pd | apply pe)) : w.heap.size ≤ gb363)); clear HB; have HB := n0_; have BK363 := n1_; have GW363 := n2_; have GE363 := n3_; clear n0_ n1_ n2_ n3_ hb hbox hg) | ((with_reducible refine gate_dst (N := 3) rfl ?_); refine box_event ?hg (N := 3) ?hd (cs := #[.int .i64 a1_0, .int .i64 a1_1, .bool a1_2, .int .i64 a1_3, .bool a1_4]) (t := 41) ?hr ?_; (case hd | hg => rfl); (case hr => first | (go_simp; done) | (go_simp; rfl)); intro gb364 hg w10 hbox hb; have n0_ := ak_ (blk_below (g := gb363) (o := .cells #[.int .i64 a0_0, .string a0_1, .int .i64 a0_2, .int .i64 a0_3, .int .i64 a0_4, .int .i64 a0_5, .bool a0_6, .int .i64 a0_7, .int .i64 a0_8] 31 (0, 0)) (by (with_reducible repeat (first | apply zn | apply zd | apply za)); exact BK363.out) hb); have n1_ := ak_ (ps (by with_reducible repeat first | exact HB.out | apply pa | apply pd | apply pe | refine zs ?_ GE363.out) hb); have n2_ := ak_ (hbox); have n3_ := ak_ ((by rw [hg]; exact (below_size (by with_reducible repeat first | exact HB.out | apply pa | apply pd | apply pe | refine zs ?_ GE363.out)) : w.heap.size ≤ gb364)); have n4_ := ak_ ((by rw [hg]; exact (below_size (by with_reducible repeat first | exact HB.out | apply pa | apply pd | apply pe | refine zs ?_ GE363.out)) : w.heap.size ≤ gb364)); have n5_ := ak_ ((by rw [hg]; exact Nat.ne_of_lt (blk_lt (g := gb363) (by (with_reducible repeat (first | apply zn | apply zd | apply za)); exact BK363.out)) : gb363 ≠ gb364)); have n6_ := ak_ ((by rw [hg]; exact Nat.ne_of_gt (blk_lt (g := gb363) (by (with_reducible repeat (first | apply zn | apply zd | apply za)); exact BK363.out)) : gb364 ≠ gb363)); clear BK363 HB; have BK363 := n0_; have HB := n1_; have BK364 := n2_; have GW364 := n3_; have GE364 := n4_; have NB363_364 := n5_; have NB364_363 := n6_; clear n0_ n1_ n2_ n3_ n4_ n5_ n6_ hb hbox hg; have hnb11 := NB363_364.out; have hnc11 := NB364_363.out; have hcz12_0 : w10.cell? ⟨gb363, 0, none⟩ = some (.int .i64 a0_0) := (zc BK363.out 0).trans rfl; have hcz12_1 : w10.cell? ⟨gb363, 1, none⟩ = some (.string a0_1) := (zc BK363.out 1).trans rfl; have hcz12_2 : w10.cell? ⟨gb363, 2, none⟩ = some (.int .i64 a0_2) := (zc BK363.out 2).trans rfl; have hcz12_3 : w10.cell? ⟨gb363, 3, none⟩ = some (.int .i64 a0_3) := (zc BK363.out 3).trans rfl; have hcz12_4 : w10.cell? ⟨gb363, 4, none⟩ = some (.int .i64 a0_4) := (zc BK363.out 4).trans rfl; have hcz12_5 : w10.cell? ⟨gb363, 5, none⟩ = some (.int .i64 a0_5) := (zc BK363.out 5).trans rfl; have hcz12_6 : w10.cell? ⟨gb363, 6, none⟩ = some (.bool a0_6) := (zc BK363.out 6).trans rfl; have hcz12_7 : w10.cell? ⟨gb363, 7, none⟩ = some (.int .i64 a0_7) := (zc BK363.out 7).trans rfl; have hcz12_8 : w10.cell? ⟨gb363, 8, none⟩ = some (.int .i64 a0_8) := (zc BK363.out 8).trans rfl; have hfz12_0 := zf BK363.out 0; have hfz12_1 := zf BK363.out 1; have hfz12_2 := zf BK363.out 2; have hfz12_3 := zf BK363.out 3; have hfz12_4 := zf BK363.out 4; have hfz12_5 := zf BK363.out 5; have hfz12_6 := zf BK363.out 6; have hfz12_7 := zf BK363.out 7; have hfz12_8 := zf BK363.out 8; have hcz13_0 : w10.cell? ⟨gb364, 0, none⟩ = some (.int .i64 a1_0) := (zc BK364.out 0).trans rfl; have hcz13_1 : w10.cell? ⟨gb364, 1, none⟩ = some (.int .i64 a1_1) := (zc BK364.out 1).trans rfl; have hcz13_2 : w10.cell? ⟨gb364, 2, none⟩ = some (.bool a1_2) := (zc BK364.out 2).trans rfl; have hcz13_3 : w10.cell? ⟨gb364, 3, none⟩ = some (.int .i64 a1_3) := (zc BK364.out 3).trans rfl; have hcz13_4 : w10.cell? ⟨gb364, 4, none⟩ = some (.bool a1_4) := (zc BK364.out 4).trans rfl; have hfz13_0 := zf BK364.out 0; have hfz13_1 := zf BK364.out 1; have hfz13_2 := zf BK364.out 2; have hfz13_3 := zf BK364.out 3; have hfz13_4 := zf BK364.out 4))
   go_ret
   exact ⟨by first | rfl | simp [*], by repeat (first | (with_reducible first | exact HB.out | apply pa | apply pd | apply pe | refine zs ?_ GE363.out | refine zs ?_ GE364.out) | exact HB.out)⟩
 rw [if_neg c8] at H
 have c8b0 : (a1_2 != (a0_3 == 1)) = false := by simpa using c8
 (try (have c8b1 : decide (a1_2 = (a0_3 == 1)) = true := by simpa using c8))
 (try (have c8b2 : (a1_2 == (a0_3 == 1)) = true := by simpa using c8))
 clear c8
 by_cases c14 : a1_1 = a0_4
 · rw [if_pos c14] at H
   have c14b0 : (a1_1 == a0_4) = true := beq_iff_eq.mpr c14
   have c14b1 : (a1_1 != a0_4) = false := bne_eq_false_iff_eq.mpr c14
   clear c14
   by_cases c15 : a1_3 < 1
   · rw [if_pos c15] at H
     have c15b0 : decide (a1_3 < 1) = true := dt_ c15
     clear c15
     obtain rfl := Option.some.inj H
     go_enter Tryd.func38, Tryd.ntmps38
     go_wp2_with (first | ((with_reducible refine gate_dst (N := 2) rfl ?_); refine box_event ?hg (N := 2) ?hd (cs := #[.int .i64 a0_0, .string a0_1, .int .i64 a0_2, .int .i64 a0_3, .int .i64 a0_4, .int .i64 a0_5, .bool a0_6, .int .i64 a0_7, .int .i64 a0_8]) (t := 31) ?hr ?_; (case hd | hg => rfl); (case hr => first | (go_simp; done) | (go_simp; rfl)); intro gb363 hg w16 hbox hb; have n0_ := ak_ (ps (by with_reducible repeat first | exact HB.out | apply pa | apply pd | apply pe) hb); have n1_ := ak_ (hbox); have n2_ := ak_ ((by rw [hg]; exact (below_size (by with_reducible repeat first | exact HB.out | apply pa | apply pd | apply pe)) : w.heap.size ≤ gb363)); have n3_ := ak_ ((by rw [hg]; exact (below_size (by with_reducible repeat first | exact HB.out | apply pa | apply pd | apply pe)) : w.heap.size ≤ gb363)); clear HB; have HB := n0_; have BK363 := n1_; have GW363 := n2_; have GE363 := n3_; clear n0_ n1_ n2_ n3_ hb hbox hg) | ((with_reducible refine gate_dst (N := 3) rfl ?_); refine box_event ?hg (N := 3) ?hd (cs := #[.int .i64 a1_0, .int .i64 a1_1, .bool a1_2, .int .i64 a1_3, .bool a1_4]) (t := 41) ?hr ?_; (case hd | hg => rfl); (case hr => first | (go_simp; done) | (go_simp; rfl)); intro gb364 hg w17 hbox hb; have n0_ := ak_ (blk_below (g := gb363) (o := .cells #[.int .i64 a0_0, .string a0_1, .int .i64 a0_2, .int .i64 a0_3, .int .i64 a0_4, .int .i64 a0_5, .bool a0_6, .int .i64 a0_7, .int .i64 a0_8] 31 (0, 0)) (by (with_reducible repeat (first | apply zn | apply zd | apply za)); exact BK363.out) hb); have n1_ := ak_ (ps (by with_reducible repeat first | exact HB.out | apply pa | apply pd | apply pe | refine zs ?_ GE363.out) hb); have n2_ := ak_ (hbox); have n3_ := ak_ ((by rw [hg]; exact (below_size (by with_reducible repeat first | exact HB.out | apply pa | apply pd | apply pe | refine zs ?_ GE363.out)) : w.heap.size ≤ gb364)); have n4_ := ak_ ((by rw [hg]; exact (below_size (by with_reducible repeat first | exact HB.out | apply pa | apply pd | apply pe | refine zs ?_ GE363.out)) : w.heap.size ≤ gb364)); have n5_ := ak_ ((by rw [hg]; exact Nat.ne_of_lt (blk_lt (g := gb363) (by (with_reducible repeat (first | apply zn | apply zd | apply za)); exact BK363.out)) : gb363 ≠ gb364)); have n6_ := ak_ ((by rw [hg]; exact Nat.ne_of_gt (blk_lt (g := gb363) (by (with_reducible repeat (first | apply zn | apply zd | apply za)); exact BK363.out)) : gb364 ≠ gb363)); clear BK363 HB; have BK363 := n0_; have HB := n1_; have BK364 := n2_; have GW364 := n3_; have GE364 := n4_; have NB363_364 := n5_; have NB364_363 := n6_; clear n0_ n1_ n2_ n3_ n4_ n5_ n6_ hb hbox hg; have hnb18 := NB363_364.out; have hnc18 := NB364_363.out; have hcz19_0 : w17.cell? ⟨gb363, 0, none⟩ = some (.int .i64 a0_0) := (zc BK363.out 0).trans rfl; have hcz19_1 : w17.cell? ⟨gb363, 1, none⟩ = some (.string a0_1) := (zc BK363.out 1).trans rfl; have hcz19_2 : w17.cell? ⟨gb363, 2, none⟩ = some (.int .i64 a0_2) := (zc BK363.out 2).trans rfl; have hcz19_3 : w17.cell? ⟨gb363, 3, none⟩ = some (.int .i64 a0_3) := (zc BK363.out 3).trans rfl; have hcz19_4 : w17.cell? ⟨gb363, 4, none⟩ = some (.int .i64 a0_4) := (zc BK363.out 4).trans rfl; have hcz19_5 : w17.cell? ⟨gb363, 5, none⟩ = some (.int .i64 a0_5) := (zc BK363.out 5).trans rfl; have hcz19_6 : w17.cell? ⟨gb363, 6, none⟩ = some (.bool a0_6) := (zc BK363.out 6).trans rfl; have hcz19_7 : w17.cell? ⟨gb363, 7, none⟩ = some (.int .i64 a0_7) := (zc BK363.out 7).trans rfl; have hcz19_8 : w17.cell? ⟨gb363, 8, none⟩ = some (.int .i64 a0_8) := (zc BK363.out 8).trans rfl; have hfz19_0 := zf BK363.out 0; have hfz19_1 := zf BK363.out 1; have hfz19_2 := zf BK363.out 2; have hfz19_3 := zf BK363.out 3; have hfz19_4 := zf BK363.out 4; have hfz19_5 := zf BK363.out 5; have hfz19_6 := zf BK363.out 6; have hfz19_7 := zf BK363.out 7; have hfz19_8 := zf BK363.out 8; have hcz20_0 : w17.cell? ⟨gb364, 0, none⟩ = some (.int .i64 a1_0) := (zc BK364.out 0).trans rfl; have hcz20_1 : w17.cell? ⟨gb364, 1, none⟩ = some (.int .i64 a1_1) := (zc BK364.out 1).trans rfl; have hcz20_2 : w17.cell? ⟨gb364, 2, none⟩ = some (.bool a1_2) := (zc BK364.out 2).trans rfl; have hcz20_3 : w17.cell? ⟨gb364, 3, none⟩ = some (.int .i64 a1_3) := (zc BK364.out 3).trans rfl; have hcz20_4 : w17.cell? ⟨gb364, 4, none⟩ = some (.bool a1_4) := (zc BK364.out 4).trans rfl; have hfz20_0 := zf BK364.out 0; have hfz20_1 := zf BK364.out 1; have hfz20_2 := zf BK364.out 2; have hfz20_3 := zf BK364.out 3; have hfz20_4 := zf BK364.out 4))
     go_ret
     exact ⟨by first | rfl | simp [*], by repeat (first | (with_reducible first | exact HB.out | apply pa | apply pd | apply pe | refine zs ?_ GE363.out | refine zs ?_ GE364.out) | exact HB.out)⟩
   rw [if_neg c15] at H
   have c15b0 : decide (a1_3 < 1) = false := df_ c15
   clear c15
   have HF21 := ak_ H
   clear H
   go_enter Tryd.func38, Tryd.ntmps38
   go_upto_if 34 with (first | ((with_reducible refine gate_dst (N := 2) rfl ?_); refine box_event ?hg (N := 2) ?hd (cs := #[.int .i64 a0_0, .string a0_1, .int .i64 a0_2, .int .i64 a0_3, .int .i64 a0_4, .int .i64 a0_5, .bool a0_6, .int .i64 a0_7, .int .i64 a0_8]) (t := 31) ?hr ?_; (case hd | hg => rfl); (case hr => first | (go_simp; done) | (go_simp; rfl)); intro gb363 hg w22 hbox hb; have n0_ := ak_ (ps (by with_reducible repeat first | exact HB.out | apply pa | apply pd | apply pe) hb); have n1_ := ak_ (hbox); have n2_ := ak_ ((by rw [hg]; exact (below_size (by with_reducible repeat first | exact HB.out | apply pa | apply pd | apply pe)) : w.heap.size ≤ gb363)); have n3_ := ak_ ((by rw [hg]; exact (below_size (by with_reducible repeat first | exact HB.out | apply pa | apply pd | apply pe)) : w.heap.size ≤ gb363)); clear HB; have HB := n0_; have BK363 := n1_; have GW363 := n2_; have GE363 := n3_; clear n0_ n1_ n2_ n3_ hb hbox hg) | ((with_reducible refine gate_dst (N := 3) rfl ?_); refine box_event ?hg (N := 3) ?hd (cs := #[.int .i64 a1_0, .int .i64 a1_1, .bool a1_2, .int .i64 a1_3, .bool a1_4]) (t := 41) ?hr ?_; (case hd | hg => rfl); (case hr => first | (go_simp; done) | (go_simp; rfl)); intro gb364 hg w23 hbox hb; have n0_ := ak_ (blk_below (g := gb363) (o := .cells #[.int .i64 a0_0, .string a0_1, .int .i64 a0_2, .int .i64 a0_3, .int .i64 a0_4, .int .i64 a0_5, .bool a0_6, .int .i64 a0_7, .int .i64 a0_8] 31 (0, 0)) (by (with_reducible repeat (first | apply zn | apply zd | apply za)); exact BK363.out) hb); have n1_ := ak_ (ps (by with_reducible repeat first | exact HB.out | apply pa | apply pd | apply pe | refine zs ?_ GE363.out) hb); have n2_ := ak_ (hbox); have n3_ := ak_ ((by rw [hg]; exact (below_size (by with_reducible repeat first | exact HB.out | apply pa | apply pd | apply pe | refine zs ?_ GE363.out)) : w.heap.size ≤ gb364)); have n4_ := ak_ ((by rw [hg]; exact (below_size (by with_reducible repeat first | exact HB.out | apply pa | apply pd | apply pe | refine zs ?_ GE363.out)) : w.heap.size ≤ gb364)); have n5_ := ak_ ((by rw [hg]; exact Nat.ne_of_lt (blk_lt (g := gb363) (by (with_reducible repeat (first | apply zn | apply zd | apply za)); exact BK363.out)) : gb363 ≠ gb364)); have n6_ := ak_ ((by rw [hg]; exact Nat.ne_of_gt (blk_lt (g := gb363) (by (with_reducible repeat (first | apply zn | apply zd | apply za)); exact BK363.out)) : gb364 ≠ gb363)); clear BK363 HB; have BK363 := n0_; have HB := n1_; have BK364 := n2_; have GW364 := n3_; have GE364 := n4_; have NB363_364 := n5_; have NB364_363 := n6_; clear n0_ n1_ n2_ n3_ n4_ n5_ n6_ hb hbox hg; have hnb24 := NB363_364.out; have hnc24 := NB364_363.out; have hcz25_0 : w23.cell? ⟨gb363, 0, none⟩ = some (.int .i64 a0_0) := (zc BK363.out 0).trans rfl; have hcz25_1 : w23.cell? ⟨gb363, 1, none⟩ = some (.string a0_1) := (zc BK363.out 1).trans rfl; have hcz25_2 : w23.cell? ⟨gb363, 2, none⟩ = some (.int .i64 a0_2) := (zc BK363.out 2).trans rfl; have hcz25_3 : w23.cell? ⟨gb363, 3, none⟩ = some (.int .i64 a0_3) := (zc BK363.out 3).trans rfl; have hcz25_4 : w23.cell? ⟨gb363, 4, none⟩ = some (.int .i64 a0_4) := (zc BK363.out 4).trans rfl; have hcz25_5 : w23.cell? ⟨gb363, 5, none⟩ = some (.int .i64 a0_5) := (zc BK363.out 5).trans rfl; have hcz25_6 : w23.cell? ⟨gb363, 6, none⟩ = some (.bool a0_6) := (zc BK363.out 6).trans rfl; have hcz25_7 : w23.cell? ⟨gb363, 7, none⟩ = some (.int .i64 a0_7) := (zc BK363.out 7).trans rfl; have hcz25_8 : w23.cell? ⟨gb363, 8, none⟩ = some (.int .i64 a0_8) := (zc BK363.out 8).trans rfl; have hfz25_0 := zf BK363.out 0; have hfz25_1 := zf BK363.out 1; have hfz25_2 := zf BK363.out 2; have hfz25_3 := zf BK363.out 3; have hfz25_4 := zf BK363.out 4; have hfz25_5 := zf BK363.out 5; have hfz25_6 := zf BK363.out 6; have hfz25_7 := zf BK363.out 7; have hfz25_8 := zf BK363.out 8; have hcz26_0 : w23.cell? ⟨gb364, 0, none⟩ = some (.int .i64 a1_0) := (zc BK364.out 0).trans rfl; have hcz26_1 : w23.cell? ⟨gb364, 1, none⟩ = some (.int .i64 a1_1) := (zc BK364.out 1).trans rfl; have hcz26_2 : w23.cell? ⟨gb364, 2, none⟩ = some (.bool a1_2) := (zc BK364.out 2).trans rfl; have hcz26_3 : w23.cell? ⟨gb364, 3, none⟩ = some (.int .i64 a1_3) := (zc BK364.out 3).trans rfl; have hcz26_4 : w23.cell? ⟨gb364, 4, none⟩ = some (.bool a1_4) := (zc BK364.out 4).trans rfl; have hfz26_0 := zf BK364.out 0; have hfz26_1 := zf BK364.out 1; have hfz26_2 := zf BK364.out 2; have hfz26_3 := zf BK364.out 3; have hfz26_4 := zf BK364.out 4))
   (try simp only [Act.put, sa_, sz_, ss_])
   have H := HF21.out
   clear HF21
   by_cases c27 : a1_3 > a0_5
   · rw [if_pos c27] at H
     have c27b0 : decide (a0_5 < a1_3) = true := dt_ c27
     clear c27
     (first | rw [c27b0] | (simp only [i64_w, i32_w]; rw [c27b0]) | skip)
     obtain rfl := Option.some.inj H
     go_wp2
     go_ret
     exact ⟨by first | rfl | simp [*], by repeat (first | (with_reducible first | exact HB.out | apply pa | apply pd | apply pe | refine zs ?_ GE363.out | refine zs ?_ GE364.out) | exact HB.out)⟩
   rw [if_neg c27] at H
   have c27b0 : decide (a0_5 < a1_3) = false := df_ c27
   clear c27
   (first | rw [c27b0] | (simp only [i64_w, i32_w]; rw [c27b0]) | skip)
   by_cases c28 : a1_4 = true
   · subst c28
     have H1 : (some true) = some r := by rw [if_pos rfl] at H; exact H
     clear H
     have H := H1
     clear H1
     obtain rfl := Option.some.inj H
     have hnb29 := NB364_363.out
     have hnc29 := NB363_364.out
     have hcz30_0 : w23.cell? ⟨gb364, 0, none⟩ = some (.int .i64 a1_0) := (zc BK364.out 0).trans rfl
     have hcz30_1 : w23.cell? ⟨gb364, 1, none⟩ = some (.int .i64 a1_1) := (zc BK364.out 1).trans rfl
     have hcz30_2 : w23.cell? ⟨gb364, 2, none⟩ = some (.bool a1_2) := (zc BK364.out 2).trans rfl
     have hcz30_3 : w23.cell? ⟨gb364, 3, none⟩ = some (.int .i64 a1_3) := (zc BK364.out 3).trans rfl
     have hcz30_4 : w23.cell? ⟨gb364, 4, none⟩ = some (.bool true) := (zc BK364.out 4).trans rfl
     have hfz30_0 := zf BK364.out 0
     have hfz30_1 := zf BK364.out 1
     have hfz30_2 := zf BK364.out 2
     have hfz30_3 := zf BK364.out 3
     have hfz30_4 := zf BK364.out 4
     go_wp2
     go_ret
     exact ⟨by first | rfl | simp [*], by repeat (first | (with_reducible first | exact HB.out | apply pa | apply pd | apply pe | refine zs ?_ GE363.out | refine zs ?_ GE364.out) | exact HB.out)⟩
   replace c28 := Bool.eq_false_iff.mpr c28
   subst c28
   have H1 : (if a0_6 = true then (some (a1_3 == a0_5)) else (some false)) = some r := by rw [if_neg (show ¬ (false = true) by decide)] at H; exact H
   clear H
   have H := H1
   clear H1
   by_cases c31 : a0_6 = true
   · subst c31
     have H1 : (some (a1_3 == a0_5)) = some r := by rw [if_pos rfl] at H; exact H
     clear H
     have H := H1
     clear H1
     obtain rfl := Option.some.inj H
     have hnb32 := NB364_363.out
     have hnc32 := NB363_364.out
     have hcz33_0 : w23.cell? ⟨gb364, 0, none⟩ = some (.int .i64 a1_0) := (zc BK364.out 0).trans rfl
     have hcz33_1 : w23.cell? ⟨gb364, 1, none⟩ = some (.int .i64 a1_1) := (zc BK364.out 1).trans rfl
     have hcz33_2 : w23.cell? ⟨gb364, 2, none⟩ = some (.bool a1_2) := (zc BK364.out 2).trans rfl
     have hcz33_3 : w23.cell? ⟨gb364, 3, none⟩ = some (.int .i64 a1_3) := (zc BK364.out 3).trans rfl
     have hcz33_4 : w23.cell? ⟨gb364, 4, none⟩ = some (.bool false) := (zc BK364.out 4).trans rfl
     have hfz33_0 := zf BK364.out 0
     have hfz33_1 := zf BK364.out 1
     have hfz33_2 := zf BK364.out 2
     have hfz33_3 := zf BK364.out 3
     have hfz33_4 := zf BK364.out 4
     have hcz34_0 : w23.cell? ⟨gb363, 0, none⟩ = some (.int .i64 a0_0) := (zc BK363.out 0).trans rfl
     have hcz34_1 : w23.cell? ⟨gb363, 1, none⟩ = some (.string a0_1) := (zc BK363.out 1).trans rfl
     have hcz34_2 : w23.cell? ⟨gb363, 2, none⟩ = some (.int .i64 a0_2) := (zc BK363.out 2).trans rfl
     have hcz34_3 : w23.cell? ⟨gb363, 3, none⟩ = some (.int .i64 a0_3) := (zc BK363.out 3).trans rfl
     have hcz34_4 : w23.cell? ⟨gb363, 4, none⟩ = some (.int .i64 a0_4) := (zc BK363.out 4).trans rfl
     have hcz34_5 : w23.cell? ⟨gb363, 5, none⟩ = some (.int .i64 a0_5) := (zc BK363.out 5).trans rfl
     have hcz34_6 : w23.cell? ⟨gb363, 6, none⟩ = some (.bool true) := (zc BK363.out 6).trans rfl
     have hcz34_7 : w23.cell? ⟨gb363, 7, none⟩ = some (.int .i64 a0_7) := (zc BK363.out 7).trans rfl
     have hcz34_8 : w23.cell? ⟨gb363, 8, none⟩ = some (.int .i64 a0_8) := (zc BK363.out 8).trans rfl
     have hfz34_0 := zf BK363.out 0
     have hfz34_1 := zf BK363.out 1
     have hfz34_2 := zf BK363.out 2
     have hfz34_3 := zf BK363.out 3
     have hfz34_4 := zf BK363.out 4
     have hfz34_5 := zf BK363.out 5
     have hfz34_6 := zf BK363.out 6
     have hfz34_7 := zf BK363.out 7
     have hfz34_8 := zf BK363.out 8
     go_wp2
     go_ret
     exact ⟨by first | rfl | simp [*], by repeat (first | (with_reducible first | exact HB.out | apply pa | apply pd | apply pe | refine zs ?_ GE363.out | refine zs ?_ GE364.out) | exact HB.out)⟩
   replace c31 := Bool.eq_false_iff.mpr c31
   subst c31
   have H1 : (some false) = some r := by rw [if_neg (show ¬ (false = true) by decide)] at H; exact H
   clear H
   have H := H1
   clear H1
   obtain rfl := Option.some.inj H
   have hnb35 := NB364_363.out
   have hnc35 := NB363_364.out
   have hcz36_0 : w23.cell? ⟨gb364, 0, none⟩ = some (.int .i64 a1_0) := (zc BK364.out 0).trans rfl
   have hcz36_1 : w23.cell? ⟨gb364, 1, none⟩ = some (.int .i64 a1_1) := (zc BK364.out 1).trans rfl
   have hcz36_2 : w23.cell? ⟨gb364, 2, none⟩ = some (.bool a1_2) := (zc BK364.out 2).trans rfl
   have hcz36_3 : w23.cell? ⟨gb364, 3, none⟩ = some (.int .i64 a1_3) := (zc BK364.out 3).trans rfl
   have hcz36_4 : w23.cell? ⟨gb364, 4, none⟩ = some (.bool false) := (zc BK364.out 4).trans rfl
   have hfz36_0 := zf BK364.out 0
   have hfz36_1 := zf BK364.out 1
   have hfz36_2 := zf BK364.out 2
   have hfz36_3 := zf BK364.out 3
   have hfz36_4 := zf BK364.out 4
   have hcz37_0 : w23.cell? ⟨gb363, 0, none⟩ = some (.int .i64 a0_0) := (zc BK363.out 0).trans rfl
   have hcz37_1 : w23.cell? ⟨gb363, 1, none⟩ = some (.string a0_1) := (zc BK363.out 1).trans rfl
   have hcz37_2 : w23.cell? ⟨gb363, 2, none⟩ = some (.int .i64 a0_2) := (zc BK363.out 2).trans rfl
   have hcz37_3 : w23.cell? ⟨gb363, 3, none⟩ = some (.int .i64 a0_3) := (zc BK363.out 3).trans rfl
   have hcz37_4 : w23.cell? ⟨gb363, 4, none⟩ = some (.int .i64 a0_4) := (zc BK363.out 4).trans rfl
   have hcz37_5 : w23.cell? ⟨gb363, 5, none⟩ = some (.int .i64 a0_5) := (zc BK363.out 5).trans rfl
   have hcz37_6 : w23.cell? ⟨gb363, 6, none⟩ = some (.bool false) := (zc BK363.out 6).trans rfl
   have hcz37_7 : w23.cell? ⟨gb363, 7, none⟩ = some (.int .i64 a0_7) := (zc BK363.out 7).trans rfl
   have hcz37_8 : w23.cell? ⟨gb363, 8, none⟩ = some (.int .i64 a0_8) := (zc BK363.out 8).trans rfl
   have hfz37_0 := zf BK363.out 0
   have hfz37_1 := zf BK363.out 1
   have hfz37_2 := zf BK363.out 2
   have hfz37_3 := zf BK363.out 3
   have hfz37_4 := zf BK363.out 4
   have hfz37_5 := zf BK363.out 5
   have hfz37_6 := zf BK363.out 6
   have hfz37_7 := zf BK363.out 7
   have hfz37_8 := zf BK363.out 8
   go_wp2
   go_ret
   exact ⟨by first | rfl | simp [*], by repeat (first | (with_reducible first | exact HB.out | apply pa | apply pd | apply pe | refine zs ?_ GE363.out | refine zs ?_ GE364.out) | exact HB.out)⟩
 rw [if_neg c14] at H
 have c14b0 : (a1_1 == a0_4) = false := beq_eq_false_iff_ne.mpr c14
 have c14b1 : (a1_1 != a0_4) = true := bne_iff_ne.mpr c14
 obtain rfl := Option.some.inj H
 go_enter Tryd.func38, Tryd.ntmps38
 go_wp2_with (first | ((with_reducible refine gate_dst (N := 2) rfl ?_); refine box_event ?hg (N := 2) ?hd (cs := #[.int .i64 a0_0, .string a0_1, .int .i64 a0_2, .int .i64 a0_3, .int .i64 a0_4, .int .i64 a0_5, .bool a0_6, .int .i64 a0_7, .int .i64 a0_8]) (t := 31) ?hr ?_; (case hd | hg => rfl); (case hr => first | (go_simp; done) | (go_simp; rfl)); intro gb363 hg w38 hbox hb; have n0_ := ak_ (ps (by with_reducible repeat first | exact HB.out | apply pa | apply pd | apply pe) hb); have n1_ := ak_ (hbox); have n2_ := ak_ ((by rw [hg]; exact (below_size (by with_reducible repeat first | exact HB.out | apply pa | apply pd | apply pe)) : w.heap.size ≤ gb363)); have n3_ := ak_ ((by rw [hg]; exact (below_size (by with_reducible repeat first | exact HB.out | apply pa | apply pd | apply pe)) : w.heap.size ≤ gb363)); clear HB; have HB := n0_; have BK363 := n1_; have GW363 := n2_; have GE363 := n3_; clear n0_ n1_ n2_ n3_ hb hbox hg) | ((with_reducible refine gate_dst (N := 3) rfl ?_); refine box_event ?hg (N := 3) ?hd (cs := #[.int .i64 a1_0, .int .i64 a1_1, .bool a1_2, .int .i64 a1_3, .bool a1_4]) (t := 41) ?hr ?_; (case hd | hg => rfl); (case hr => first | (go_simp; done) | (go_simp; rfl)); intro gb364 hg w39 hbox hb; have n0_ := ak_ (blk_below (g := gb363) (o := .cells #[.int .i64 a0_0, .string a0_1, .int .i64 a0_2, .int .i64 a0_3, .int .i64 a0_4, .int .i64 a0_5, .bool a0_6, .int .i64 a0_7, .int .i64 a0_8] 31 (0, 0)) (by (with_reducible repeat (first | apply zn | apply zd | apply za)); exact BK363.out) hb); have n1_ := ak_ (ps (by with_reducible repeat first | exact HB.out | apply pa | apply pd | apply pe | refine zs ?_ GE363.out) hb); have n2_ := ak_ (hbox); have n3_ := ak_ ((by rw [hg]; exact (below_size (by with_reducible repeat first | exact HB.out | apply pa | apply pd | apply pe | refine zs ?_ GE363.out)) : w.heap.size ≤ gb364)); have n4_ := ak_ ((by rw [hg]; exact (below_size (by with_reducible repeat first | exact HB.out | apply pa | apply pd | apply pe | refine zs ?_ GE363.out)) : w.heap.size ≤ gb364)); have n5_ := ak_ ((by rw [hg]; exact Nat.ne_of_lt (blk_lt (g := gb363) (by (with_reducible repeat (first | apply zn | apply zd | apply za)); exact BK363.out)) : gb363 ≠ gb364)); have n6_ := ak_ ((by rw [hg]; exact Nat.ne_of_gt (blk_lt (g := gb363) (by (with_reducible repeat (first | apply zn | apply zd | apply za)); exact BK363.out)) : gb364 ≠ gb363)); clear BK363 HB; have BK363 := n0_; have HB := n1_; have BK364 := n2_; have GW364 := n3_; have GE364 := n4_; have NB363_364 := n5_; have NB364_363 := n6_; clear n0_ n1_ n2_ n3_ n4_ n5_ n6_ hb hbox hg; have hnb40 := NB363_364.out; have hnc40 := NB364_363.out; have hcz41_0 : w39.cell? ⟨gb363, 0, none⟩ = some (.int .i64 a0_0) := (zc BK363.out 0).trans rfl; have hcz41_1 : w39.cell? ⟨gb363, 1, none⟩ = some (.string a0_1) := (zc BK363.out 1).trans rfl; have hcz41_2 : w39.cell? ⟨gb363, 2, none⟩ = some (.int .i64 a0_2) := (zc BK363.out 2).trans rfl; have hcz41_3 : w39.cell? ⟨gb363, 3, none⟩ = some (.int .i64 a0_3) := (zc BK363.out 3).trans rfl; have hcz41_4 : w39.cell? ⟨gb363, 4, none⟩ = some (.int .i64 a0_4) := (zc BK363.out 4).trans rfl; have hcz41_5 : w39.cell? ⟨gb363, 5, none⟩ = some (.int .i64 a0_5) := (zc BK363.out 5).trans rfl; have hcz41_6 : w39.cell? ⟨gb363, 6, none⟩ = some (.bool a0_6) := (zc BK363.out 6).trans rfl; have hcz41_7 : w39.cell? ⟨gb363, 7, none⟩ = some (.int .i64 a0_7) := (zc BK363.out 7).trans rfl; have hcz41_8 : w39.cell? ⟨gb363, 8, none⟩ = some (.int .i64 a0_8) := (zc BK363.out 8).trans rfl; have hfz41_0 := zf BK363.out 0; have hfz41_1 := zf BK363.out 1; have hfz41_2 := zf BK363.out 2; have hfz41_3 := zf BK363.out 3; have hfz41_4 := zf BK363.out 4; have hfz41_5 := zf BK363.out 5; have hfz41_6 := zf BK363.out 6; have hfz41_7 := zf BK363.out 7; have hfz41_8 := zf BK363.out 8; have hcz42_0 : w39.cell? ⟨gb364, 0, none⟩ = some (.int .i64 a1_0) := (zc BK364.out 0).trans rfl; have hcz42_1 : w39.cell? ⟨gb364, 1, none⟩ = some (.int .i64 a1_1) := (zc BK364.out 1).trans rfl; have hcz42_2 : w39.cell? ⟨gb364, 2, none⟩ = some (.bool a1_2) := (zc BK364.out 2).trans rfl; have hcz42_3 : w39.cell? ⟨gb364, 3, none⟩ = some (.int .i64 a1_3) := (zc BK364.out 3).trans rfl; have hcz42_4 : w39.cell? ⟨gb364, 4, none⟩ = some (.bool a1_4) := (zc BK364.out 4).trans rfl; have hfz42_0 := zf BK364.out 0; have hfz42_1 := zf BK364.out 1; have hfz42_2 := zf BK364.out 2; have hfz42_3 := zf BK364.out 3; have hfz42_4 := zf BK364.out 4))
 go_ret
 exact ⟨by first | rfl | simp [*], by repeat (first | (with_reducible first | exact HB.out | apply pa | apply pd | apply pe | refine zs ?_ GE363.out | refine zs ?_ GE364.out) | exact HB.out)⟩
def saga_done.j0 : Nat → Int → Bool → Int → ByteArray → Int → Int → Int → Int → Bool → Int → Int → Option (Int × ByteArray × Int × Int × Int × Int × Bool × Int × Int)
 | 0, _, _, _, _, _, _, _, _, _, _, _ => none
 | k + 1, x2, x7, x367000, x367001, x367002, x367003, x367004, x367005, x367006, x367007, x367008 => if x7 = true then ((saga_over.f x367000 x367001 x367002 x367003 x367004 x367005 x367006 x367007 x367008 3).bind fun bt368 => (some (bt368.1, bt368.2.1, bt368.2.2.1, bt368.2.2.2.1, bt368.2.2.2.2.1, bt368.2.2.2.2.2.1, bt368.2.2.2.2.2.2.1, bt368.2.2.2.2.2.2.2.1, bt368.2.2.2.2.2.2.2.2))) else (if x367003 = 0 then ((saga_at.f x367000 x367001 x367002 x367003 x367004 x367005 x367006 x367007 x367008 0 (wrap64 (x367004 + 1)) x2).bind fun bt377 => (some (bt377.1, bt377.2.1, bt377.2.2.1, bt377.2.2.2.1, bt377.2.2.2.2.1, bt377.2.2.2.2.2.1, bt377.2.2.2.2.2.2.1, bt377.2.2.2.2.2.2.2.1, bt377.2.2.2.2.2.2.2.2))) else (if x367004 > 0 then ((saga_at.f x367000 x367001 x367002 x367003 x367004 x367005 x367006 x367007 x367008 1 (wrap64 (x367004 - 1)) x2).bind fun bt386 => (some (bt386.1, bt386.2.1, bt386.2.2.1, bt386.2.2.2.1, bt386.2.2.2.2.1, bt386.2.2.2.2.2.1, bt386.2.2.2.2.2.2.1, bt386.2.2.2.2.2.2.2.1, bt386.2.2.2.2.2.2.2.2))) else (if x367008 > 0 then ((saga_over.f x367000 x367001 x367002 x367003 x367004 x367005 x367006 x367007 x367008 5).bind fun bt395 => (some (bt395.1, bt395.2.1, bt395.2.2.1, bt395.2.2.2.1, bt395.2.2.2.2.1, bt395.2.2.2.2.2.1, bt395.2.2.2.2.2.2.1, bt395.2.2.2.2.2.2.2.1, bt395.2.2.2.2.2.2.2.2))) else ((saga_over.f x367000 x367001 x367002 x367003 x367004 x367005 x367006 x367007 x367008 4).bind fun bt404 => (some (bt404.1, bt404.2.1, bt404.2.2.1, bt404.2.2.2.1, bt404.2.2.2.2.1, bt404.2.2.2.2.2.1, bt404.2.2.2.2.2.2.1, bt404.2.2.2.2.2.2.2.1, bt404.2.2.2.2.2.2.2.2))))))
def saga_done.f (k : Nat) (a0_0 : ByteArray) (a0_1 : Int) (l0_2 : List (S70)) (a1_0 : Int) (a1_1 : ByteArray) (a1_2 : Int) (a1_3 : Int) (a1_4 : Int) (a1_5 : Int) (a1_6 : Bool) (a1_7 : Int) (a1_8 : Int) (a2 : Int) : Option (Int × ByteArray × Int × Int × Int × Int × Bool × Int × Int) := if a1_3 = 0 then (saga_done.j0 k a2 (a1_4 == (wrap64 ((l0_2.length : Int) - 1))) a1_0 a1_1 a1_2 a1_3 a1_4 a1_5 a1_6 a1_7 a1_8) else (saga_done.j0 k a2 false a1_0 a1_1 a1_2 a1_3 a1_4 a1_5 a1_6 a1_7 a1_8)
theorem saga_done.calls (k : Nat) (a0_0 : ByteArray) (a0_1 : Int) (A0_2 : Option Addr) (c0_2 : Nat) (l0_2 : List (S70)) (a1_0 : Int) (a1_1 : ByteArray) (a1_2 : Int) (a1_3 : Int) (a1_4 : Int) (a1_5 : Int) (a1_6 : Bool) (a1_7 : Int) (a1_8 : Int) (a2 : Int) (r1 : Int) (r2 : ByteArray) (r3 : Int) (r4 : Int) (r5 : Int) (r6 : Int) (r7 : Bool) (r8 : Int) (r9 : Int) (w : World) (hr0_2 : Kd.C k70 w A0_2 l0_2.length l0_2) (hc0_2 : l0_2.length ≤ c0_2) (h : saga_done.f k a0_0 a0_1 l0_2 a1_0 a1_1 a1_2 a1_3 a1_4 a1_5 a1_6 a1_7 a1_8 a2 = some (r1, r2, r3, r4, r5, r6, r7, r8, r9)) :
 Calls Tryd.prog 39 #[.agg #[.string a0_0, .int .i64 a0_1, .slice A0_2 l0_2.length c0_2], .agg #[.int .i64 a1_0, .string a1_1, .int .i64 a1_2, .int .i64 a1_3, .int .i64 a1_4, .int .i64 a1_5, .bool a1_6, .int .i64 a1_7, .int .i64 a1_8], .int .i64 a2] w fun e w' => e = .returned (.agg #[.int .i64 r1, .string r2, .int .i64 r3, .int .i64 r4, .int .i64 r5, .int .i64 r6, .bool r7, .int .i64 r8, .int .i64 r9]) ∧ Below w.heap.size w w' := by
 have hu24 := Tryd.underlying24
 have hu31 := Tryd.underlying31
 have HR0_2 := ak_ hr0_2
 have HC0_2 := ak_ hc0_2
 clear hr0_2 hc0_2
 have HB := ak_ (Below.refl w.heap.size w)
 have H : (if a1_3 = 0 then (saga_done.j0 k a2 (a1_4 == (wrap64 ((l0_2.length : Int) - 1))) a1_0 a1_1 a1_2 a1_3 a1_4 a1_5 a1_6 a1_7 a1_8) else (saga_done.j0 k a2 false a1_0 a1_1 a1_2 a1_3 a1_4 a1_5 a1_6 a1_7 a1_8)) = some (r1, r2, r3, r4, r5, r6, r7, r8, r9) := h
 clear h
 have HC4 := ak_ H
 clear H
 go_enter Tryd.func39, Tryd.ntmps39
 go_upto_region 1 with (first | ((with_reducible refine gate_dst (N := 3) rfl ?_); (try (refine gate_guard (by rfl) ?_; dsimp only)); refine box_event ?hg (N := 3) ?hd (cs := #[.string a0_0, .int .i64 a0_1, .slice A0_2 l0_2.length c0_2]) (t := 24) ?hr ?_; (case hd | hg => rfl); (case hr => first | (go_simp; done) | (go_simp; rfl)); intro gb365 hg w5 hbox hb; have n0_ := ak_ (ps (by with_reducible repeat first | exact HB.out | apply pa | apply pd | apply pe) hb); have n1_ := ak_ (hbox); have n2_ := ak_ ((by rw [hg]; exact (below_size (by with_reducible repeat first | exact HB.out | apply pa | apply pd | apply pe)) : w.heap.size ≤ gb365)); have n3_ := ak_ ((by rw [hg]; exact (below_size (by with_reducible repeat first | exact HB.out | apply pa | apply pd | apply pe)) : w.heap.size ≤ gb365)); clear HB; have HB := n0_; have BK365 := n1_; have GW365 := n2_; have GE365 := n3_; clear n0_ n1_ n2_ n3_ hb hbox hg) | ((with_reducible refine gate_dst (N := 4) rfl ?_); (try (refine gate_guard (by rfl) ?_; dsimp only)); refine box_event ?hg (N := 4) ?hd (cs := #[.int .i64 a1_0, .string a1_1, .int .i64 a1_2, .int .i64 a1_3, .int .i64 a1_4, .int .i64 a1_5, .bool a1_6, .int .i64 a1_7, .int .i64 a1_8]) (t := 31) ?hr ?_; (case hd | hg => rfl); (case hr => first | (go_simp; done) | (go_simp; rfl)); intro gb366 hg w6 hbox hb; have n0_ := ak_ (blk_below (g := gb365) (o := .cells #[.string a0_0, .int .i64 a0_1, .slice A0_2 l0_2.length c0_2] 24 (0, 0)) (by (with_reducible repeat (first | apply zn | apply zd | apply za)); exact BK365.out) hb); have n1_ := ak_ (ps (by with_reducible repeat first | exact HB.out | apply pa | apply pd | apply pe | refine zs ?_ GE365.out) hb); have n2_ := ak_ (hbox); have n3_ := ak_ ((by rw [hg]; exact (below_size (by with_reducible repeat first | exact HB.out | apply pa | apply pd | apply pe | refine zs ?_ GE365.out)) : w.heap.size ≤ gb366)); have n4_ := ak_ ((by rw [hg]; exact (below_size (by with_reducible repeat first | exact HB.out | apply pa | apply pd | apply pe | refine zs ?_ GE365.out)) : w.heap.size ≤ gb366)); have n5_ := ak_ ((by rw [hg]; exact Nat.ne_of_lt (blk_lt (g := gb365) (by (with_reducible repeat (first | apply zn | apply zd | apply za)); exact BK365.out)) : gb365 ≠ gb366)); have n6_ := ak_ ((by rw [hg]; exact Nat.ne_of_gt (blk_lt (g := gb365) (by (with_reducible repeat (first | apply zn | apply zd | apply za)); exact BK365.out)) : gb366 ≠ gb365)); clear BK365 HB; have BK365 := n0_; have HB := n1_; have BK366 := n2_; have GW366 := n3_; have GE366 := n4_; have NB365_366 := n5_; have NB366_365 := n6_; clear n0_ n1_ n2_ n3_ n4_ n5_ n6_ hb hbox hg) | ((with_reducible refine gate_dst (N := 6) rfl ?_); (try (refine gate_guard (by rfl) ?_; dsimp only)); refine box_event ?hg (N := 6) ?hd (cs := #[.int .i64 0, .string ⟨#[]⟩, .int .i64 0, .int .i64 0, .int .i64 0, .int .i64 0, .bool false, .int .i64 0, .int .i64 0]) (t := 31) ?hr ?_; (case hd | hg => rfl); (case hr => first | (go_simp; done) | (go_simp; rfl)); intro gb367 hg w7 hbox hb; have n0_ := ak_ (blk_below (g := gb365) (o := .cells #[.string a0_0, .int .i64 a0_1, .slice A0_2 l0_2.length c0_2] 24 (0, 0)) (by (with_reducible repeat (first | apply zn | apply zd | apply za)); exact BK365.out) hb); have n1_ := ak_ (blk_below (g := gb366) (o := .cells #[.int .i64 a1_0, .string a1_1, .int .i64 a1_2, .int .i64 a1_3, .int .i64 a1_4, .int .i64 a1_5, .bool a1_6, .int .i64 a1_7, .int .i64 a1_8] 31 (0, 0)) (by (with_reducible repeat (first | apply zn | apply zd | apply za)); exact BK366.out) hb); have n2_ := ak_ (ps (by with_reducible repeat first | exact HB.out | apply pa | apply pd | apply pe | refine zs ?_ GE365.out | refine zs ?_ GE366.out) hb); have n3_ := ak_ (hbox); have n4_ := ak_ ((by rw [hg]; exact (below_size (by with_reducible repeat first | exact HB.out | apply pa | apply pd | apply pe | refine zs ?_ GE365.out | refine zs ?_ GE366.out)) : w.heap.size ≤ gb367)); have n5_ := ak_ ((by rw [hg]; exact (below_size (by with_reducible repeat first | exact HB.out | apply pa | apply pd | apply pe | refine zs ?_ GE365.out | refine zs ?_ GE366.out)) : w.heap.size ≤ gb367)); have n6_ := ak_ ((by rw [hg]; exact Nat.ne_of_lt (blk_lt (g := gb365) (by (with_reducible repeat (first | apply zn | apply zd | apply za)); exact BK365.out)) : gb365 ≠ gb367)); have n7_ := ak_ ((by rw [hg]; exact Nat.ne_of_gt (blk_lt (g := gb365) (by (with_reducible repeat (first | apply zn | apply zd | apply za)); exact BK365.out)) : gb367 ≠ gb365)); have n8_ := ak_ ((by rw [hg]; exact Nat.ne_of_lt (blk_lt (g := gb366) (by (with_reducible repeat (first | apply zn | apply zd | apply za)); exact BK366.out)) : gb366 ≠ gb367)); have n9_ := ak_ ((by rw [hg]; exact Nat.ne_of_gt (blk_lt (g := gb366) (by (with_reducible repeat (first | apply zn | apply zd | apply za)); exact BK366.out)) : gb367 ≠ gb366)); clear BK365 BK366 HB; have BK365 := n0_; have BK366 := n1_; have HB := n2_; have BK367 := n3_; have GW367 := n4_; have GE367 := n5_; have NB365_367 := n6_; have NB367_365 := n7_; have NB366_367 := n8_; have NB367_366 := n9_; clear n0_ n1_ n2_ n3_ n4_ n5_ n6_ n7_ n8_ n9_ hb hbox hg))
 (try simp only [Act.put, sa_, sz_, ss_])
 go_cut [7] (fun v7 wc => ∃ (kq : Nat) (x7_3 : Bool), v7 = .bool x7_3 ∧ Aside0 (saga_done.j0 kq a2 x7_3 a1_0 a1_1 a1_2 a1_3 a1_4 a1_5 a1_6 a1_7 a1_8 = some (r1, r2, r3, r4, r5, r6, r7, r8, r9)) ∧ Aside0 (kq ≤ k) ∧ Aside0 (wc.heap[gb365]? = some (.cells #[.string a0_0, .int .i64 a0_1, (.slice A0_2 l0_2.length c0_2)] 24 (0, 0))) ∧ Aside0 (wc.heap[gb366]? = some (.cells #[.int .i64 a1_0, .string a1_1, .int .i64 a1_2, .int .i64 a1_3, .int .i64 a1_4, .int .i64 a1_5, .bool a1_6, .int .i64 a1_7, .int .i64 a1_8] 31 (0, 0))) ∧ Aside0 (wc.heap[gb367]? = some (.cells #[.int .i64 0, .string ⟨#[]⟩, .int .i64 0, .int .i64 0, .int .i64 0, .int .i64 0, .bool false, .int .i64 0, .int .i64 0] 31 (0, 0))) ∧ Aside0 (Below w.heap.size w wc))
 case first =>
  have H := HC4.out
  clear HC4
  by_cases c8 : a1_3 = 0
  · rw [if_pos c8] at H
    have c8b0 : (a1_3 == 0) = true := beq_iff_eq.mpr c8
    have c8b1 : (a1_3 != 0) = false := bne_eq_false_iff_eq.mpr c8
    clear c8
    (first | rw [c8b0] | (simp only [i64_w, i32_w]; rw [c8b0]) | skip)
    have H' := ak_ H
    clear H
    have hnb9 := NB366_365.out
    have hnc9 := NB365_366.out
    have hnb10 := NB366_367.out
    have hnc10 := NB367_366.out
    have hcz11_0 : w7.cell? ⟨gb366, 0, none⟩ = some (.int .i64 a1_0) := (zc BK366.out 0).trans rfl
    have hcz11_1 : w7.cell? ⟨gb366, 1, none⟩ = some (.string a1_1) := (zc BK366.out 1).trans rfl
    have hcz11_2 : w7.cell? ⟨gb366, 2, none⟩ = some (.int .i64 a1_2) := (zc BK366.out 2).trans rfl
    have hcz11_3 : w7.cell? ⟨gb366, 3, none⟩ = some (.int .i64 a1_3) := (zc BK366.out 3).trans rfl
    have hcz11_4 : w7.cell? ⟨gb366, 4, none⟩ = some (.int .i64 a1_4) := (zc BK366.out 4).trans rfl
    have hcz11_5 : w7.cell? ⟨gb366, 5, none⟩ = some (.int .i64 a1_5) := (zc BK366.out 5).trans rfl
    have hcz11_6 : w7.cell? ⟨gb366, 6, none⟩ = some (.bool a1_6) := (zc BK366.out 6).trans rfl
    have hcz11_7 : w7.cell? ⟨gb366, 7, none⟩ = some (.int .i64 a1_7) := (zc BK366.out 7).trans rfl
    have hcz11_8 : w7.cell? ⟨gb366, 8, none⟩ = some (.int .i64 a1_8) := (zc BK366.out 8).trans rfl
    have hfz11_0 := zf BK366.out 0
    have hfz11_1 := zf BK366.out 1
    have hfz11_2 := zf BK366.out 2
    have hfz11_3 := zf BK366.out 3
    have hfz11_4 := zf BK366.out 4
    have hfz11_5 := zf BK366.out 5
    have hfz11_6 := zf BK366.out 6
    have hfz11_7 := zf BK366.out 7
    have hfz11_8 := zf BK366.out 8
    have hnb12 := NB365_367.out
    have hnc12 := NB367_365.out
    have hcz13_0 : w7.cell? ⟨gb365, 0, none⟩ = some (.string a0_0) := (zc BK365.out 0).trans rfl
    have hcz13_1 : w7.cell? ⟨gb365, 1, none⟩ = some (.int .i64 a0_1) := (zc BK365.out 1).trans rfl
    have hcz13_2 : w7.cell? ⟨gb365, 2, none⟩ = some (.slice A0_2 l0_2.length c0_2) := (zc BK365.out 2).trans rfl
    have hfz13_0 := zf BK365.out 0
    have hfz13_1 := zf BK365.out 1
    have hfz13_2 := zf BK365.out 2
    go_wp2
    go_meet
    case rel => exact ⟨_, ((a1_4 == (wrap64 ((l0_2.length : Int) - 1)))), (by first | rfl | simp [*]), H', ⟨by first | omega | exact Nat.le_refl _⟩, ⟨by (with_reducible repeat (first | apply zn | apply zd | apply za)); exact BK365.out⟩, ⟨by (with_reducible repeat (first | apply zn | apply zd | apply za)); exact BK366.out⟩, ⟨by (with_reducible repeat (first | apply zn | apply zd | apply za)); exact BK367.out⟩, ⟨by repeat (first | (with_reducible first | exact HB.out | apply pa | apply pd | apply pe | refine zs ?_ GE365.out | refine zs ?_ GE366.out | refine zs ?_ GE367.out) | exact HB.out)⟩⟩
  rw [if_neg c8] at H
  have c8b0 : (a1_3 == 0) = false := beq_eq_false_iff_ne.mpr c8
  have c8b1 : (a1_3 != 0) = true := bne_iff_ne.mpr c8
  (first | rw [c8b0] | (simp only [i64_w, i32_w]; rw [c8b0]) | skip)
  have H' := ak_ H
  clear H
  have hnb14 := NB366_365.out
  have hnc14 := NB365_366.out
  have hnb15 := NB366_367.out
  have hnc15 := NB367_366.out
  have hcz16_0 : w7.cell? ⟨gb366, 0, none⟩ = some (.int .i64 a1_0) := (zc BK366.out 0).trans rfl
  have hcz16_1 : w7.cell? ⟨gb366, 1, none⟩ = some (.string a1_1) := (zc BK366.out 1).trans rfl
  have hcz16_2 : w7.cell? ⟨gb366, 2, none⟩ = some (.int .i64 a1_2) := (zc BK366.out 2).trans rfl
  have hcz16_3 : w7.cell? ⟨gb366, 3, none⟩ = some (.int .i64 a1_3) := (zc BK366.out 3).trans rfl
  have hcz16_4 : w7.cell? ⟨gb366, 4, none⟩ = some (.int .i64 a1_4) := (zc BK366.out 4).trans rfl
  have hcz16_5 : w7.cell? ⟨gb366, 5, none⟩ = some (.int .i64 a1_5) := (zc BK366.out 5).trans rfl
  have hcz16_6 : w7.cell? ⟨gb366, 6, none⟩ = some (.bool a1_6) := (zc BK366.out 6).trans rfl
  have hcz16_7 : w7.cell? ⟨gb366, 7, none⟩ = some (.int .i64 a1_7) := (zc BK366.out 7).trans rfl
  have hcz16_8 : w7.cell? ⟨gb366, 8, none⟩ = some (.int .i64 a1_8) := (zc BK366.out 8).trans rfl
  have hfz16_0 := zf BK366.out 0
  have hfz16_1 := zf BK366.out 1
  have hfz16_2 := zf BK366.out 2
  have hfz16_3 := zf BK366.out 3
  have hfz16_4 := zf BK366.out 4
  have hfz16_5 := zf BK366.out 5
  have hfz16_6 := zf BK366.out 6
  have hfz16_7 := zf BK366.out 7
  have hfz16_8 := zf BK366.out 8
  go_wp2
  go_meet
  case rel => exact ⟨_, (false), (by first | rfl | simp [*]), H', ⟨by first | omega | exact Nat.le_refl _⟩, ⟨by (with_reducible repeat (first | apply zn | apply zd | apply za)); exact BK365.out⟩, ⟨by (with_reducible repeat (first | apply zn | apply zd | apply za)); exact BK366.out⟩, ⟨by (with_reducible repeat (first | apply zn | apply zd | apply za)); exact BK367.out⟩, ⟨by repeat (first | (with_reducible first | exact HB.out | apply pa | apply pd | apply pe | refine zs ?_ GE365.out | refine zs ?_ GE366.out | refine zs ?_ GE367.out) | exact HB.out)⟩⟩
 case rest =>
  clear HC4
  try clear c1
  try clear p2
  try clear c3
  try clear p6
  try clear c8
  try clear c8b0
  try clear c8b1
  try clear c9
  try clear c10
  try clear c12
  try clear c14
  try clear c15
  try clear hcz11_0
  try clear hcz11_1
  try clear hcz11_2
  try clear hcz11_3
  try clear hcz11_4
  try clear hcz11_5
  try clear hcz11_6
  try clear hcz11_7
  try clear hcz11_8
  try clear hcz13_0
  try clear hcz13_1
  try clear hcz13_2
  try clear hcz16_0
  try clear hcz16_1
  try clear hcz16_2
  try clear hcz16_3
  try clear hcz16_4
  try clear hcz16_5
  try clear hcz16_6
  try clear hcz16_7
  try clear hcz16_8
  try clear hfz11_0
  try clear hfz11_1
  try clear hfz11_2
  try clear hfz11_3
  try clear hfz11_4
  try clear hfz11_5
  try clear hfz11_6
  try clear hfz11_7
  try clear hfz11_8
  try clear hfz13_0
  try clear hfz13_1
  try clear hfz13_2
  try clear hfz16_0
  try clear hfz16_1
  try clear hfz16_2
  try clear hfz16_3
  try clear hfz16_4
  try clear hfz16_5
  try clear hfz16_6
  try clear hfz16_7
  try clear hfz16_8
  obtain ⟨kq, x7_3, rfl, HA, HJ3, BK365, BK366, BK367, HB⟩ := hcut
  cases kq with
  | zero => exact absurd HA.out (by simp [saga_done.j0])
  | succ kj3 =>
   have H := HA.out
   clear HA
   simp only [saga_done.j0] at H
   have HF17 := ak_ H
   clear H
   go_upto_if 7 with (fail)
   have H := HF17.out
   clear HF17
   by_cases c18 : x7_3 = true
   · subst c18
     have H1 : ((saga_over.f a1_0 a1_1 a1_2 a1_3 a1_4 a1_5 a1_6 a1_7 a1_8 3).bind fun bt368 => (some (bt368.1, bt368.2.1, bt368.2.2.1, bt368.2.2.2.1, bt368.2.2.2.2.1, bt368.2.2.2.2.2.1, bt368.2.2.2.2.2.2.1, bt368.2.2.2.2.2.2.2.1, bt368.2.2.2.2.2.2.2.2))) = some (r1, r2, r3, r4, r5, r6, r7, r8, r9) := by rw [if_pos rfl] at H; exact H
     clear H
     have H := H1
     clear H1
     replace H := ob_ H
     obtain ⟨⟨t368, t369, t370, t371, t372, t373, t374, t375, t376⟩, A190, H⟩ := H
     replace H : (some (t368, t369, t370, t371, t372, t373, t374, t375, t376)) = some (r1, r2, r3, r4, r5, r6, r7, r8, r9) := H
     have A19 := ak_ A190
     clear A190
     simp only [Option.some.injEq, Prod.mk.injEq] at H
     obtain ⟨rfl, rfl, rfl, rfl, rfl, rfl, rfl, rfl, rfl⟩ := H
     have hnb20 := NB366_365.out
     have hnc20 := NB365_366.out
     have hnb21 := NB366_367.out
     have hnc21 := NB367_366.out
     have hcz22_0 : wc.cell? ⟨gb366, 0, none⟩ = some (.int .i64 a1_0) := (zc BK366.out 0).trans rfl
     have hcz22_1 : wc.cell? ⟨gb366, 1, none⟩ = some (.string a1_1) := (zc BK366.out 1).trans rfl
     have hcz22_2 : wc.cell? ⟨gb366, 2, none⟩ = some (.int .i64 a1_2) := (zc BK366.out 2).trans rfl
     have hcz22_3 : wc.cell? ⟨gb366, 3, none⟩ = some (.int .i64 a1_3) := (zc BK366.out 3).trans rfl
     have hcz22_4 : wc.cell? ⟨gb366, 4, none⟩ = some (.int .i64 a1_4) := (zc BK366.out 4).trans rfl
     have hcz22_5 : wc.cell? ⟨gb366, 5, none⟩ = some (.int .i64 a1_5) := (zc BK366.out 5).trans rfl
     have hcz22_6 : wc.cell? ⟨gb366, 6, none⟩ = some (.bool a1_6) := (zc BK366.out 6).trans rfl
     have hcz22_7 : wc.cell? ⟨gb366, 7, none⟩ = some (.int .i64 a1_7) := (zc BK366.out 7).trans rfl
     have hcz22_8 : wc.cell? ⟨gb366, 8, none⟩ = some (.int .i64 a1_8) := (zc BK366.out 8).trans rfl
     have hfz22_0 := zf BK366.out 0
     have hfz22_1 := zf BK366.out 1
     have hfz22_2 := zf BK366.out 2
     have hfz22_3 := zf BK366.out 3
     have hfz22_4 := zf BK366.out 4
     have hfz22_5 := zf BK366.out 5
     have hfz22_6 := zf BK366.out 6
     have hfz22_7 := zf BK366.out 7
     have hfz22_8 := zf BK366.out 8
     go_wp2_with (first | ((with_reducible refine gate_callee (f := 71) rfl ?_); refine goesL_ (some 21) rfl rfl Tryd.func71 (by kernel_rfl) rfl #[.agg #[.int .i64 a1_0, .string a1_1, .int .i64 a1_2, .int .i64 a1_3, .int .i64 a1_4, .int .i64 a1_5, .bool a1_6, .int .i64 a1_7, .int .i64 a1_8], .int .i64 3] rfl (by (try simp only [mt_, mc_, mn_]); first | done | rfl) ?_; (with_reducible refine (saga_over.calls a1_0 a1_1 a1_2 a1_3 a1_4 a1_5 a1_6 a1_7 a1_8 3 t368 t369 t370 t371 t372 t373 t374 t375 t376 _ A19.out).mono ?_); rintro e w23 ⟨rfl, hb⟩; refine ⟨_, rfl, ?_⟩; have n0_ := ak_ (blk_below (g := gb365) (o := .cells #[.string a0_0, .int .i64 a0_1, .slice A0_2 l0_2.length c0_2] 24 (0, 0)) (by (with_reducible repeat (first | apply zn | apply zd | apply za)); exact BK365.out) hb); have n1_ := ak_ (blk_below (g := gb366) (o := .cells #[.int .i64 a1_0, .string a1_1, .int .i64 a1_2, .int .i64 a1_3, .int .i64 a1_4, .int .i64 a1_5, .bool a1_6, .int .i64 a1_7, .int .i64 a1_8] 31 (0, 0)) (by (with_reducible repeat (first | apply zn | apply zd | apply za)); exact BK366.out) hb); have n2_ := ak_ (blk_below (g := gb367) (o := .cells #[.int .i64 0, .string ⟨#[]⟩, .int .i64 0, .int .i64 0, .int .i64 0, .int .i64 0, .bool false, .int .i64 0, .int .i64 0] 31 (0, 0)) (by (with_reducible repeat (first | apply zn | apply zd | apply za)); exact BK367.out) hb); have n3_ := ak_ (ps (by with_reducible repeat first | exact HB.out | apply pa | apply pd | apply pe | refine zs ?_ GE365.out | refine zs ?_ GE366.out | refine zs ?_ GE367.out) hb); clear BK365 BK366 BK367 HB; have BK365 := n0_; have BK366 := n1_; have BK367 := n2_; have HB := n3_; clear n0_ n1_ n2_ n3_; have hnb24 := NB367_365.out; have hnc24 := NB365_367.out; have hcz25_0 : w23.cell? ⟨gb367, 0, none⟩ = some (.int .i64 0) := (zc BK367.out 0).trans rfl; have hcz25_1 : w23.cell? ⟨gb367, 1, none⟩ = some (.string ⟨#[]⟩) := (zc BK367.out 1).trans rfl; have hcz25_2 : w23.cell? ⟨gb367, 2, none⟩ = some (.int .i64 0) := (zc BK367.out 2).trans rfl; have hcz25_3 : w23.cell? ⟨gb367, 3, none⟩ = some (.int .i64 0) := (zc BK367.out 3).trans rfl; have hcz25_4 : w23.cell? ⟨gb367, 4, none⟩ = some (.int .i64 0) := (zc BK367.out 4).trans rfl; have hcz25_5 : w23.cell? ⟨gb367, 5, none⟩ = some (.int .i64 0) := (zc BK367.out 5).trans rfl; have hcz25_6 : w23.cell? ⟨gb367, 6, none⟩ = some (.bool false) := (zc BK367.out 6).trans rfl; have hcz25_7 : w23.cell? ⟨gb367, 7, none⟩ = some (.int .i64 0) := (zc BK367.out 7).trans rfl; have hcz25_8 : w23.cell? ⟨gb367, 8, none⟩ = some (.int .i64 0) := (zc BK367.out 8).trans rfl; have hfz25_0 := zf BK367.out 0; have hfz25_1 := zf BK367.out 1; have hfz25_2 := zf BK367.out 2; have hfz25_3 := zf BK367.out 3; have hfz25_4 := zf BK367.out 4; have hfz25_5 := zf BK367.out 5; have hfz25_6 := zf BK367.out 6; have hfz25_7 := zf BK367.out 7; have hfz25_8 := zf BK367.out 8))
     refine bodyPost_ret (results_cell_row rfl _ _ gb367 31 #[.int .i64 t368, .string t369, .int .i64 t370, .int .i64 t371, .int .i64 t372, .int .i64 t373, .bool t374, .int .i64 t375, .int .i64 t376] (0, 0) _ rfl (by (with_reducible repeat (first | apply zn | apply zd | apply za)); refine zp (cs := #[.int .i64 t368, .string t369, .int .i64 t370, .int .i64 t371, .int .i64 t372, .int .i64 t373, .bool t374, .int .i64 t375, .int .i64 0]) ?_ 8 _ rfl; (with_reducible repeat (first | apply zn | apply zd | apply za)); refine zp (cs := #[.int .i64 t368, .string t369, .int .i64 t370, .int .i64 t371, .int .i64 t372, .int .i64 t373, .bool t374, .int .i64 0, .int .i64 0]) ?_ 7 _ rfl; (with_reducible repeat (first | apply zn | apply zd | apply za)); refine zp (cs := #[.int .i64 t368, .string t369, .int .i64 t370, .int .i64 t371, .int .i64 t372, .int .i64 t373, .bool false, .int .i64 0, .int .i64 0]) ?_ 6 _ rfl; (with_reducible repeat (first | apply zn | apply zd | apply za)); refine zp (cs := #[.int .i64 t368, .string t369, .int .i64 t370, .int .i64 t371, .int .i64 t372, .int .i64 0, .bool false, .int .i64 0, .int .i64 0]) ?_ 5 _ rfl; (with_reducible repeat (first | apply zn | apply zd | apply za)); refine zp (cs := #[.int .i64 t368, .string t369, .int .i64 t370, .int .i64 t371, .int .i64 0, .int .i64 0, .bool false, .int .i64 0, .int .i64 0]) ?_ 4 _ rfl; (with_reducible repeat (first | apply zn | apply zd | apply za)); refine zp (cs := #[.int .i64 t368, .string t369, .int .i64 t370, .int .i64 0, .int .i64 0, .int .i64 0, .bool false, .int .i64 0, .int .i64 0]) ?_ 3 _ rfl; (with_reducible repeat (first | apply zn | apply zd | apply za)); refine zp (cs := #[.int .i64 t368, .string t369, .int .i64 0, .int .i64 0, .int .i64 0, .int .i64 0, .bool false, .int .i64 0, .int .i64 0]) ?_ 2 _ rfl; (with_reducible repeat (first | apply zn | apply zd | apply za)); refine zp (cs := #[.int .i64 t368, .string ⟨#[]⟩, .int .i64 0, .int .i64 0, .int .i64 0, .int .i64 0, .bool false, .int .i64 0, .int .i64 0]) ?_ 1 _ rfl; (with_reducible repeat (first | apply zn | apply zd | apply za)); refine zp (cs := #[.int .i64 0, .string ⟨#[]⟩, .int .i64 0, .int .i64 0, .int .i64 0, .int .i64 0, .bool false, .int .i64 0, .int .i64 0]) ?_ 0 _ rfl; (with_reducible repeat (first | apply zn | apply zd | apply za)); exact BK367.out) Tryd.underlying31 rfl (by kernel_rfl)) rfl ?_
     exact ⟨by first | rfl | simp [*], by repeat (first | (with_reducible first | exact HB.out | apply pa | apply pd | apply pe | refine zs ?_ GE365.out | refine zs ?_ GE366.out | refine zs ?_ GE367.out) | exact HB.out)⟩
   replace c18 := Bool.eq_false_iff.mpr c18
   subst c18
   have H1 : (if a1_3 = 0 then ((saga_at.f a1_0 a1_1 a1_2 a1_3 a1_4 a1_5 a1_6 a1_7 a1_8 0 (wrap64 (a1_4 + 1)) a2).bind fun bt377 => (some (bt377.1, bt377.2.1, bt377.2.2.1, bt377.2.2.2.1, bt377.2.2.2.2.1, bt377.2.2.2.2.2.1, bt377.2.2.2.2.2.2.1, bt377.2.2.2.2.2.2.2.1, bt377.2.2.2.2.2.2.2.2))) else (if a1_4 > 0 then ((saga_at.f a1_0 a1_1 a1_2 a1_3 a1_4 a1_5 a1_6 a1_7 a1_8 1 (wrap64 (a1_4 - 1)) a2).bind fun bt386 => (some (bt386.1, bt386.2.1, bt386.2.2.1, bt386.2.2.2.1, bt386.2.2.2.2.1, bt386.2.2.2.2.2.1, bt386.2.2.2.2.2.2.1, bt386.2.2.2.2.2.2.2.1, bt386.2.2.2.2.2.2.2.2))) else (if a1_8 > 0 then ((saga_over.f a1_0 a1_1 a1_2 a1_3 a1_4 a1_5 a1_6 a1_7 a1_8 5).bind fun bt395 => (some (bt395.1, bt395.2.1, bt395.2.2.1, bt395.2.2.2.1, bt395.2.2.2.2.1, bt395.2.2.2.2.2.1, bt395.2.2.2.2.2.2.1, bt395.2.2.2.2.2.2.2.1, bt395.2.2.2.2.2.2.2.2))) else ((saga_over.f a1_0 a1_1 a1_2 a1_3 a1_4 a1_5 a1_6 a1_7 a1_8 4).bind fun bt404 => (some (bt404.1, bt404.2.1, bt404.2.2.1, bt404.2.2.2.1, bt404.2.2.2.2.1, bt404.2.2.2.2.2.1, bt404.2.2.2.2.2.2.1, bt404.2.2.2.2.2.2.2.1, bt404.2.2.2.2.2.2.2.2)))))) = some (r1, r2, r3, r4, r5, r6, r7, r8, r9) := by rw [if_neg (show ¬ (false = true) by decide)] at H; exact H
   clear H
   have H := H1
   clear H1
   have HF26 := ak_ H
   clear H
   have hnb27 := NB366_365.out
   have hnc27 := NB365_366.out
   have hnb28 := NB366_367.out
   have hnc28 := NB367_366.out
   have hcz29_0 : wc.cell? ⟨gb366, 0, none⟩ = some (.int .i64 a1_0) := (zc BK366.out 0).trans rfl
   have hcz29_1 : wc.cell? ⟨gb366, 1, none⟩ = some (.string a1_1) := (zc BK366.out 1).trans rfl
   have hcz29_2 : wc.cell? ⟨gb366, 2, none⟩ = some (.int .i64 a1_2) := (zc BK366.out 2).trans rfl
   have hcz29_3 : wc.cell? ⟨gb366, 3, none⟩ = some (.int .i64 a1_3) := (zc BK366.out 3).trans rfl
   have hcz29_4 : wc.cell? ⟨gb366, 4, none⟩ = some (.int .i64 a1_4) := (zc BK366.out 4).trans rfl
   have hcz29_5 : wc.cell? ⟨gb366, 5, none⟩ = some (.int .i64 a1_5) := (zc BK366.out 5).trans rfl
   have hcz29_6 : wc.cell? ⟨gb366, 6, none⟩ = some (.bool a1_6) := (zc BK366.out 6).trans rfl
   have hcz29_7 : wc.cell? ⟨gb366, 7, none⟩ = some (.int .i64 a1_7) := (zc BK366.out 7).trans rfl
   have hcz29_8 : wc.cell? ⟨gb366, 8, none⟩ = some (.int .i64 a1_8) := (zc BK366.out 8).trans rfl
   have hfz29_0 := zf BK366.out 0
   have hfz29_1 := zf BK366.out 1
   have hfz29_2 := zf BK366.out 2
   have hfz29_3 := zf BK366.out 3
   have hfz29_4 := zf BK366.out 4
   have hfz29_5 := zf BK366.out 5
   have hfz29_6 := zf BK366.out 6
   have hfz29_7 := zf BK366.out 7
   have hfz29_8 := zf BK366.out 8
   go_upto_if 22 with (fail)
   have H := HF26.out
   clear HF26
   by_cases c30 : a1_3 = 0
   · rw [if_pos c30] at H
     have c30b0 : (a1_3 == 0) = true := beq_iff_eq.mpr c30
     have c30b1 : (a1_3 != 0) = false := bne_eq_false_iff_eq.mpr c30
     clear c30
     (first | rw [c30b0] | (simp only [i64_w, i32_w]; rw [c30b0]) | skip)
     replace H := ob_ H
     obtain ⟨⟨t377, t378, t379, t380, t381, t382, t383, t384, t385⟩, A310, H⟩ := H
     replace H : (some (t377, t378, t379, t380, t381, t382, t383, t384, t385)) = some (r1, r2, r3, r4, r5, r6, r7, r8, r9) := H
     have A31 := ak_ A310
     clear A310
     simp only [Option.some.injEq, Prod.mk.injEq] at H
     obtain ⟨rfl, rfl, rfl, rfl, rfl, rfl, rfl, rfl, rfl⟩ := H
     have hnb32 := NB366_365.out
     have hnc32 := NB365_366.out
     have hnb33 := NB366_367.out
     have hnc33 := NB367_366.out
     have hcz34_0 : wc.cell? ⟨gb366, 0, none⟩ = some (.int .i64 a1_0) := (zc BK366.out 0).trans rfl
     have hcz34_1 : wc.cell? ⟨gb366, 1, none⟩ = some (.string a1_1) := (zc BK366.out 1).trans rfl
     have hcz34_2 : wc.cell? ⟨gb366, 2, none⟩ = some (.int .i64 a1_2) := (zc BK366.out 2).trans rfl
     have hcz34_3 : wc.cell? ⟨gb366, 3, none⟩ = some (.int .i64 a1_3) := (zc BK366.out 3).trans rfl
     have hcz34_4 : wc.cell? ⟨gb366, 4, none⟩ = some (.int .i64 a1_4) := (zc BK366.out 4).trans rfl
     have hcz34_5 : wc.cell? ⟨gb366, 5, none⟩ = some (.int .i64 a1_5) := (zc BK366.out 5).trans rfl
     have hcz34_6 : wc.cell? ⟨gb366, 6, none⟩ = some (.bool a1_6) := (zc BK366.out 6).trans rfl
     have hcz34_7 : wc.cell? ⟨gb366, 7, none⟩ = some (.int .i64 a1_7) := (zc BK366.out 7).trans rfl
     have hcz34_8 : wc.cell? ⟨gb366, 8, none⟩ = some (.int .i64 a1_8) := (zc BK366.out 8).trans rfl
     have hfz34_0 := zf BK366.out 0
     have hfz34_1 := zf BK366.out 1
     have hfz34_2 := zf BK366.out 2
     have hfz34_3 := zf BK366.out 3
     have hfz34_4 := zf BK366.out 4
     have hfz34_5 := zf BK366.out 5
     have hfz34_6 := zf BK366.out 6
     have hfz34_7 := zf BK366.out 7
     have hfz34_8 := zf BK366.out 8
     go_wp2_with (first | ((with_reducible refine gate_callee (f := 72) rfl ?_); refine goesL_ (some 31) rfl rfl Tryd.func72 (by kernel_rfl) rfl #[.agg #[.int .i64 a1_0, .string a1_1, .int .i64 a1_2, .int .i64 a1_3, .int .i64 a1_4, .int .i64 a1_5, .bool a1_6, .int .i64 a1_7, .int .i64 a1_8], .int .i64 0, .int .i64 (wrap64 (a1_4 + 1)), .int .i64 a2] rfl (by (try simp only [mt_, mc_, mn_]); first | done | rfl) ?_; (with_reducible refine (saga_at.calls a1_0 a1_1 a1_2 a1_3 a1_4 a1_5 a1_6 a1_7 a1_8 0 (wrap64 (a1_4 + 1)) a2 t377 t378 t379 t380 t381 t382 t383 t384 t385 _ A31.out).mono ?_); rintro e w35 ⟨rfl, hb⟩; refine ⟨_, rfl, ?_⟩; have n0_ := ak_ (blk_below (g := gb365) (o := .cells #[.string a0_0, .int .i64 a0_1, .slice A0_2 l0_2.length c0_2] 24 (0, 0)) (by (with_reducible repeat (first | apply zn | apply zd | apply za)); exact BK365.out) hb); have n1_ := ak_ (blk_below (g := gb366) (o := .cells #[.int .i64 a1_0, .string a1_1, .int .i64 a1_2, .int .i64 a1_3, .int .i64 a1_4, .int .i64 a1_5, .bool a1_6, .int .i64 a1_7, .int .i64 a1_8] 31 (0, 0)) (by (with_reducible repeat (first | apply zn | apply zd | apply za)); exact BK366.out) hb); have n2_ := ak_ (blk_below (g := gb367) (o := .cells #[.int .i64 0, .string ⟨#[]⟩, .int .i64 0, .int .i64 0, .int .i64 0, .int .i64 0, .bool false, .int .i64 0, .int .i64 0] 31 (0, 0)) (by (with_reducible repeat (first | apply zn | apply zd | apply za)); exact BK367.out) hb); have n3_ := ak_ (ps (by with_reducible repeat first | exact HB.out | apply pa | apply pd | apply pe | refine zs ?_ GE365.out | refine zs ?_ GE366.out | refine zs ?_ GE367.out) hb); clear BK365 BK366 BK367 HB; have BK365 := n0_; have BK366 := n1_; have BK367 := n2_; have HB := n3_; clear n0_ n1_ n2_ n3_; have hnb36 := NB367_365.out; have hnc36 := NB365_367.out; have hcz37_0 : w35.cell? ⟨gb367, 0, none⟩ = some (.int .i64 0) := (zc BK367.out 0).trans rfl; have hcz37_1 : w35.cell? ⟨gb367, 1, none⟩ = some (.string ⟨#[]⟩) := (zc BK367.out 1).trans rfl; have hcz37_2 : w35.cell? ⟨gb367, 2, none⟩ = some (.int .i64 0) := (zc BK367.out 2).trans rfl; have hcz37_3 : w35.cell? ⟨gb367, 3, none⟩ = some (.int .i64 0) := (zc BK367.out 3).trans rfl; have hcz37_4 : w35.cell? ⟨gb367, 4, none⟩ = some (.int .i64 0) := (zc BK367.out 4).trans rfl; have hcz37_5 : w35.cell? ⟨gb367, 5, none⟩ = some (.int .i64 0) := (zc BK367.out 5).trans rfl; have hcz37_6 : w35.cell? ⟨gb367, 6, none⟩ = some (.bool false) := (zc BK367.out 6).trans rfl; have hcz37_7 : w35.cell? ⟨gb367, 7, none⟩ = some (.int .i64 0) := (zc BK367.out 7).trans rfl; have hcz37_8 : w35.cell? ⟨gb367, 8, none⟩ = some (.int .i64 0) := (zc BK367.out 8).trans rfl; have hfz37_0 := zf BK367.out 0; have hfz37_1 := zf BK367.out 1; have hfz37_2 := zf BK367.out 2; have hfz37_3 := zf BK367.out 3; have hfz37_4 := zf BK367.out 4; have hfz37_5 := zf BK367.out 5; have hfz37_6 := zf BK367.out 6; have hfz37_7 := zf BK367.out 7; have hfz37_8 := zf BK367.out 8))
     refine bodyPost_ret (results_cell_row rfl _ _ gb367 31 #[.int .i64 t377, .string t378, .int .i64 t379, .int .i64 t380, .int .i64 t381, .int .i64 t382, .bool t383, .int .i64 t384, .int .i64 t385] (0, 0) _ rfl (by (with_reducible repeat (first | apply zn | apply zd | apply za)); refine zp (cs := #[.int .i64 t377, .string t378, .int .i64 t379, .int .i64 t380, .int .i64 t381, .int .i64 t382, .bool t383, .int .i64 t384, .int .i64 0]) ?_ 8 _ rfl; (with_reducible repeat (first | apply zn | apply zd | apply za)); refine zp (cs := #[.int .i64 t377, .string t378, .int .i64 t379, .int .i64 t380, .int .i64 t381, .int .i64 t382, .bool t383, .int .i64 0, .int .i64 0]) ?_ 7 _ rfl; (with_reducible repeat (first | apply zn | apply zd | apply za)); refine zp (cs := #[.int .i64 t377, .string t378, .int .i64 t379, .int .i64 t380, .int .i64 t381, .int .i64 t382, .bool false, .int .i64 0, .int .i64 0]) ?_ 6 _ rfl; (with_reducible repeat (first | apply zn | apply zd | apply za)); refine zp (cs := #[.int .i64 t377, .string t378, .int .i64 t379, .int .i64 t380, .int .i64 t381, .int .i64 0, .bool false, .int .i64 0, .int .i64 0]) ?_ 5 _ rfl; (with_reducible repeat (first | apply zn | apply zd | apply za)); refine zp (cs := #[.int .i64 t377, .string t378, .int .i64 t379, .int .i64 t380, .int .i64 0, .int .i64 0, .bool false, .int .i64 0, .int .i64 0]) ?_ 4 _ rfl; (with_reducible repeat (first | apply zn | apply zd | apply za)); refine zp (cs := #[.int .i64 t377, .string t378, .int .i64 t379, .int .i64 0, .int .i64 0, .int .i64 0, .bool false, .int .i64 0, .int .i64 0]) ?_ 3 _ rfl; (with_reducible repeat (first | apply zn | apply zd | apply za)); refine zp (cs := #[.int .i64 t377, .string t378, .int .i64 0, .int .i64 0, .int .i64 0, .int .i64 0, .bool false, .int .i64 0, .int .i64 0]) ?_ 2 _ rfl; (with_reducible repeat (first | apply zn | apply zd | apply za)); refine zp (cs := #[.int .i64 t377, .string ⟨#[]⟩, .int .i64 0, .int .i64 0, .int .i64 0, .int .i64 0, .bool false, .int .i64 0, .int .i64 0]) ?_ 1 _ rfl; (with_reducible repeat (first | apply zn | apply zd | apply za)); refine zp (cs := #[.int .i64 0, .string ⟨#[]⟩, .int .i64 0, .int .i64 0, .int .i64 0, .int .i64 0, .bool false, .int .i64 0, .int .i64 0]) ?_ 0 _ rfl; (with_reducible repeat (first | apply zn | apply zd | apply za)); exact BK367.out) Tryd.underlying31 rfl (by kernel_rfl)) rfl ?_
     exact ⟨by first | rfl | simp [*], by repeat (first | (with_reducible first | exact HB.out | apply pa | apply pd | apply pe | refine zs ?_ GE365.out | refine zs ?_ GE366.out | refine zs ?_ GE367.out) | exact HB.out)⟩
   rw [if_neg c30] at H
   have c30b0 : (a1_3 == 0) = false := beq_eq_false_iff_ne.mpr c30
   have c30b1 : (a1_3 != 0) = true := bne_iff_ne.mpr c30
   (first | rw [c30b0] | (simp only [i64_w, i32_w]; rw [c30b0]) | skip)
   have HF38 := ak_ H
   clear H
   have hnb39 := NB366_365.out
   have hnc39 := NB365_366.out
   have hnb40 := NB366_367.out
   have hnc40 := NB367_366.out
   have hcz41_0 : wc.cell? ⟨gb366, 0, none⟩ = some (.int .i64 a1_0) := (zc BK366.out 0).trans rfl
   have hcz41_1 : wc.cell? ⟨gb366, 1, none⟩ = some (.string a1_1) := (zc BK366.out 1).trans rfl
   have hcz41_2 : wc.cell? ⟨gb366, 2, none⟩ = some (.int .i64 a1_2) := (zc BK366.out 2).trans rfl
   have hcz41_3 : wc.cell? ⟨gb366, 3, none⟩ = some (.int .i64 a1_3) := (zc BK366.out 3).trans rfl
   have hcz41_4 : wc.cell? ⟨gb366, 4, none⟩ = some (.int .i64 a1_4) := (zc BK366.out 4).trans rfl
   have hcz41_5 : wc.cell? ⟨gb366, 5, none⟩ = some (.int .i64 a1_5) := (zc BK366.out 5).trans rfl
   have hcz41_6 : wc.cell? ⟨gb366, 6, none⟩ = some (.bool a1_6) := (zc BK366.out 6).trans rfl
   have hcz41_7 : wc.cell? ⟨gb366, 7, none⟩ = some (.int .i64 a1_7) := (zc BK366.out 7).trans rfl
   have hcz41_8 : wc.cell? ⟨gb366, 8, none⟩ = some (.int .i64 a1_8) := (zc BK366.out 8).trans rfl
   have hfz41_0 := zf BK366.out 0
   have hfz41_1 := zf BK366.out 1
   have hfz41_2 := zf BK366.out 2
   have hfz41_3 := zf BK366.out 3
   have hfz41_4 := zf BK366.out 4
   have hfz41_5 := zf BK366.out 5
   have hfz41_6 := zf BK366.out 6
   have hfz41_7 := zf BK366.out 7
   have hfz41_8 := zf BK366.out 8
   go_upto_if 32 with (fail)
   have H := HF38.out
   clear HF38
   by_cases c42 : a1_4 > 0
   · rw [if_pos c42] at H
     have c42b0 : decide (0 < a1_4) = true := dt_ c42
     clear c42
     (first | rw [c42b0] | (simp only [i64_w, i32_w]; rw [c42b0]) | skip)
     replace H := ob_ H
     obtain ⟨⟨t386, t387, t388, t389, t390, t391, t392, t393, t394⟩, A430, H⟩ := H
     replace H : (some (t386, t387, t388, t389, t390, t391, t392, t393, t394)) = some (r1, r2, r3, r4, r5, r6, r7, r8, r9) := H
     have A43 := ak_ A430
     clear A430
     simp only [Option.some.injEq, Prod.mk.injEq] at H
     obtain ⟨rfl, rfl, rfl, rfl, rfl, rfl, rfl, rfl, rfl⟩ := H
     have hnb44 := NB366_365.out
     have hnc44 := NB365_366.out
     have hnb45 := NB366_367.out
     have hnc45 := NB367_366.out
     have hcz46_0 : wc.cell? ⟨gb366, 0, none⟩ = some (.int .i64 a1_0) := (zc BK366.out 0).trans rfl
     have hcz46_1 : wc.cell? ⟨gb366, 1, none⟩ = some (.string a1_1) := (zc BK366.out 1).trans rfl
     have hcz46_2 : wc.cell? ⟨gb366, 2, none⟩ = some (.int .i64 a1_2) := (zc BK366.out 2).trans rfl
     have hcz46_3 : wc.cell? ⟨gb366, 3, none⟩ = some (.int .i64 a1_3) := (zc BK366.out 3).trans rfl
     have hcz46_4 : wc.cell? ⟨gb366, 4, none⟩ = some (.int .i64 a1_4) := (zc BK366.out 4).trans rfl
     have hcz46_5 : wc.cell? ⟨gb366, 5, none⟩ = some (.int .i64 a1_5) := (zc BK366.out 5).trans rfl
     have hcz46_6 : wc.cell? ⟨gb366, 6, none⟩ = some (.bool a1_6) := (zc BK366.out 6).trans rfl
     have hcz46_7 : wc.cell? ⟨gb366, 7, none⟩ = some (.int .i64 a1_7) := (zc BK366.out 7).trans rfl
     have hcz46_8 : wc.cell? ⟨gb366, 8, none⟩ = some (.int .i64 a1_8) := (zc BK366.out 8).trans rfl
     have hfz46_0 := zf BK366.out 0
     have hfz46_1 := zf BK366.out 1
     have hfz46_2 := zf BK366.out 2
     have hfz46_3 := zf BK366.out 3
     have hfz46_4 := zf BK366.out 4
     have hfz46_5 := zf BK366.out 5
     have hfz46_6 := zf BK366.out 6
     have hfz46_7 := zf BK366.out 7
     have hfz46_8 := zf BK366.out 8
     go_wp2_with (first | ((with_reducible refine gate_callee (f := 72) rfl ?_); refine goesL_ (some 41) rfl rfl Tryd.func72 (by kernel_rfl) rfl #[.agg #[.int .i64 a1_0, .string a1_1, .int .i64 a1_2, .int .i64 a1_3, .int .i64 a1_4, .int .i64 a1_5, .bool a1_6, .int .i64 a1_7, .int .i64 a1_8], .int .i64 1, .int .i64 (wrap64 (a1_4 - 1)), .int .i64 a2] rfl (by (try simp only [mt_, mc_, mn_]); first | done | rfl) ?_; (with_reducible refine (saga_at.calls a1_0 a1_1 a1_2 a1_3 a1_4 a1_5 a1_6 a1_7 a1_8 1 (wrap64 (a1_4 - 1)) a2 t386 t387 t388 t389 t390 t391 t392 t393 t394 _ A43.out).mono ?_); rintro e w47 ⟨rfl, hb⟩; refine ⟨_, rfl, ?_⟩; have n0_ := ak_ (blk_below (g := gb365) (o := .cells #[.string a0_0, .int .i64 a0_1, .slice A0_2 l0_2.length c0_2] 24 (0, 0)) (by (with_reducible repeat (first | apply zn | apply zd | apply za)); exact BK365.out) hb); have n1_ := ak_ (blk_below (g := gb366) (o := .cells #[.int .i64 a1_0, .string a1_1, .int .i64 a1_2, .int .i64 a1_3, .int .i64 a1_4, .int .i64 a1_5, .bool a1_6, .int .i64 a1_7, .int .i64 a1_8] 31 (0, 0)) (by (with_reducible repeat (first | apply zn | apply zd | apply za)); exact BK366.out) hb); have n2_ := ak_ (blk_below (g := gb367) (o := .cells #[.int .i64 0, .string ⟨#[]⟩, .int .i64 0, .int .i64 0, .int .i64 0, .int .i64 0, .bool false, .int .i64 0, .int .i64 0] 31 (0, 0)) (by (with_reducible repeat (first | apply zn | apply zd | apply za)); exact BK367.out) hb); have n3_ := ak_ (ps (by with_reducible repeat first | exact HB.out | apply pa | apply pd | apply pe | refine zs ?_ GE365.out | refine zs ?_ GE366.out | refine zs ?_ GE367.out) hb); clear BK365 BK366 BK367 HB; have BK365 := n0_; have BK366 := n1_; have BK367 := n2_; have HB := n3_; clear n0_ n1_ n2_ n3_; have hnb48 := NB367_365.out; have hnc48 := NB365_367.out; have hcz49_0 : w47.cell? ⟨gb367, 0, none⟩ = some (.int .i64 0) := (zc BK367.out 0).trans rfl; have hcz49_1 : w47.cell? ⟨gb367, 1, none⟩ = some (.string ⟨#[]⟩) := (zc BK367.out 1).trans rfl; have hcz49_2 : w47.cell? ⟨gb367, 2, none⟩ = some (.int .i64 0) := (zc BK367.out 2).trans rfl; have hcz49_3 : w47.cell? ⟨gb367, 3, none⟩ = some (.int .i64 0) := (zc BK367.out 3).trans rfl; have hcz49_4 : w47.cell? ⟨gb367, 4, none⟩ = some (.int .i64 0) := (zc BK367.out 4).trans rfl; have hcz49_5 : w47.cell? ⟨gb367, 5, none⟩ = some (.int .i64 0) := (zc BK367.out 5).trans rfl; have hcz49_6 : w47.cell? ⟨gb367, 6, none⟩ = some (.bool false) := (zc BK367.out 6).trans rfl; have hcz49_7 : w47.cell? ⟨gb367, 7, none⟩ = some (.int .i64 0) := (zc BK367.out 7).trans rfl; have hcz49_8 : w47.cell? ⟨gb367, 8, none⟩ = some (.int .i64 0) := (zc BK367.out 8).trans rfl; have hfz49_0 := zf BK367.out 0; have hfz49_1 := zf BK367.out 1; have hfz49_2 := zf BK367.out 2; have hfz49_3 := zf BK367.out 3; have hfz49_4 := zf BK367.out 4; have hfz49_5 := zf BK367.out 5; have hfz49_6 := zf BK367.out 6; have hfz49_7 := zf BK367.out 7; have hfz49_8 := zf BK367.out 8))
     refine bodyPost_ret (results_cell_row rfl _ _ gb367 31 #[.int .i64 t386, .string t387, .int .i64 t388, .int .i64 t389, .int .i64 t390, .int .i64 t391, .bool t392, .int .i64 t393, .int .i64 t394] (0, 0) _ rfl (by (with_reducible repeat (first | apply zn | apply zd | apply za)); refine zp (cs := #[.int .i64 t386, .string t387, .int .i64 t388, .int .i64 t389, .int .i64 t390, .int .i64 t391, .bool t392, .int .i64 t393, .int .i64 0]) ?_ 8 _ rfl; (with_reducible repeat (first | apply zn | apply zd | apply za)); refine zp (cs := #[.int .i64 t386, .string t387, .int .i64 t388, .int .i64 t389, .int .i64 t390, .int .i64 t391, .bool t392, .int .i64 0, .int .i64 0]) ?_ 7 _ rfl; (with_reducible repeat (first | apply zn | apply zd | apply za)); refine zp (cs := #[.int .i64 t386, .string t387, .int .i64 t388, .int .i64 t389, .int .i64 t390, .int .i64 t391, .bool false, .int .i64 0, .int .i64 0]) ?_ 6 _ rfl; (with_reducible repeat (first | apply zn | apply zd | apply za)); refine zp (cs := #[.int .i64 t386, .string t387, .int .i64 t388, .int .i64 t389, .int .i64 t390, .int .i64 0, .bool false, .int .i64 0, .int .i64 0]) ?_ 5 _ rfl; (with_reducible repeat (first | apply zn | apply zd | apply za)); refine zp (cs := #[.int .i64 t386, .string t387, .int .i64 t388, .int .i64 t389, .int .i64 0, .int .i64 0, .bool false, .int .i64 0, .int .i64 0]) ?_ 4 _ rfl; (with_reducible repeat (first | apply zn | apply zd | apply za)); refine zp (cs := #[.int .i64 t386, .string t387, .int .i64 t388, .int .i64 0, .int .i64 0, .int .i64 0, .bool false, .int .i64 0, .int .i64 0]) ?_ 3 _ rfl; (with_reducible repeat (first | apply zn | apply zd | apply za)); refine zp (cs := #[.int .i64 t386, .string t387, .int .i64 0, .int .i64 0, .int .i64 0, .int .i64 0, .bool false, .int .i64 0, .int .i64 0]) ?_ 2 _ rfl; (with_reducible repeat (first | apply zn | apply zd | apply za)); refine zp (cs := #[.int .i64 t386, .string ⟨#[]⟩, .int .i64 0, .int .i64 0, .int .i64 0, .int .i64 0, .bool false, .int .i64 0, .int .i64 0]) ?_ 1 _ rfl; (with_reducible repeat (first | apply zn | apply zd | apply za)); refine zp (cs := #[.int .i64 0, .string ⟨#[]⟩, .int .i64 0, .int .i64 0, .int .i64 0, .int .i64 0, .bool false, .int .i64 0, .int .i64 0]) ?_ 0 _ rfl; (with_reducible repeat (first | apply zn | apply zd | apply za)); exact BK367.out) Tryd.underlying31 rfl (by kernel_rfl)) rfl ?_
     exact ⟨by first | rfl | simp [*], by repeat (first | (with_reducible first | exact HB.out | apply pa | apply pd | apply pe | refine zs ?_ GE365.out | refine zs ?_ GE366.out | refine zs ?_ GE367.out) | exact HB.out)⟩
   rw [if_neg c42] at H
   have c42b0 : decide (0 < a1_4) = false := df_ c42
   clear c42
   (first | rw [c42b0] | (simp only [i64_w, i32_w]; rw [c42b0]) | skip)
   have HF50 := ak_ H
   clear H
   have hnb51 := NB366_365.out
   have hnc51 := NB365_366.out
   have hnb52 := NB366_367.out
   have hnc52 := NB367_366.out
   have hcz53_0 : wc.cell? ⟨gb366, 0, none⟩ = some (.int .i64 a1_0) := (zc BK366.out 0).trans rfl
   have hcz53_1 : wc.cell? ⟨gb366, 1, none⟩ = some (.string a1_1) := (zc BK366.out 1).trans rfl
   have hcz53_2 : wc.cell? ⟨gb366, 2, none⟩ = some (.int .i64 a1_2) := (zc BK366.out 2).trans rfl
   have hcz53_3 : wc.cell? ⟨gb366, 3, none⟩ = some (.int .i64 a1_3) := (zc BK366.out 3).trans rfl
   have hcz53_4 : wc.cell? ⟨gb366, 4, none⟩ = some (.int .i64 a1_4) := (zc BK366.out 4).trans rfl
   have hcz53_5 : wc.cell? ⟨gb366, 5, none⟩ = some (.int .i64 a1_5) := (zc BK366.out 5).trans rfl
   have hcz53_6 : wc.cell? ⟨gb366, 6, none⟩ = some (.bool a1_6) := (zc BK366.out 6).trans rfl
   have hcz53_7 : wc.cell? ⟨gb366, 7, none⟩ = some (.int .i64 a1_7) := (zc BK366.out 7).trans rfl
   have hcz53_8 : wc.cell? ⟨gb366, 8, none⟩ = some (.int .i64 a1_8) := (zc BK366.out 8).trans rfl
   have hfz53_0 := zf BK366.out 0
   have hfz53_1 := zf BK366.out 1
   have hfz53_2 := zf BK366.out 2
   have hfz53_3 := zf BK366.out 3
   have hfz53_4 := zf BK366.out 4
   have hfz53_5 := zf BK366.out 5
   have hfz53_6 := zf BK366.out 6
   have hfz53_7 := zf BK366.out 7
   have hfz53_8 := zf BK366.out 8
   go_upto_if 42 with (fail)
   have H := HF50.out
   clear HF50
   by_cases c54 : a1_8 > 0
   · rw [if_pos c54] at H
     have c54b0 : decide (0 < a1_8) = true := dt_ c54
     clear c54
     (first | rw [c54b0] | (simp only [i64_w, i32_w]; rw [c54b0]) | skip)
     replace H := ob_ H
     obtain ⟨⟨t395, t396, t397, t398, t399, t400, t401, t402, t403⟩, A550, H⟩ := H
     replace H : (some (t395, t396, t397, t398, t399, t400, t401, t402, t403)) = some (r1, r2, r3, r4, r5, r6, r7, r8, r9) := H
     have A55 := ak_ A550
     clear A550
     simp only [Option.some.injEq, Prod.mk.injEq] at H
     obtain ⟨rfl, rfl, rfl, rfl, rfl, rfl, rfl, rfl, rfl⟩ := H
     have hnb56 := NB366_365.out
     have hnc56 := NB365_366.out
     have hnb57 := NB366_367.out
     have hnc57 := NB367_366.out
     have hcz58_0 : wc.cell? ⟨gb366, 0, none⟩ = some (.int .i64 a1_0) := (zc BK366.out 0).trans rfl
     have hcz58_1 : wc.cell? ⟨gb366, 1, none⟩ = some (.string a1_1) := (zc BK366.out 1).trans rfl
     have hcz58_2 : wc.cell? ⟨gb366, 2, none⟩ = some (.int .i64 a1_2) := (zc BK366.out 2).trans rfl
     have hcz58_3 : wc.cell? ⟨gb366, 3, none⟩ = some (.int .i64 a1_3) := (zc BK366.out 3).trans rfl
     have hcz58_4 : wc.cell? ⟨gb366, 4, none⟩ = some (.int .i64 a1_4) := (zc BK366.out 4).trans rfl
     have hcz58_5 : wc.cell? ⟨gb366, 5, none⟩ = some (.int .i64 a1_5) := (zc BK366.out 5).trans rfl
     have hcz58_6 : wc.cell? ⟨gb366, 6, none⟩ = some (.bool a1_6) := (zc BK366.out 6).trans rfl
     have hcz58_7 : wc.cell? ⟨gb366, 7, none⟩ = some (.int .i64 a1_7) := (zc BK366.out 7).trans rfl
     have hcz58_8 : wc.cell? ⟨gb366, 8, none⟩ = some (.int .i64 a1_8) := (zc BK366.out 8).trans rfl
     have hfz58_0 := zf BK366.out 0
     have hfz58_1 := zf BK366.out 1
     have hfz58_2 := zf BK366.out 2
     have hfz58_3 := zf BK366.out 3
     have hfz58_4 := zf BK366.out 4
     have hfz58_5 := zf BK366.out 5
     have hfz58_6 := zf BK366.out 6
     have hfz58_7 := zf BK366.out 7
     have hfz58_8 := zf BK366.out 8
     go_wp2_with (first | ((with_reducible refine gate_callee (f := 71) rfl ?_); refine goesL_ (some 47) rfl rfl Tryd.func71 (by kernel_rfl) rfl #[.agg #[.int .i64 a1_0, .string a1_1, .int .i64 a1_2, .int .i64 a1_3, .int .i64 a1_4, .int .i64 a1_5, .bool a1_6, .int .i64 a1_7, .int .i64 a1_8], .int .i64 5] rfl (by (try simp only [mt_, mc_, mn_]); first | done | rfl) ?_; (with_reducible refine (saga_over.calls a1_0 a1_1 a1_2 a1_3 a1_4 a1_5 a1_6 a1_7 a1_8 5 t395 t396 t397 t398 t399 t400 t401 t402 t403 _ A55.out).mono ?_); rintro e w59 ⟨rfl, hb⟩; refine ⟨_, rfl, ?_⟩; have n0_ := ak_ (blk_below (g := gb365) (o := .cells #[.string a0_0, .int .i64 a0_1, .slice A0_2 l0_2.length c0_2] 24 (0, 0)) (by (with_reducible repeat (first | apply zn | apply zd | apply za)); exact BK365.out) hb); have n1_ := ak_ (blk_below (g := gb366) (o := .cells #[.int .i64 a1_0, .string a1_1, .int .i64 a1_2, .int .i64 a1_3, .int .i64 a1_4, .int .i64 a1_5, .bool a1_6, .int .i64 a1_7, .int .i64 a1_8] 31 (0, 0)) (by (with_reducible repeat (first | apply zn | apply zd | apply za)); exact BK366.out) hb); have n2_ := ak_ (blk_below (g := gb367) (o := .cells #[.int .i64 0, .string ⟨#[]⟩, .int .i64 0, .int .i64 0, .int .i64 0, .int .i64 0, .bool false, .int .i64 0, .int .i64 0] 31 (0, 0)) (by (with_reducible repeat (first | apply zn | apply zd | apply za)); exact BK367.out) hb); have n3_ := ak_ (ps (by with_reducible repeat first | exact HB.out | apply pa | apply pd | apply pe | refine zs ?_ GE365.out | refine zs ?_ GE366.out | refine zs ?_ GE367.out) hb); clear BK365 BK366 BK367 HB; have BK365 := n0_; have BK366 := n1_; have BK367 := n2_; have HB := n3_; clear n0_ n1_ n2_ n3_; have hnb60 := NB367_365.out; have hnc60 := NB365_367.out; have hcz61_0 : w59.cell? ⟨gb367, 0, none⟩ = some (.int .i64 0) := (zc BK367.out 0).trans rfl; have hcz61_1 : w59.cell? ⟨gb367, 1, none⟩ = some (.string ⟨#[]⟩) := (zc BK367.out 1).trans rfl; have hcz61_2 : w59.cell? ⟨gb367, 2, none⟩ = some (.int .i64 0) := (zc BK367.out 2).trans rfl; have hcz61_3 : w59.cell? ⟨gb367, 3, none⟩ = some (.int .i64 0) := (zc BK367.out 3).trans rfl; have hcz61_4 : w59.cell? ⟨gb367, 4, none⟩ = some (.int .i64 0) := (zc BK367.out 4).trans rfl; have hcz61_5 : w59.cell? ⟨gb367, 5, none⟩ = some (.int .i64 0) := (zc BK367.out 5).trans rfl; have hcz61_6 : w59.cell? ⟨gb367, 6, none⟩ = some (.bool false) := (zc BK367.out 6).trans rfl; have hcz61_7 : w59.cell? ⟨gb367, 7, none⟩ = some (.int .i64 0) := (zc BK367.out 7).trans rfl; have hcz61_8 : w59.cell? ⟨gb367, 8, none⟩ = some (.int .i64 0) := (zc BK367.out 8).trans rfl; have hfz61_0 := zf BK367.out 0; have hfz61_1 := zf BK367.out 1; have hfz61_2 := zf BK367.out 2; have hfz61_3 := zf BK367.out 3; have hfz61_4 := zf BK367.out 4; have hfz61_5 := zf BK367.out 5; have hfz61_6 := zf BK367.out 6; have hfz61_7 := zf BK367.out 7; have hfz61_8 := zf BK367.out 8))
     refine bodyPost_ret (results_cell_row rfl _ _ gb367 31 #[.int .i64 t395, .string t396, .int .i64 t397, .int .i64 t398, .int .i64 t399, .int .i64 t400, .bool t401, .int .i64 t402, .int .i64 t403] (0, 0) _ rfl (by (with_reducible repeat (first | apply zn | apply zd | apply za)); refine zp (cs := #[.int .i64 t395, .string t396, .int .i64 t397, .int .i64 t398, .int .i64 t399, .int .i64 t400, .bool t401, .int .i64 t402, .int .i64 0]) ?_ 8 _ rfl; (with_reducible repeat (first | apply zn | apply zd | apply za)); refine zp (cs := #[.int .i64 t395, .string t396, .int .i64 t397, .int .i64 t398, .int .i64 t399, .int .i64 t400, .bool t401, .int .i64 0, .int .i64 0]) ?_ 7 _ rfl; (with_reducible repeat (first | apply zn | apply zd | apply za)); refine zp (cs := #[.int .i64 t395, .string t396, .int .i64 t397, .int .i64 t398, .int .i64 t399, .int .i64 t400, .bool false, .int .i64 0, .int .i64 0]) ?_ 6 _ rfl; (with_reducible repeat (first | apply zn | apply zd | apply za)); refine zp (cs := #[.int .i64 t395, .string t396, .int .i64 t397, .int .i64 t398, .int .i64 t399, .int .i64 0, .bool false, .int .i64 0, .int .i64 0]) ?_ 5 _ rfl; (with_reducible repeat (first | apply zn | apply zd | apply za)); refine zp (cs := #[.int .i64 t395, .string t396, .int .i64 t397, .int .i64 t398, .int .i64 0, .int .i64 0, .bool false, .int .i64 0, .int .i64 0]) ?_ 4 _ rfl; (with_reducible repeat (first | apply zn | apply zd | apply za)); refine zp (cs := #[.int .i64 t395, .string t396, .int .i64 t397, .int .i64 0, .int .i64 0, .int .i64 0, .bool false, .int .i64 0, .int .i64 0]) ?_ 3 _ rfl; (with_reducible repeat (first | apply zn | apply zd | apply za)); refine zp (cs := #[.int .i64 t395, .string t396, .int .i64 0, .int .i64 0, .int .i64 0, .int .i64 0, .bool false, .int .i64 0, .int .i64 0]) ?_ 2 _ rfl; (with_reducible repeat (first | apply zn | apply zd | apply za)); refine zp (cs := #[.int .i64 t395, .string ⟨#[]⟩, .int .i64 0, .int .i64 0, .int .i64 0, .int .i64 0, .bool false, .int .i64 0, .int .i64 0]) ?_ 1 _ rfl; (with_reducible repeat (first | apply zn | apply zd | apply za)); refine zp (cs := #[.int .i64 0, .string ⟨#[]⟩, .int .i64 0, .int .i64 0, .int .i64 0, .int .i64 0, .bool false, .int .i64 0, .int .i64 0]) ?_ 0 _ rfl; (with_reducible repeat (first | apply zn | apply zd | apply za)); exact BK367.out) Tryd.underlying31 rfl (by kernel_rfl)) rfl ?_
     exact ⟨by first | rfl | simp [*], by repeat (first | (with_reducible first | exact HB.out | apply pa | apply pd | apply pe | refine zs ?_ GE365.out | refine zs ?_ GE366.out | refine zs ?_ GE367.out) | exact HB.out)⟩
   rw [if_neg c54] at H
   have c54b0 : decide (0 < a1_8) = false := df_ c54
   clear c54
   (first | rw [c54b0] | (simp only [i64_w, i32_w]; rw [c54b0]) | skip)
   replace H := ob_ H
   obtain ⟨⟨t404, t405, t406, t407, t408, t409, t410, t411, t412⟩, A620, H⟩ := H
   replace H : (some (t404, t405, t406, t407, t408, t409, t410, t411, t412)) = some (r1, r2, r3, r4, r5, r6, r7, r8, r9) := H
   have A62 := ak_ A620
   clear A620
   simp only [Option.some.injEq, Prod.mk.injEq] at H
   obtain ⟨rfl, rfl, rfl, rfl, rfl, rfl, rfl, rfl, rfl⟩ := H
   have hnb63 := NB366_365.out
   have hnc63 := NB365_366.out
   have hnb64 := NB366_367.out
   have hnc64 := NB367_366.out
   have hcz65_0 : wc.cell? ⟨gb366, 0, none⟩ = some (.int .i64 a1_0) := (zc BK366.out 0).trans rfl
   have hcz65_1 : wc.cell? ⟨gb366, 1, none⟩ = some (.string a1_1) := (zc BK366.out 1).trans rfl
   have hcz65_2 : wc.cell? ⟨gb366, 2, none⟩ = some (.int .i64 a1_2) := (zc BK366.out 2).trans rfl
   have hcz65_3 : wc.cell? ⟨gb366, 3, none⟩ = some (.int .i64 a1_3) := (zc BK366.out 3).trans rfl
   have hcz65_4 : wc.cell? ⟨gb366, 4, none⟩ = some (.int .i64 a1_4) := (zc BK366.out 4).trans rfl
   have hcz65_5 : wc.cell? ⟨gb366, 5, none⟩ = some (.int .i64 a1_5) := (zc BK366.out 5).trans rfl
   have hcz65_6 : wc.cell? ⟨gb366, 6, none⟩ = some (.bool a1_6) := (zc BK366.out 6).trans rfl
   have hcz65_7 : wc.cell? ⟨gb366, 7, none⟩ = some (.int .i64 a1_7) := (zc BK366.out 7).trans rfl
   have hcz65_8 : wc.cell? ⟨gb366, 8, none⟩ = some (.int .i64 a1_8) := (zc BK366.out 8).trans rfl
   have hfz65_0 := zf BK366.out 0
   have hfz65_1 := zf BK366.out 1
   have hfz65_2 := zf BK366.out 2
   have hfz65_3 := zf BK366.out 3
   have hfz65_4 := zf BK366.out 4
   have hfz65_5 := zf BK366.out 5
   have hfz65_6 := zf BK366.out 6
   have hfz65_7 := zf BK366.out 7
   have hfz65_8 := zf BK366.out 8
   go_wp2_with (first | ((with_reducible refine gate_callee (f := 71) rfl ?_); refine goesL_ (some 49) rfl rfl Tryd.func71 (by kernel_rfl) rfl #[.agg #[.int .i64 a1_0, .string a1_1, .int .i64 a1_2, .int .i64 a1_3, .int .i64 a1_4, .int .i64 a1_5, .bool a1_6, .int .i64 a1_7, .int .i64 a1_8], .int .i64 4] rfl (by (try simp only [mt_, mc_, mn_]); first | done | rfl) ?_; (with_reducible refine (saga_over.calls a1_0 a1_1 a1_2 a1_3 a1_4 a1_5 a1_6 a1_7 a1_8 4 t404 t405 t406 t407 t408 t409 t410 t411 t412 _ A62.out).mono ?_); rintro e w66 ⟨rfl, hb⟩; refine ⟨_, rfl, ?_⟩; have n0_ := ak_ (blk_below (g := gb365) (o := .cells #[.string a0_0, .int .i64 a0_1, .slice A0_2 l0_2.length c0_2] 24 (0, 0)) (by (with_reducible repeat (first | apply zn | apply zd | apply za)); exact BK365.out) hb); have n1_ := ak_ (blk_below (g := gb366) (o := .cells #[.int .i64 a1_0, .string a1_1, .int .i64 a1_2, .int .i64 a1_3, .int .i64 a1_4, .int .i64 a1_5, .bool a1_6, .int .i64 a1_7, .int .i64 a1_8] 31 (0, 0)) (by (with_reducible repeat (first | apply zn | apply zd | apply za)); exact BK366.out) hb); have n2_ := ak_ (blk_below (g := gb367) (o := .cells #[.int .i64 0, .string ⟨#[]⟩, .int .i64 0, .int .i64 0, .int .i64 0, .int .i64 0, .bool false, .int .i64 0, .int .i64 0] 31 (0, 0)) (by (with_reducible repeat (first | apply zn | apply zd | apply za)); exact BK367.out) hb); have n3_ := ak_ (ps (by with_reducible repeat first | exact HB.out | apply pa | apply pd | apply pe | refine zs ?_ GE365.out | refine zs ?_ GE366.out | refine zs ?_ GE367.out) hb); clear BK365 BK366 BK367 HB; have BK365 := n0_; have BK366 := n1_; have BK367 := n2_; have HB := n3_; clear n0_ n1_ n2_ n3_; have hnb67 := NB367_365.out; have hnc67 := NB365_367.out; have hcz68_0 : w66.cell? ⟨gb367, 0, none⟩ = some (.int .i64 0) := (zc BK367.out 0).trans rfl; have hcz68_1 : w66.cell? ⟨gb367, 1, none⟩ = some (.string ⟨#[]⟩) := (zc BK367.out 1).trans rfl; have hcz68_2 : w66.cell? ⟨gb367, 2, none⟩ = some (.int .i64 0) := (zc BK367.out 2).trans rfl; have hcz68_3 : w66.cell? ⟨gb367, 3, none⟩ = some (.int .i64 0) := (zc BK367.out 3).trans rfl; have hcz68_4 : w66.cell? ⟨gb367, 4, none⟩ = some (.int .i64 0) := (zc BK367.out 4).trans rfl; have hcz68_5 : w66.cell? ⟨gb367, 5, none⟩ = some (.int .i64 0) := (zc BK367.out 5).trans rfl; have hcz68_6 : w66.cell? ⟨gb367, 6, none⟩ = some (.bool false) := (zc BK367.out 6).trans rfl; have hcz68_7 : w66.cell? ⟨gb367, 7, none⟩ = some (.int .i64 0) := (zc BK367.out 7).trans rfl; have hcz68_8 : w66.cell? ⟨gb367, 8, none⟩ = some (.int .i64 0) := (zc BK367.out 8).trans rfl; have hfz68_0 := zf BK367.out 0; have hfz68_1 := zf BK367.out 1; have hfz68_2 := zf BK367.out 2; have hfz68_3 := zf BK367.out 3; have hfz68_4 := zf BK367.out 4; have hfz68_5 := zf BK367.out 5; have hfz68_6 := zf BK367.out 6; have hfz68_7 := zf BK367.out 7; have hfz68_8 := zf BK367.out 8))
   refine bodyPost_ret (results_cell_row rfl _ _ gb367 31 #[.int .i64 t404, .string t405, .int .i64 t406, .int .i64 t407, .int .i64 t408, .int .i64 t409, .bool t410, .int .i64 t411, .int .i64 t412] (0, 0) _ rfl (by (with_reducible repeat (first | apply zn | apply zd | apply za)); refine zp (cs := #[.int .i64 t404, .string t405, .int .i64 t406, .int .i64 t407, .int .i64 t408, .int .i64 t409, .bool t410, .int .i64 t411, .int .i64 0]) ?_ 8 _ rfl; (with_reducible repeat (first | apply zn | apply zd | apply za)); refine zp (cs := #[.int .i64 t404, .string t405, .int .i64 t406, .int .i64 t407, .int .i64 t408, .int .i64 t409, .bool t410, .int .i64 0, .int .i64 0]) ?_ 7 _ rfl; (with_reducible repeat (first | apply zn | apply zd | apply za)); refine zp (cs := #[.int .i64 t404, .string t405, .int .i64 t406, .int .i64 t407, .int .i64 t408, .int .i64 t409, .bool false, .int .i64 0, .int .i64 0]) ?_ 6 _ rfl; (with_reducible repeat (first | apply zn | apply zd | apply za)); refine zp (cs := #[.int .i64 t404, .string t405, .int .i64 t406, .int .i64 t407, .int .i64 t408, .int .i64 0, .bool false, .int .i64 0, .int .i64 0]) ?_ 5 _ rfl; (with_reducible repeat (first | apply zn | apply zd | apply za)); refine zp (cs := #[.int .i64 t404, .string t405, .int .i64 t406, .int .i64 t407, .int .i64 0, .int .i64 0, .bool false, .int .i64 0, .int .i64 0]) ?_ 4 _ rfl; (with_reducible repeat (first | apply zn | apply zd | apply za)); refine zp (cs := #[.int .i64 t404, .string t405, .int .i64 t406, .int .i64 0, .int .i64 0, .int .i64 0, .bool false, .int .i64 0, .int .i64 0]) ?_ 3 _ rfl; (with_reducible repeat (first | apply zn | apply zd | apply za)); refine zp (cs := #[.int .i64 t404, .string t405, .int .i64 0, .int .i64 0, .int .i64 0, .int .i64 0, .bool false, .int .i64 0, .int .i64 0]) ?_ 2 _ rfl; (with_reducible repeat (first | apply zn | apply zd | apply za)); refine zp (cs := #[.int .i64 t404, .string ⟨#[]⟩, .int .i64 0, .int .i64 0, .int .i64 0, .int .i64 0, .bool false, .int .i64 0, .int .i64 0]) ?_ 1 _ rfl; (with_reducible repeat (first | apply zn | apply zd | apply za)); refine zp (cs := #[.int .i64 0, .string ⟨#[]⟩, .int .i64 0, .int .i64 0, .int .i64 0, .int .i64 0, .bool false, .int .i64 0, .int .i64 0]) ?_ 0 _ rfl; (with_reducible repeat (first | apply zn | apply zd | apply za)); exact BK367.out) Tryd.underlying31 rfl (by kernel_rfl)) rfl ?_
   exact ⟨by first | rfl | simp [*], by repeat (first | (with_reducible first | exact HB.out | apply pa | apply pd | apply pe | refine zs ?_ GE365.out | refine zs ?_ GE366.out | refine zs ?_ GE367.out) | exact HB.out)⟩
end Go.Proofs.YtmfddmhomkcikaaDoor.Q
