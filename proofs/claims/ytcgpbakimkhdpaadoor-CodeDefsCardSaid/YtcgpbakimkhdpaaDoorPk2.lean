/- Part 2 of a claim's texts. -/
import Derived.Test.YtcgpbakimkhdpaaDoorPk1
import Derived.Lib.SliceRun
import Derived.Lib.Hide
import Derived.Outline
namespace Go.Proofs.YtcgpbakimkhdpaaDoor.Q
open Go.RowKit Go.Proofs.YtcgpbakimkhdpaaDoorW.PrintWords Go.Proofs.YtcgpbakimkhdpaaDoorW.PrintLast Go.Proofs.YtcgpbakimkhdpaaDoorW.PrintMore
attribute [local go_sem] max2_int min2_int max_two min_two max_three min_three max_four min_four
set_option linter.unusedVariables false
set_option linter.unusedSimpArgs false
set_option maxHeartbeats 8000000
set_option maxRecDepth 100000
open Go.Proofs.YtcgpbakimkhdpaaDoor.Q.H_
def uR04_Text.f (k : Nat) (a0_0 : ByteArray) (a0_1 : Int) (a0_2 : Int) (a0_3 : Int) (a0_4 : Int) (a0_5 : ByteArray) (a0_6 : Bool) (a1 : Int) : Option (ByteArray × Int × Int × Int × Int × ByteArray × Bool × ByteArray) := (uR04_Take.f k a0_0 a0_1 a0_2 a0_3 a0_4 a0_5 a0_6).bind fun bt198 => (if bt198.2.2.1 = 0 then (if bt198.2.2.2.2.2.2.2 > a1 then ((uR04_fail.f a0_0 a0_1 a0_2 a0_3 a0_4 a0_5 a0_6 a0_1 4).bind fun bt207 => (some (bt207.1, bt207.2.1, bt207.2.2.1, bt207.2.2.2.1, bt207.2.2.2.2.1, bt207.2.2.2.2.2.1, bt207.2.2.2.2.2.2, (⟨#[]⟩ : ByteArray)))) else (if bt198.2.2.2.2.2.2.2 > (wrap64 ((bt198.1.size : Int) - bt198.2.1)) then ((uR04_fail.f a0_0 a0_1 a0_2 a0_3 a0_4 a0_5 a0_6 a0_1 2).bind fun bt214 => (some (bt214.1, bt214.2.1, bt214.2.2.1, bt214.2.2.2.1, bt214.2.2.2.2.1, bt214.2.2.2.2.2.1, bt214.2.2.2.2.2.2, (⟨#[]⟩ : ByteArray)))) else (if 0 ≤ bt198.2.1 then (if bt198.2.1 ≤ (wrap64 (bt198.2.1 + bt198.2.2.2.2.2.2.2)) then (if (wrap64 (bt198.2.1 + bt198.2.2.2.2.2.2.2)) ≤ (bt198.1.size : Int) then (some (bt198.1, wrap64 (bt198.2.1 + bt198.2.2.2.2.2.2.2), bt198.2.2.1, bt198.2.2.2.1, bt198.2.2.2.2.1, bt198.2.2.2.2.2.1, bt198.2.2.2.2.2.2.1, bt198.1.extract (bt198.2.1 : Int).toNat ((wrap64 (bt198.2.1 + bt198.2.2.2.2.2.2.2)) : Int).toNat)) else (none)) else (none)) else (none)))) else (some (bt198.1, bt198.2.1, bt198.2.2.1, bt198.2.2.2.1, bt198.2.2.2.2.1, bt198.2.2.2.2.2.1, bt198.2.2.2.2.2.2.1, (⟨#[]⟩ : ByteArray))))
theorem uR04_Text.calls (k : Nat) (a0_0 : ByteArray) (a0_1 : Int) (a0_2 : Int) (a0_3 : Int) (a0_4 : Int) (a0_5 : ByteArray) (a0_6 : Bool) (a1 : Int) (r1 : ByteArray) (r2 : Int) (r3 : Int) (r4 : Int) (r5 : Int) (r6 : ByteArray) (r7 : Bool) (r8 : ByteArray) (w : World) (h : uR04_Text.f k a0_0 a0_1 a0_2 a0_3 a0_4 a0_5 a0_6 a1 = some (r1, r2, r3, r4, r5, r6, r7, r8)) :
 Calls Tryd.prog 69 #[.agg #[.string a0_0, .int .i64 a0_1, .int .i64 a0_2, .int .i64 a0_3, .int .i64 a0_4, .string a0_5, .bool a0_6], .int .i64 a1] w fun e w' => e = .returned (.tuple #[.agg #[.string r1, .int .i64 r2, .int .i64 r3, .int .i64 r4, .int .i64 r5, .string r6, .bool r7], .string r8]) ∧ Below w.heap.size w w' := by
 have hu81 := Tryd.underlying81
 have HB := ak_ (Below.refl w.heap.size w)
 have H : ((uR04_Take.f k a0_0 a0_1 a0_2 a0_3 a0_4 a0_5 a0_6).bind fun bt198 => (if bt198.2.2.1 = 0 then (if bt198.2.2.2.2.2.2.2 > a1 then ((uR04_fail.f a0_0 a0_1 a0_2 a0_3 a0_4 a0_5 a0_6 a0_1 4).bind fun bt207 => (some (bt207.1, bt207.2.1, bt207.2.2.1, bt207.2.2.2.1, bt207.2.2.2.2.1, bt207.2.2.2.2.2.1, bt207.2.2.2.2.2.2, (⟨#[]⟩ : ByteArray)))) else (if bt198.2.2.2.2.2.2.2 > (wrap64 ((bt198.1.size : Int) - bt198.2.1)) then ((uR04_fail.f a0_0 a0_1 a0_2 a0_3 a0_4 a0_5 a0_6 a0_1 2).bind fun bt214 => (some (bt214.1, bt214.2.1, bt214.2.2.1, bt214.2.2.2.1, bt214.2.2.2.2.1, bt214.2.2.2.2.2.1, bt214.2.2.2.2.2.2, (⟨#[]⟩ : ByteArray)))) else (if 0 ≤ bt198.2.1 then (if bt198.2.1 ≤ (wrap64 (bt198.2.1 + bt198.2.2.2.2.2.2.2)) then (if (wrap64 (bt198.2.1 + bt198.2.2.2.2.2.2.2)) ≤ (bt198.1.size : Int) then (some (bt198.1, wrap64 (bt198.2.1 + bt198.2.2.2.2.2.2.2), bt198.2.2.1, bt198.2.2.2.1, bt198.2.2.2.2.1, bt198.2.2.2.2.2.1, bt198.2.2.2.2.2.2.1, bt198.1.extract (bt198.2.1 : Int).toNat ((wrap64 (bt198.2.1 + bt198.2.2.2.2.2.2.2)) : Int).toNat)) else (none)) else (none)) else (none)))) else (some (bt198.1, bt198.2.1, bt198.2.2.1, bt198.2.2.2.1, bt198.2.2.2.2.1, bt198.2.2.2.2.2.1, bt198.2.2.2.2.2.2.1, (⟨#[]⟩ : ByteArray))))) = some (r1, r2, r3, r4, r5, r6, r7, r8) := h
 clear h
 replace H := ob_ H
 obtain ⟨⟨t198, t199, t200, t201, t202, t203, t204, t205⟩, A30, H⟩ := H
 replace H : (if t200 = 0 then (if t205 > a1 then ((uR04_fail.f a0_0 a0_1 a0_2 a0_3 a0_4 a0_5 a0_6 a0_1 4).bind fun bt207 => (some (bt207.1, bt207.2.1, bt207.2.2.1, bt207.2.2.2.1, bt207.2.2.2.2.1, bt207.2.2.2.2.2.1, bt207.2.2.2.2.2.2, (⟨#[]⟩ : ByteArray)))) else (if t205 > (wrap64 ((t198.size : Int) - t199)) then ((uR04_fail.f a0_0 a0_1 a0_2 a0_3 a0_4 a0_5 a0_6 a0_1 2).bind fun bt214 => (some (bt214.1, bt214.2.1, bt214.2.2.1, bt214.2.2.2.1, bt214.2.2.2.2.1, bt214.2.2.2.2.2.1, bt214.2.2.2.2.2.2, (⟨#[]⟩ : ByteArray)))) else (if 0 ≤ t199 then (if t199 ≤ (wrap64 (t199 + t205)) then (if (wrap64 (t199 + t205)) ≤ (t198.size : Int) then (some (t198, wrap64 (t199 + t205), t200, t201, t202, t203, t204, t198.extract (t199 : Int).toNat ((wrap64 (t199 + t205)) : Int).toNat)) else (none)) else (none)) else (none)))) else (some (t198, t199, t200, t201, t202, t203, t204, (⟨#[]⟩ : ByteArray)))) = some (r1, r2, r3, r4, r5, r6, r7, r8) := H
 have A3 := ak_ A30
 clear A30
 by_cases c4 : t200 = 0
 · rw [if_pos c4] at H
   have c4b0 : (t200 == 0) = true := beq_iff_eq.mpr c4
   have c4b1 : (t200 != 0) = false := bne_eq_false_iff_eq.mpr c4
   clear c4
   by_cases c5 : t205 > a1
   · rw [if_pos c5] at H
     have c5b0 : decide (a1 < t205) = true := dt_ c5
     clear c5
     replace H := ob_ H
     obtain ⟨⟨t207, t208, t209, t210, t211, t212, t213⟩, A60, H⟩ := H
     replace H : (some (t207, t208, t209, t210, t211, t212, t213, (⟨#[]⟩ : ByteArray))) = some (r1, r2, r3, r4, r5, r6, r7, r8) := H
     have A6 := ak_ A60
     clear A60
     simp only [Option.some.injEq, Prod.mk.injEq] at H
     obtain ⟨rfl, rfl, rfl, rfl, rfl, rfl, rfl, rfl⟩ := H
     go_enter Tryd.func69, Tryd.ntmps69
     go_wp2_with (first | ((with_reducible refine gate_dst (N := 2) rfl ?_); refine box_event ?hg (N := 2) ?hd (cs := #[.string a0_0, .int .i64 a0_1, .int .i64 a0_2, .int .i64 a0_3, .int .i64 a0_4, .string a0_5, .bool a0_6]) (t := 81) ?hr ?_; (case hd | hg => rfl); (case hr => first | (go_simp; done) | (go_simp; rfl)); intro gb196 hg w7 hbox hb; have n0_ := ak_ (ps (by with_reducible repeat first | exact HB.out | apply pa | apply pd | apply pe) hb); have n1_ := ak_ (hbox); have n2_ := ak_ ((by rw [hg]; exact (below_size (by with_reducible repeat first | exact HB.out | apply pa | apply pd | apply pe)) : w.heap.size ≤ gb196)); have n3_ := ak_ ((by rw [hg]; exact (below_size (by with_reducible repeat first | exact HB.out | apply pa | apply pd | apply pe)) : w.heap.size ≤ gb196)); clear HB; have HB := n0_; have BK196 := n1_; have GW196 := n2_; have GE196 := n3_; clear n0_ n1_ n2_ n3_ hb hbox hg) | ((with_reducible refine gate_dst (N := 4) rfl ?_); refine box_event ?hg (N := 4) ?hd (cs := #[.string ⟨#[]⟩, .int .i64 0, .int .i64 0, .int .i64 0, .int .i64 0, .string ⟨#[]⟩, .bool false]) (t := 81) ?hr ?_; (case hd | hg => rfl); (case hr => first | (go_simp; done) | (go_simp; rfl)); intro gb197 hg w8 hbox hb; have n0_ := ak_ (blk_below (g := gb196) (o := .cells #[.string a0_0, .int .i64 a0_1, .int .i64 a0_2, .int .i64 a0_3, .int .i64 a0_4, .string a0_5, .bool a0_6] 81 (0, 0)) (by (with_reducible repeat (first | apply zn | apply zd | apply za)); exact BK196.out) hb); have n1_ := ak_ (ps (by with_reducible repeat first | exact HB.out | apply pa | apply pd | apply pe | refine zs ?_ GE196.out) hb); have n2_ := ak_ (hbox); have n3_ := ak_ ((by rw [hg]; exact (below_size (by with_reducible repeat first | exact HB.out | apply pa | apply pd | apply pe | refine zs ?_ GE196.out)) : w.heap.size ≤ gb197)); have n4_ := ak_ ((by rw [hg]; exact (below_size (by with_reducible repeat first | exact HB.out | apply pa | apply pd | apply pe | refine zs ?_ GE196.out)) : w.heap.size ≤ gb197)); have n5_ := ak_ ((by rw [hg]; exact Nat.ne_of_lt (blk_lt (g := gb196) (by (with_reducible repeat (first | apply zn | apply zd | apply za)); exact BK196.out)) : gb196 ≠ gb197)); have n6_ := ak_ ((by rw [hg]; exact Nat.ne_of_gt (blk_lt (g := gb196) (by (with_reducible repeat (first | apply zn | apply zd | apply za)); exact BK196.out)) : gb197 ≠ gb196)); clear BK196 HB; have BK196 := n0_; have HB := n1_; have BK197 := n2_; have GW197 := n3_; have GE197 := n4_; have NB196_197 := n5_; have NB197_196 := n6_; clear n0_ n1_ n2_ n3_ n4_ n5_ n6_ hb hbox hg; have hnb9 := NB196_197.out; have hnc9 := NB197_196.out; have hcz10_0 : w8.cell? ⟨gb196, 0, none⟩ = some (.string a0_0) := (zc BK196.out 0).trans rfl; have hcz10_1 : w8.cell? ⟨gb196, 1, none⟩ = some (.int .i64 a0_1) := (zc BK196.out 1).trans rfl; have hcz10_2 : w8.cell? ⟨gb196, 2, none⟩ = some (.int .i64 a0_2) := (zc BK196.out 2).trans rfl; have hcz10_3 : w8.cell? ⟨gb196, 3, none⟩ = some (.int .i64 a0_3) := (zc BK196.out 3).trans rfl; have hcz10_4 : w8.cell? ⟨gb196, 4, none⟩ = some (.int .i64 a0_4) := (zc BK196.out 4).trans rfl; have hcz10_5 : w8.cell? ⟨gb196, 5, none⟩ = some (.string a0_5) := (zc BK196.out 5).trans rfl; have hcz10_6 : w8.cell? ⟨gb196, 6, none⟩ = some (.bool a0_6) := (zc BK196.out 6).trans rfl; have hfz10_0 := zf BK196.out 0; have hfz10_1 := zf BK196.out 1; have hfz10_2 := zf BK196.out 2; have hfz10_3 := zf BK196.out 3; have hfz10_4 := zf BK196.out 4; have hfz10_5 := zf BK196.out 5; have hfz10_6 := zf BK196.out 6) | ((with_reducible refine gate_callee (f := 68) rfl ?_); refine goesL_ (some 11) rfl rfl Tryd.func68 (by kernel_rfl) rfl #[.agg #[.string a0_0, .int .i64 a0_1, .int .i64 a0_2, .int .i64 a0_3, .int .i64 a0_4, .string a0_5, .bool a0_6]] rfl (by (try simp only [mt_, mc_, mn_]); first | done | rfl) ?_; (with_reducible refine (uR04_Take.calls k a0_0 a0_1 a0_2 a0_3 a0_4 a0_5 a0_6 t198 t199 t200 t201 t202 t203 t204 t205 _ A3.out).mono ?_); rintro e w11 ⟨rfl, hb⟩; refine ⟨_, rfl, ?_⟩; have n0_ := ak_ (blk_below (g := gb196) (o := .cells #[.string a0_0, .int .i64 a0_1, .int .i64 a0_2, .int .i64 a0_3, .int .i64 a0_4, .string a0_5, .bool a0_6] 81 (0, 0)) (by (with_reducible repeat (first | apply zn | apply zd | apply za)); exact BK196.out) hb); have n1_ := ak_ (blk_below (g := gb197) (o := .cells #[.string ⟨#[]⟩, .int .i64 0, .int .i64 0, .int .i64 0, .int .i64 0, .string ⟨#[]⟩, .bool false] 81 (0, 0)) (by (with_reducible repeat (first | apply zn | apply zd | apply za)); exact BK197.out) hb); have n2_ := ak_ (ps (by with_reducible repeat first | exact HB.out | apply pa | apply pd | apply pe | refine zs ?_ GE196.out | refine zs ?_ GE197.out) hb); clear BK196 BK197 HB; have BK196 := n0_; have BK197 := n1_; have HB := n2_; clear n0_ n1_ n2_) | ((with_reducible refine gate_dst (N := 6) rfl ?_); refine box_event ?hg (N := 6) ?hd (cs := #[.string ⟨#[]⟩, .int .i64 0, .int .i64 0, .int .i64 0, .int .i64 0, .string ⟨#[]⟩, .bool false]) (t := 81) ?hr ?_; (case hd | hg => rfl); (case hr => first | (go_simp; done) | (go_simp; rfl)); intro gb206 hg w12 hbox hb; have n0_ := ak_ (blk_below (g := gb196) (o := .cells #[.string a0_0, .int .i64 a0_1, .int .i64 a0_2, .int .i64 a0_3, .int .i64 a0_4, .string a0_5, .bool a0_6] 81 (0, 0)) (by (with_reducible repeat (first | apply zn | apply zd | apply za)); exact BK196.out) hb); have n1_ := ak_ (blk_below (g := gb197) (o := .cells #[.string ⟨#[]⟩, .int .i64 0, .int .i64 0, .int .i64 0, .int .i64 0, .string ⟨#[]⟩, .bool false] 81 (0, 0)) (by (with_reducible repeat (first | apply zn | apply zd | apply za)); exact BK197.out) hb); have n2_ := ak_ (ps (by with_reducible repeat first | exact HB.out | apply pa | apply pd | apply pe | refine zs ?_ GE196.out | refine zs ?_ GE197.out) hb); have n3_ := ak_ (hbox); have n4_ := ak_ ((by rw [hg]; exact (below_size (by with_reducible repeat first | exact HB.out | apply pa | apply pd | apply pe | refine zs ?_ GE196.out | refine zs ?_ GE197.out)) : w.heap.size ≤ gb206)); have n5_ := ak_ ((by rw [hg]; exact (below_size (by with_reducible repeat first | exact HB.out | apply pa | apply pd | apply pe | refine zs ?_ GE196.out | refine zs ?_ GE197.out)) : w.heap.size ≤ gb206)); have n6_ := ak_ ((by rw [hg]; exact Nat.ne_of_lt (blk_lt (g := gb196) (by (with_reducible repeat (first | apply zn | apply zd | apply za)); exact BK196.out)) : gb196 ≠ gb206)); have n7_ := ak_ ((by rw [hg]; exact Nat.ne_of_gt (blk_lt (g := gb196) (by (with_reducible repeat (first | apply zn | apply zd | apply za)); exact BK196.out)) : gb206 ≠ gb196)); have n8_ := ak_ ((by rw [hg]; exact Nat.ne_of_lt (blk_lt (g := gb197) (by (with_reducible repeat (first | apply zn | apply zd | apply za)); exact BK197.out)) : gb197 ≠ gb206)); have n9_ := ak_ ((by rw [hg]; exact Nat.ne_of_gt (blk_lt (g := gb197) (by (with_reducible repeat (first | apply zn | apply zd | apply za)); exact BK197.out)) : gb206 ≠ gb197)); clear BK196 BK197 HB; have BK196 := n0_; have BK197 := n1_; have HB := n2_; have BK206 := n3_; have GW206 := n4_; have GE206 := n5_; have NB196_206 := n6_; have NB206_196 := n7_; have NB197_206 := n8_; have NB206_197 := n9_; clear n0_ n1_ n2_ n3_ n4_ n5_ n6_ n7_ n8_ n9_ hb hbox hg; have hnb13 := NB206_196.out; have hnc13 := NB196_206.out; have hnb14 := NB206_197.out; have hnc14 := NB197_206.out; have hcz15_0 : w12.cell? ⟨gb206, 0, none⟩ = some (.string ⟨#[]⟩) := (zc BK206.out 0).trans rfl; have hcz15_1 : w12.cell? ⟨gb206, 1, none⟩ = some (.int .i64 0) := (zc BK206.out 1).trans rfl; have hcz15_2 : w12.cell? ⟨gb206, 2, none⟩ = some (.int .i64 0) := (zc BK206.out 2).trans rfl; have hcz15_3 : w12.cell? ⟨gb206, 3, none⟩ = some (.int .i64 0) := (zc BK206.out 3).trans rfl; have hcz15_4 : w12.cell? ⟨gb206, 4, none⟩ = some (.int .i64 0) := (zc BK206.out 4).trans rfl; have hcz15_5 : w12.cell? ⟨gb206, 5, none⟩ = some (.string ⟨#[]⟩) := (zc BK206.out 5).trans rfl; have hcz15_6 : w12.cell? ⟨gb206, 6, none⟩ = some (.bool false) := (zc BK206.out 6).trans rfl; have hfz15_0 := zf BK206.out 0; have hfz15_1 := zf BK206.out 1; have hfz15_2 := zf BK206.out 2; have hfz15_3 := zf BK206.out 3; have hfz15_4 := zf BK206.out 4; have hfz15_5 := zf BK206.out 5; have hfz15_6 := zf BK206.out 6; have hcz16_0 : w12.cell? ⟨gb196, 0, none⟩ = some (.string a0_0) := (zc BK196.out 0).trans rfl; have hcz16_1 : w12.cell? ⟨gb196, 1, none⟩ = some (.int .i64 a0_1) := (zc BK196.out 1).trans rfl; have hcz16_2 : w12.cell? ⟨gb196, 2, none⟩ = some (.int .i64 a0_2) := (zc BK196.out 2).trans rfl; have hcz16_3 : w12.cell? ⟨gb196, 3, none⟩ = some (.int .i64 a0_3) := (zc BK196.out 3).trans rfl; have hcz16_4 : w12.cell? ⟨gb196, 4, none⟩ = some (.int .i64 a0_4) := (zc BK196.out 4).trans rfl; have hcz16_5 : w12.cell? ⟨gb196, 5, none⟩ = some (.string a0_5) := (zc BK196.out 5).trans rfl; have hcz16_6 : w12.cell? ⟨gb196, 6, none⟩ = some (.bool a0_6) := (zc BK196.out 6).trans rfl; have hfz16_0 := zf BK196.out 0; have hfz16_1 := zf BK196.out 1; have hfz16_2 := zf BK196.out 2; have hfz16_3 := zf BK196.out 3; have hfz16_4 := zf BK196.out 4; have hfz16_5 := zf BK196.out 5; have hfz16_6 := zf BK196.out 6) | ((with_reducible refine gate_callee (f := 62) rfl ?_); refine goesL_ (some 24) rfl rfl Tryd.func62 (by kernel_rfl) rfl #[.agg #[.string a0_0, .int .i64 a0_1, .int .i64 a0_2, .int .i64 a0_3, .int .i64 a0_4, .string a0_5, .bool a0_6], .int .i64 a0_1, .int .i64 4] rfl (by (try simp only [mt_, mc_, mn_]); first | done | rfl) ?_; (with_reducible refine (uR04_fail.calls a0_0 a0_1 a0_2 a0_3 a0_4 a0_5 a0_6 a0_1 4 t207 t208 t209 t210 t211 t212 t213 _ A6.out).mono ?_); rintro e w17 ⟨rfl, hb⟩; refine ⟨_, rfl, ?_⟩; have n0_ := ak_ (blk_below (g := gb196) (o := .cells #[.string a0_0, .int .i64 a0_1, .int .i64 a0_2, .int .i64 a0_3, .int .i64 a0_4, .string a0_5, .bool a0_6] 81 (0, 0)) (by (repeat (first | (with_reducible first | apply zn | apply zd | apply za) | refine zr ?_ NB196_206.out _)); (with_reducible repeat (first | apply zn | apply zd | apply za)); exact BK196.out) hb); have n1_ := ak_ (blk_below (g := gb197) (o := .cells #[.string ⟨#[]⟩, .int .i64 0, .int .i64 0, .int .i64 0, .int .i64 0, .string ⟨#[]⟩, .bool false] 81 (0, 0)) (by (repeat (first | (with_reducible first | apply zn | apply zd | apply za) | refine zr ?_ NB197_206.out _)); (with_reducible repeat (first | apply zn | apply zd | apply za)); exact BK197.out) hb); have n2_ := ak_ (blk_below (g := gb206) (o := .cells #[.string t198, .int .i64 t199, .int .i64 t200, .int .i64 t201, .int .i64 t202, .string t203, .bool t204] 81 (0, 0)) (by (with_reducible repeat (first | apply zn | apply zd | apply za)); refine zp (cs := #[.string t198, .int .i64 t199, .int .i64 t200, .int .i64 t201, .int .i64 t202, .string t203, .bool false]) ?_ 6 _ rfl; (with_reducible repeat (first | apply zn | apply zd | apply za)); refine zp (cs := #[.string t198, .int .i64 t199, .int .i64 t200, .int .i64 t201, .int .i64 t202, .string ⟨#[]⟩, .bool false]) ?_ 5 _ rfl; (with_reducible repeat (first | apply zn | apply zd | apply za)); refine zp (cs := #[.string t198, .int .i64 t199, .int .i64 t200, .int .i64 t201, .int .i64 0, .string ⟨#[]⟩, .bool false]) ?_ 4 _ rfl; (with_reducible repeat (first | apply zn | apply zd | apply za)); refine zp (cs := #[.string t198, .int .i64 t199, .int .i64 t200, .int .i64 0, .int .i64 0, .string ⟨#[]⟩, .bool false]) ?_ 3 _ rfl; (with_reducible repeat (first | apply zn | apply zd | apply za)); refine zp (cs := #[.string t198, .int .i64 t199, .int .i64 0, .int .i64 0, .int .i64 0, .string ⟨#[]⟩, .bool false]) ?_ 2 _ rfl; (with_reducible repeat (first | apply zn | apply zd | apply za)); refine zp (cs := #[.string t198, .int .i64 0, .int .i64 0, .int .i64 0, .int .i64 0, .string ⟨#[]⟩, .bool false]) ?_ 1 _ rfl; (with_reducible repeat (first | apply zn | apply zd | apply za)); refine zp (cs := #[.string ⟨#[]⟩, .int .i64 0, .int .i64 0, .int .i64 0, .int .i64 0, .string ⟨#[]⟩, .bool false]) ?_ 0 _ rfl; (with_reducible repeat (first | apply zn | apply zd | apply za)); exact BK206.out) hb); have n3_ := ak_ (ps (by with_reducible repeat first | exact HB.out | apply pa | apply pd | apply pe | refine zs ?_ GE196.out | refine zs ?_ GE197.out | refine zs ?_ GE206.out) hb); clear BK196 BK197 BK206 HB; have BK196 := n0_; have BK197 := n1_; have BK206 := n2_; have HB := n3_; clear n0_ n1_ n2_ n3_; have hcz18_0 : w17.cell? ⟨gb197, 0, none⟩ = some (.string ⟨#[]⟩) := (zc BK197.out 0).trans rfl; have hcz18_1 : w17.cell? ⟨gb197, 1, none⟩ = some (.int .i64 0) := (zc BK197.out 1).trans rfl; have hcz18_2 : w17.cell? ⟨gb197, 2, none⟩ = some (.int .i64 0) := (zc BK197.out 2).trans rfl; have hcz18_3 : w17.cell? ⟨gb197, 3, none⟩ = some (.int .i64 0) := (zc BK197.out 3).trans rfl; have hcz18_4 : w17.cell? ⟨gb197, 4, none⟩ = some (.int .i64 0) := (zc BK197.out 4).trans rfl; have hcz18_5 : w17.cell? ⟨gb197, 5, none⟩ = some (.string ⟨#[]⟩) := (zc BK197.out 5).trans rfl; have hcz18_6 : w17.cell? ⟨gb197, 6, none⟩ = some (.bool false) := (zc BK197.out 6).trans rfl; have hfz18_0 := zf BK197.out 0; have hfz18_1 := zf BK197.out 1; have hfz18_2 := zf BK197.out 2; have hfz18_3 := zf BK197.out 3; have hfz18_4 := zf BK197.out 4; have hfz18_5 := zf BK197.out 5; have hfz18_6 := zf BK197.out 6))
     refine bodyPost_ret (results_ct rfl _ _ gb197 81 #[.string t207, .int .i64 t208, .int .i64 t209, .int .i64 t210, .int .i64 t211, .string t212, .bool t213] (0, 0) _ rfl (by (with_reducible repeat (first | apply zn | apply zd | apply za)); refine zp (cs := #[.string t207, .int .i64 t208, .int .i64 t209, .int .i64 t210, .int .i64 t211, .string t212, .bool false]) ?_ 6 _ rfl; (with_reducible repeat (first | apply zn | apply zd | apply za)); refine zp (cs := #[.string t207, .int .i64 t208, .int .i64 t209, .int .i64 t210, .int .i64 t211, .string ⟨#[]⟩, .bool false]) ?_ 5 _ rfl; (with_reducible repeat (first | apply zn | apply zd | apply za)); refine zp (cs := #[.string t207, .int .i64 t208, .int .i64 t209, .int .i64 t210, .int .i64 0, .string ⟨#[]⟩, .bool false]) ?_ 4 _ rfl; (with_reducible repeat (first | apply zn | apply zd | apply za)); refine zp (cs := #[.string t207, .int .i64 t208, .int .i64 t209, .int .i64 0, .int .i64 0, .string ⟨#[]⟩, .bool false]) ?_ 3 _ rfl; (with_reducible repeat (first | apply zn | apply zd | apply za)); refine zp (cs := #[.string t207, .int .i64 t208, .int .i64 0, .int .i64 0, .int .i64 0, .string ⟨#[]⟩, .bool false]) ?_ 2 _ rfl; (with_reducible repeat (first | apply zn | apply zd | apply za)); refine zp (cs := #[.string t207, .int .i64 0, .int .i64 0, .int .i64 0, .int .i64 0, .string ⟨#[]⟩, .bool false]) ?_ 1 _ rfl; (with_reducible repeat (first | apply zn | apply zd | apply za)); refine zp (cs := #[.string ⟨#[]⟩, .int .i64 0, .int .i64 0, .int .i64 0, .int .i64 0, .string ⟨#[]⟩, .bool false]) ?_ 0 _ rfl; (with_reducible repeat (first | apply zn | apply zd | apply za)); exact BK197.out) Tryd.underlying81 rfl (by kernel_rfl)) rfl ?_
     exact ⟨by first | rfl | simp [*], by repeat (first | (with_reducible first | exact HB.out | apply pa | apply pd | apply pe | refine zs ?_ GE196.out | refine zs ?_ GE197.out | refine zs ?_ GE206.out) | exact HB.out)⟩
   rw [if_neg c5] at H
   have c5b0 : decide (a1 < t205) = false := df_ c5
   clear c5
   by_cases c19 : t205 > (wrap64 ((t198.size : Int) - t199))
   · rw [if_pos c19] at H
     have c19b0 : decide ((wrap64 ((t198.size : Int) - t199)) < t205) = true := dt_ c19
     clear c19
     replace H := ob_ H
     obtain ⟨⟨t214, t215, t216, t217, t218, t219, t220⟩, A200, H⟩ := H
     replace H : (some (t214, t215, t216, t217, t218, t219, t220, (⟨#[]⟩ : ByteArray))) = some (r1, r2, r3, r4, r5, r6, r7, r8) := H
     have A20 := ak_ A200
     clear A200
     simp only [Option.some.injEq, Prod.mk.injEq] at H
     obtain ⟨rfl, rfl, rfl, rfl, rfl, rfl, rfl, rfl⟩ := H
     go_enter Tryd.func69, Tryd.ntmps69
     go_wp2_with (first | ((with_reducible refine gate_dst (N := 2) rfl ?_); refine box_event ?hg (N := 2) ?hd (cs := #[.string a0_0, .int .i64 a0_1, .int .i64 a0_2, .int .i64 a0_3, .int .i64 a0_4, .string a0_5, .bool a0_6]) (t := 81) ?hr ?_; (case hd | hg => rfl); (case hr => first | (go_simp; done) | (go_simp; rfl)); intro gb196 hg w21 hbox hb; have n0_ := ak_ (ps (by with_reducible repeat first | exact HB.out | apply pa | apply pd | apply pe) hb); have n1_ := ak_ (hbox); have n2_ := ak_ ((by rw [hg]; exact (below_size (by with_reducible repeat first | exact HB.out | apply pa | apply pd | apply pe)) : w.heap.size ≤ gb196)); have n3_ := ak_ ((by rw [hg]; exact (below_size (by with_reducible repeat first | exact HB.out | apply pa | apply pd | apply pe)) : w.heap.size ≤ gb196)); clear HB; have HB := n0_; have BK196 := n1_; have GW196 := n2_; have GE196 := n3_; clear n0_ n1_ n2_ n3_ hb hbox hg) | ((with_reducible refine gate_dst (N := 4) rfl ?_); refine box_event ?hg (N := 4) ?hd (cs := #[.string ⟨#[]⟩, .int .i64 0, .int .i64 0, .int .i64 0, .int .i64 0, .string ⟨#[]⟩, .bool false]) (t := 81) ?hr ?_; (case hd | hg => rfl); (case hr => first | (go_simp; done) | (go_simp; rfl)); intro gb197 hg w22 hbox hb; have n0_ := ak_ (blk_below (g := gb196) (o := .cells #[.string a0_0, .int .i64 a0_1, .int .i64 a0_2, .int .i64 a0_3, .int .i64 a0_4, .string a0_5, .bool a0_6] 81 (0, 0)) (by (with_reducible repeat (first | apply zn | apply zd | apply za)); exact BK196.out) hb); have n1_ := ak_ (ps (by with_reducible repeat first | exact HB.out | apply pa | apply pd | apply pe | refine zs ?_ GE196.out) hb); have n2_ := ak_ (hbox); have n3_ := ak_ ((by rw [hg]; exact (below_size (by with_reducible repeat first | exact HB.out | apply pa | apply pd | apply pe | refine zs ?_ GE196.out)) : w.heap.size ≤ gb197)); have n4_ := ak_ ((by rw [hg]; exact (below_size (by with_reducible repeat first | exact HB.out | apply pa | apply pd | apply pe | refine zs ?_ GE196.out)) : w.heap.size ≤ gb197)); have n5_ := ak_ ((by rw [hg]; exact Nat.ne_of_lt (blk_lt (g := gb196) (by (with_reducible repeat (first | apply zn | apply zd | apply za)); exact BK196.out)) : gb196 ≠ gb197)); have n6_ := ak_ ((by rw [hg]; exact Nat.ne_of_gt (blk_lt (g := gb196) (by (with_reducible repeat (first | apply zn | apply zd | apply za)); exact BK196.out)) : gb197 ≠ gb196)); clear BK196 HB; have BK196 := n0_; have HB := n1_; have BK197 := n2_; have GW197 := n3_; have GE197 := n4_; have NB196_197 := n5_; have NB197_196 := n6_; clear n0_ n1_ n2_ n3_ n4_ n5_ n6_ hb hbox hg; have hnb23 := NB196_197.out; have hnc23 := NB197_196.out; have hcz24_0 : w22.cell? ⟨gb196, 0, none⟩ = some (.string a0_0) := (zc BK196.out 0).trans rfl; have hcz24_1 : w22.cell? ⟨gb196, 1, none⟩ = some (.int .i64 a0_1) := (zc BK196.out 1).trans rfl; have hcz24_2 : w22.cell? ⟨gb196, 2, none⟩ = some (.int .i64 a0_2) := (zc BK196.out 2).trans rfl; have hcz24_3 : w22.cell? ⟨gb196, 3, none⟩ = some (.int .i64 a0_3) := (zc BK196.out 3).trans rfl; have hcz24_4 : w22.cell? ⟨gb196, 4, none⟩ = some (.int .i64 a0_4) := (zc BK196.out 4).trans rfl; have hcz24_5 : w22.cell? ⟨gb196, 5, none⟩ = some (.string a0_5) := (zc BK196.out 5).trans rfl; have hcz24_6 : w22.cell? ⟨gb196, 6, none⟩ = some (.bool a0_6) := (zc BK196.out 6).trans rfl; have hfz24_0 := zf BK196.out 0; have hfz24_1 := zf BK196.out 1; have hfz24_2 := zf BK196.out 2; have hfz24_3 := zf BK196.out 3; have hfz24_4 := zf BK196.out 4; have hfz24_5 := zf BK196.out 5; have hfz24_6 := zf BK196.out 6) | ((with_reducible refine gate_callee (f := 68) rfl ?_); refine goesL_ (some 11) rfl rfl Tryd.func68 (by kernel_rfl) rfl #[.agg #[.string a0_0, .int .i64 a0_1, .int .i64 a0_2, .int .i64 a0_3, .int .i64 a0_4, .string a0_5, .bool a0_6]] rfl (by (try simp only [mt_, mc_, mn_]); first | done | rfl) ?_; (with_reducible refine (uR04_Take.calls k a0_0 a0_1 a0_2 a0_3 a0_4 a0_5 a0_6 t198 t199 t200 t201 t202 t203 t204 t205 _ A3.out).mono ?_); rintro e w25 ⟨rfl, hb⟩; refine ⟨_, rfl, ?_⟩; have n0_ := ak_ (blk_below (g := gb196) (o := .cells #[.string a0_0, .int .i64 a0_1, .int .i64 a0_2, .int .i64 a0_3, .int .i64 a0_4, .string a0_5, .bool a0_6] 81 (0, 0)) (by (with_reducible repeat (first | apply zn | apply zd | apply za)); exact BK196.out) hb); have n1_ := ak_ (blk_below (g := gb197) (o := .cells #[.string ⟨#[]⟩, .int .i64 0, .int .i64 0, .int .i64 0, .int .i64 0, .string ⟨#[]⟩, .bool false] 81 (0, 0)) (by (with_reducible repeat (first | apply zn | apply zd | apply za)); exact BK197.out) hb); have n2_ := ak_ (ps (by with_reducible repeat first | exact HB.out | apply pa | apply pd | apply pe | refine zs ?_ GE196.out | refine zs ?_ GE197.out) hb); clear BK196 BK197 HB; have BK196 := n0_; have BK197 := n1_; have HB := n2_; clear n0_ n1_ n2_) | ((with_reducible refine gate_dst (N := 6) rfl ?_); refine box_event ?hg (N := 6) ?hd (cs := #[.string ⟨#[]⟩, .int .i64 0, .int .i64 0, .int .i64 0, .int .i64 0, .string ⟨#[]⟩, .bool false]) (t := 81) ?hr ?_; (case hd | hg => rfl); (case hr => first | (go_simp; done) | (go_simp; rfl)); intro gb206 hg w26 hbox hb; have n0_ := ak_ (blk_below (g := gb196) (o := .cells #[.string a0_0, .int .i64 a0_1, .int .i64 a0_2, .int .i64 a0_3, .int .i64 a0_4, .string a0_5, .bool a0_6] 81 (0, 0)) (by (with_reducible repeat (first | apply zn | apply zd | apply za)); exact BK196.out) hb); have n1_ := ak_ (blk_below (g := gb197) (o := .cells #[.string ⟨#[]⟩, .int .i64 0, .int .i64 0, .int .i64 0, .int .i64 0, .string ⟨#[]⟩, .bool false] 81 (0, 0)) (by (with_reducible repeat (first | apply zn | apply zd | apply za)); exact BK197.out) hb); have n2_ := ak_ (ps (by with_reducible repeat first | exact HB.out | apply pa | apply pd | apply pe | refine zs ?_ GE196.out | refine zs ?_ GE197.out) hb); have n3_ := ak_ (hbox); have n4_ := ak_ ((by rw [hg]; exact (below_size (by with_reducible repeat first | exact HB.out | apply pa | apply pd | apply pe | refine zs ?_ GE196.out | refine zs ?_ GE197.out)) : w.heap.size ≤ gb206)); have n5_ := ak_ ((by rw [hg]; exact (below_size (by with_reducible repeat first | exact HB.out | apply pa | apply pd | apply pe | refine zs ?_ GE196.out | refine zs ?_ GE197.out)) : w.heap.size ≤ gb206)); have n6_ := ak_ ((by rw [hg]; exact Nat.ne_of_lt (blk_lt (g := gb196) (by (with_reducible repeat (first | apply zn | apply zd | apply za)); exact BK196.out)) : gb196 ≠ gb206)); have n7_ := ak_ ((by rw [hg]; exact Nat.ne_of_gt (blk_lt (g := gb196) (by (with_reducible repeat (first | apply zn | apply zd | apply za)); exact BK196.out)) : gb206 ≠ gb196)); have n8_ := ak_ ((by rw [hg]; exact Nat.ne_of_lt (blk_lt (g := gb197) (by (with_reducible repeat (first | apply zn | apply zd | apply za)); exact BK197.out)) : gb197 ≠ gb206)); have n9_ := ak_ ((by rw [hg]; exact Nat.ne_of_gt (blk_lt (g := gb197) (by (with_reducible repeat (first | apply zn | apply zd | apply za)); exact BK197.out)) : gb206 ≠ gb197)); clear BK196 BK197 HB; have BK196 := n0_; have BK197 := n1_; have HB := n2_; have BK206 := n3_; have GW206 := n4_; have GE206 := n5_; have NB196_206 := n6_; have NB206_196 := n7_; have NB197_206 := n8_; have NB206_197 := n9_; clear n0_ n1_ n2_ n3_ n4_ n5_ n6_ n7_ n8_ n9_ hb hbox hg; have hnb27 := NB206_196.out; have hnc27 := NB196_206.out; have hnb28 := NB206_197.out; have hnc28 := NB197_206.out; have hcz29_0 : w26.cell? ⟨gb206, 0, none⟩ = some (.string ⟨#[]⟩) := (zc BK206.out 0).trans rfl; have hcz29_1 : w26.cell? ⟨gb206, 1, none⟩ = some (.int .i64 0) := (zc BK206.out 1).trans rfl; have hcz29_2 : w26.cell? ⟨gb206, 2, none⟩ = some (.int .i64 0) := (zc BK206.out 2).trans rfl; have hcz29_3 : w26.cell? ⟨gb206, 3, none⟩ = some (.int .i64 0) := (zc BK206.out 3).trans rfl; have hcz29_4 : w26.cell? ⟨gb206, 4, none⟩ = some (.int .i64 0) := (zc BK206.out 4).trans rfl; have hcz29_5 : w26.cell? ⟨gb206, 5, none⟩ = some (.string ⟨#[]⟩) := (zc BK206.out 5).trans rfl; have hcz29_6 : w26.cell? ⟨gb206, 6, none⟩ = some (.bool false) := (zc BK206.out 6).trans rfl; have hfz29_0 := zf BK206.out 0; have hfz29_1 := zf BK206.out 1; have hfz29_2 := zf BK206.out 2; have hfz29_3 := zf BK206.out 3; have hfz29_4 := zf BK206.out 4; have hfz29_5 := zf BK206.out 5; have hfz29_6 := zf BK206.out 6; have hcz30_0 : w26.cell? ⟨gb196, 0, none⟩ = some (.string a0_0) := (zc BK196.out 0).trans rfl; have hcz30_1 : w26.cell? ⟨gb196, 1, none⟩ = some (.int .i64 a0_1) := (zc BK196.out 1).trans rfl; have hcz30_2 : w26.cell? ⟨gb196, 2, none⟩ = some (.int .i64 a0_2) := (zc BK196.out 2).trans rfl; have hcz30_3 : w26.cell? ⟨gb196, 3, none⟩ = some (.int .i64 a0_3) := (zc BK196.out 3).trans rfl; have hcz30_4 : w26.cell? ⟨gb196, 4, none⟩ = some (.int .i64 a0_4) := (zc BK196.out 4).trans rfl; have hcz30_5 : w26.cell? ⟨gb196, 5, none⟩ = some (.string a0_5) := (zc BK196.out 5).trans rfl; have hcz30_6 : w26.cell? ⟨gb196, 6, none⟩ = some (.bool a0_6) := (zc BK196.out 6).trans rfl; have hfz30_0 := zf BK196.out 0; have hfz30_1 := zf BK196.out 1; have hfz30_2 := zf BK196.out 2; have hfz30_3 := zf BK196.out 3; have hfz30_4 := zf BK196.out 4; have hfz30_5 := zf BK196.out 5; have hfz30_6 := zf BK196.out 6) | ((with_reducible refine gate_callee (f := 62) rfl ?_); refine goesL_ (some 36) rfl rfl Tryd.func62 (by kernel_rfl) rfl #[.agg #[.string a0_0, .int .i64 a0_1, .int .i64 a0_2, .int .i64 a0_3, .int .i64 a0_4, .string a0_5, .bool a0_6], .int .i64 a0_1, .int .i64 2] rfl (by (try simp only [mt_, mc_, mn_]); first | done | rfl) ?_; (with_reducible refine (uR04_fail.calls a0_0 a0_1 a0_2 a0_3 a0_4 a0_5 a0_6 a0_1 2 t214 t215 t216 t217 t218 t219 t220 _ A20.out).mono ?_); rintro e w31 ⟨rfl, hb⟩; refine ⟨_, rfl, ?_⟩; have n0_ := ak_ (blk_below (g := gb196) (o := .cells #[.string a0_0, .int .i64 a0_1, .int .i64 a0_2, .int .i64 a0_3, .int .i64 a0_4, .string a0_5, .bool a0_6] 81 (0, 0)) (by (repeat (first | (with_reducible first | apply zn | apply zd | apply za) | refine zr ?_ NB196_206.out _)); (with_reducible repeat (first | apply zn | apply zd | apply za)); exact BK196.out) hb); have n1_ := ak_ (blk_below (g := gb197) (o := .cells #[.string ⟨#[]⟩, .int .i64 0, .int .i64 0, .int .i64 0, .int .i64 0, .string ⟨#[]⟩, .bool false] 81 (0, 0)) (by (repeat (first | (with_reducible first | apply zn | apply zd | apply za) | refine zr ?_ NB197_206.out _)); (with_reducible repeat (first | apply zn | apply zd | apply za)); exact BK197.out) hb); have n2_ := ak_ (blk_below (g := gb206) (o := .cells #[.string t198, .int .i64 t199, .int .i64 t200, .int .i64 t201, .int .i64 t202, .string t203, .bool t204] 81 (0, 0)) (by (with_reducible repeat (first | apply zn | apply zd | apply za)); refine zp (cs := #[.string t198, .int .i64 t199, .int .i64 t200, .int .i64 t201, .int .i64 t202, .string t203, .bool false]) ?_ 6 _ rfl; (with_reducible repeat (first | apply zn | apply zd | apply za)); refine zp (cs := #[.string t198, .int .i64 t199, .int .i64 t200, .int .i64 t201, .int .i64 t202, .string ⟨#[]⟩, .bool false]) ?_ 5 _ rfl; (with_reducible repeat (first | apply zn | apply zd | apply za)); refine zp (cs := #[.string t198, .int .i64 t199, .int .i64 t200, .int .i64 t201, .int .i64 0, .string ⟨#[]⟩, .bool false]) ?_ 4 _ rfl; (with_reducible repeat (first | apply zn | apply zd | apply za)); refine zp (cs := #[.string t198, .int .i64 t199, .int .i64 t200, .int .i64 0, .int .i64 0, .string ⟨#[]⟩, .bool false]) ?_ 3 _ rfl; (with_reducible repeat (first | apply zn | apply zd | apply za)); refine zp (cs := #[.string t198, .int .i64 t199, .int .i64 0, .int .i64 0, .int .i64 0, .string ⟨#[]⟩, .bool false]) ?_ 2 _ rfl; (with_reducible repeat (first | apply zn | apply zd | apply za)); refine zp (cs := #[.string t198, .int .i64 0, .int .i64 0, .int .i64 0, .int .i64 0, .string ⟨#[]⟩, .bool false]) ?_ 1 _ rfl; (with_reducible repeat (first | apply zn | apply zd | apply za)); refine zp (cs := #[.string ⟨#[]⟩, .int .i64 0, .int .i64 0, .int .i64 0, .int .i64 0, .string ⟨#[]⟩, .bool false]) ?_ 0 _ rfl; (with_reducible repeat (first | apply zn | apply zd | apply za)); exact BK206.out) hb); have n3_ := ak_ (ps (by with_reducible repeat first | exact HB.out | apply pa | apply pd | apply pe | refine zs ?_ GE196.out | refine zs ?_ GE197.out | refine zs ?_ GE206.out) hb); clear BK196 BK197 BK206 HB; have BK196 := n0_; have BK197 := n1_; have BK206 := n2_; have HB := n3_; clear n0_ n1_ n2_ n3_; have hcz32_0 : w31.cell? ⟨gb197, 0, none⟩ = some (.string ⟨#[]⟩) := (zc BK197.out 0).trans rfl; have hcz32_1 : w31.cell? ⟨gb197, 1, none⟩ = some (.int .i64 0) := (zc BK197.out 1).trans rfl; have hcz32_2 : w31.cell? ⟨gb197, 2, none⟩ = some (.int .i64 0) := (zc BK197.out 2).trans rfl; have hcz32_3 : w31.cell? ⟨gb197, 3, none⟩ = some (.int .i64 0) := (zc BK197.out 3).trans rfl; have hcz32_4 : w31.cell? ⟨gb197, 4, none⟩ = some (.int .i64 0) := (zc BK197.out 4).trans rfl; have hcz32_5 : w31.cell? ⟨gb197, 5, none⟩ = some (.string ⟨#[]⟩) := (zc BK197.out 5).trans rfl; have hcz32_6 : w31.cell? ⟨gb197, 6, none⟩ = some (.bool false) := (zc BK197.out 6).trans rfl; have hfz32_0 := zf BK197.out 0; have hfz32_1 := zf BK197.out 1; have hfz32_2 := zf BK197.out 2; have hfz32_3 := zf BK197.out 3; have hfz32_4 := zf BK197.out 4; have hfz32_5 := zf BK197.out 5; have hfz32_6 := zf BK197.out 6))
     refine bodyPost_ret (results_ct rfl _ _ gb197 81 #[.string t214, .int .i64 t215, .int .i64 t216, .int .i64 t217, .int .i64 t218, .string t219, .bool t220] (0, 0) _ rfl (by (with_reducible repeat (first | apply zn | apply zd | apply za)); refine zp (cs := #[.string t214, .int .i64 t215, .int .i64 t216, .int .i64 t217, .int .i64 t218, .string t219, .bool false]) ?_ 6 _ rfl; (with_reducible repeat (first | apply zn | apply zd | apply za)); refine zp (cs := #[.string t214, .int .i64 t215, .int .i64 t216, .int .i64 t217, .int .i64 t218, .string ⟨#[]⟩, .bool false]) ?_ 5 _ rfl; (with_reducible repeat (first | apply zn | apply zd | apply za)); refine zp (cs := #[.string t214, .int .i64 t215, .int .i64 t216, .int .i64 t217, .int .i64 0, .string ⟨#[]⟩, .bool false]) ?_ 4 _ rfl; (with_reducible repeat (first | apply zn | apply zd | apply za)); refine zp (cs := #[.string t214, .int .i64 t215, .int .i64 t216, .int .i64 0, .int .i64 0, .string ⟨#[]⟩, .bool false]) ?_ 3 _ rfl; (with_reducible repeat (first | apply zn | apply zd | apply za)); refine zp (cs := #[.string t214, .int .i64 t215, .int .i64 0, .int .i64 0, .int .i64 0, .string ⟨#[]⟩, .bool false]) ?_ 2 _ rfl; (with_reducible repeat (first | apply zn | apply zd | apply za)); refine zp (cs := #[.string t214, .int .i64 0, .int .i64 0, .int .i64 0, .int .i64 0, .string ⟨#[]⟩, .bool false]) ?_ 1 _ rfl; (with_reducible repeat (first | apply zn | apply zd | apply za)); refine zp (cs := #[.string ⟨#[]⟩, .int .i64 0, .int .i64 0, .int .i64 0, .int .i64 0, .string ⟨#[]⟩, .bool false]) ?_ 0 _ rfl; (with_reducible repeat (first | apply zn | apply zd | apply za)); exact BK197.out) Tryd.underlying81 rfl (by kernel_rfl)) rfl ?_
     exact ⟨by first | rfl | simp [*], by repeat (first | (with_reducible first | exact HB.out | apply pa | apply pd | apply pe | refine zs ?_ GE196.out | refine zs ?_ GE197.out | refine zs ?_ GE206.out) | exact HB.out)⟩
   rw [if_neg c19] at H
   have c19b0 : decide ((wrap64 ((t198.size : Int) - t199)) < t205) = false := df_ c19
   clear c19
   by_cases c33 : 0 ≤ t199
   · rw [if_pos c33] at H
     have c33b0 := eq_true c33
     have c33b1 : decide (0 ≤ t199) = true := dt_ c33
     clear c33
     by_cases c34 : t199 ≤ (wrap64 (t199 + t205))
     · rw [if_pos c34] at H
       have c34b0 := eq_true c34
       have c34b1 : decide (t199 ≤ (wrap64 (t199 + t205))) = true := dt_ c34
       by_cases c35 : (wrap64 (t199 + t205)) ≤ (t198.size : Int)
       · rw [if_pos c35] at H
         have c35b0 := eq_true c35
         have c35b1 : decide ((wrap64 (t199 + t205)) ≤ (t198.size : Int)) = true := dt_ c35
         simp only [Option.some.injEq, Prod.mk.injEq] at H
         obtain ⟨rfl, rfl, rfl, rfl, rfl, rfl, rfl, rfl⟩ := H
         go_enter Tryd.func69, Tryd.ntmps69
         go_upto_region 9 with (first | ((with_reducible refine gate_dst (N := 2) rfl ?_); refine box_event ?hg (N := 2) ?hd (cs := #[.string a0_0, .int .i64 a0_1, .int .i64 a0_2, .int .i64 a0_3, .int .i64 a0_4, .string a0_5, .bool a0_6]) (t := 81) ?hr ?_; (case hd | hg => rfl); (case hr => first | (go_simp; done) | (go_simp; rfl)); intro gb196 hg w36 hbox hb; have n0_ := ak_ (ps (by with_reducible repeat first | exact HB.out | apply pa | apply pd | apply pe) hb); have n1_ := ak_ (hbox); have n2_ := ak_ ((by rw [hg]; exact (below_size (by with_reducible repeat first | exact HB.out | apply pa | apply pd | apply pe)) : w.heap.size ≤ gb196)); have n3_ := ak_ ((by rw [hg]; exact (below_size (by with_reducible repeat first | exact HB.out | apply pa | apply pd | apply pe)) : w.heap.size ≤ gb196)); clear HB; have HB := n0_; have BK196 := n1_; have GW196 := n2_; have GE196 := n3_; clear n0_ n1_ n2_ n3_ hb hbox hg) | ((with_reducible refine gate_dst (N := 4) rfl ?_); refine box_event ?hg (N := 4) ?hd (cs := #[.string ⟨#[]⟩, .int .i64 0, .int .i64 0, .int .i64 0, .int .i64 0, .string ⟨#[]⟩, .bool false]) (t := 81) ?hr ?_; (case hd | hg => rfl); (case hr => first | (go_simp; done) | (go_simp; rfl)); intro gb197 hg w37 hbox hb; have n0_ := ak_ (blk_below (g := gb196) (o := .cells #[.string a0_0, .int .i64 a0_1, .int .i64 a0_2, .int .i64 a0_3, .int .i64 a0_4, .string a0_5, .bool a0_6] 81 (0, 0)) (by (with_reducible repeat (first | apply zn | apply zd | apply za)); exact BK196.out) hb); have n1_ := ak_ (ps (by with_reducible repeat first | exact HB.out | apply pa | apply pd | apply pe | refine zs ?_ GE196.out) hb); have n2_ := ak_ (hbox); have n3_ := ak_ ((by rw [hg]; exact (below_size (by with_reducible repeat first | exact HB.out | apply pa | apply pd | apply pe | refine zs ?_ GE196.out)) : w.heap.size ≤ gb197)); have n4_ := ak_ ((by rw [hg]; exact (below_size (by with_reducible repeat first | exact HB.out | apply pa | apply pd | apply pe | refine zs ?_ GE196.out)) : w.heap.size ≤ gb197)); have n5_ := ak_ ((by rw [hg]; exact Nat.ne_of_lt (blk_lt (g := gb196) (by (with_reducible repeat (first | apply zn | apply zd | apply za)); exact BK196.out)) : gb196 ≠ gb197)); have n6_ := ak_ ((by rw [hg]; exact Nat.ne_of_gt (blk_lt (g := gb196) (by (with_reducible repeat (first | apply zn | apply zd | apply za)); exact BK196.out)) : gb197 ≠ gb196)); clear BK196 HB; have BK196 := n0_; have HB := n1_; have BK197 := n2_; have GW197 := n3_; have GE197 := n4_; have NB196_197 := n5_; have NB197_196 := n6_; clear n0_ n1_ n2_ n3_ n4_ n5_ n6_ hb hbox hg; have hnb38 := NB196_197.out; have hnc38 := NB197_196.out; have hcz39_0 : w37.cell? ⟨gb196, 0, none⟩ = some (.string a0_0) := (zc BK196.out 0).trans rfl; have hcz39_1 : w37.cell? ⟨gb196, 1, none⟩ = some (.int .i64 a0_1) := (zc BK196.out 1).trans rfl; have hcz39_2 : w37.cell? ⟨gb196, 2, none⟩ = some (.int .i64 a0_2) := (zc BK196.out 2).trans rfl; have hcz39_3 : w37.cell? ⟨gb196, 3, none⟩ = some (.int .i64 a0_3) := (zc BK196.out 3).trans rfl; have hcz39_4 : w37.cell? ⟨gb196, 4, none⟩ = some (.int .i64 a0_4) := (zc BK196.out 4).trans rfl; have hcz39_5 : w37.cell? ⟨gb196, 5, none⟩ = some (.string a0_5) := (zc BK196.out 5).trans rfl; have hcz39_6 : w37.cell? ⟨gb196, 6, none⟩ = some (.bool a0_6) := (zc BK196.out 6).trans rfl; have hfz39_0 := zf BK196.out 0; have hfz39_1 := zf BK196.out 1; have hfz39_2 := zf BK196.out 2; have hfz39_3 := zf BK196.out 3; have hfz39_4 := zf BK196.out 4; have hfz39_5 := zf BK196.out 5; have hfz39_6 := zf BK196.out 6) | ((with_reducible refine gate_callee (f := 68) rfl ?_); refine goesL_ (some 11) rfl rfl Tryd.func68 (by kernel_rfl) rfl #[.agg #[.string a0_0, .int .i64 a0_1, .int .i64 a0_2, .int .i64 a0_3, .int .i64 a0_4, .string a0_5, .bool a0_6]] rfl (by (try simp only [mt_, mc_, mn_]); first | done | rfl) ?_; (with_reducible refine (uR04_Take.calls k a0_0 a0_1 a0_2 a0_3 a0_4 a0_5 a0_6 t198 t199 t200 t201 t202 t203 t204 t205 _ A3.out).mono ?_); rintro e w40 ⟨rfl, hb⟩; refine ⟨_, rfl, ?_⟩; have n0_ := ak_ (blk_below (g := gb196) (o := .cells #[.string a0_0, .int .i64 a0_1, .int .i64 a0_2, .int .i64 a0_3, .int .i64 a0_4, .string a0_5, .bool a0_6] 81 (0, 0)) (by (with_reducible repeat (first | apply zn | apply zd | apply za)); exact BK196.out) hb); have n1_ := ak_ (blk_below (g := gb197) (o := .cells #[.string ⟨#[]⟩, .int .i64 0, .int .i64 0, .int .i64 0, .int .i64 0, .string ⟨#[]⟩, .bool false] 81 (0, 0)) (by (with_reducible repeat (first | apply zn | apply zd | apply za)); exact BK197.out) hb); have n2_ := ak_ (ps (by with_reducible repeat first | exact HB.out | apply pa | apply pd | apply pe | refine zs ?_ GE196.out | refine zs ?_ GE197.out) hb); clear BK196 BK197 HB; have BK196 := n0_; have BK197 := n1_; have HB := n2_; clear n0_ n1_ n2_) | ((with_reducible refine gate_dst (N := 6) rfl ?_); refine box_event ?hg (N := 6) ?hd (cs := #[.string ⟨#[]⟩, .int .i64 0, .int .i64 0, .int .i64 0, .int .i64 0, .string ⟨#[]⟩, .bool false]) (t := 81) ?hr ?_; (case hd | hg => rfl); (case hr => first | (go_simp; done) | (go_simp; rfl)); intro gb206 hg w41 hbox hb; have n0_ := ak_ (blk_below (g := gb196) (o := .cells #[.string a0_0, .int .i64 a0_1, .int .i64 a0_2, .int .i64 a0_3, .int .i64 a0_4, .string a0_5, .bool a0_6] 81 (0, 0)) (by (with_reducible repeat (first | apply zn | apply zd | apply za)); exact BK196.out) hb); have n1_ := ak_ (blk_below (g := gb197) (o := .cells #[.string ⟨#[]⟩, .int .i64 0, .int .i64 0, .int .i64 0, .int .i64 0, .string ⟨#[]⟩, .bool false] 81 (0, 0)) (by (with_reducible repeat (first | apply zn | apply zd | apply za)); exact BK197.out) hb); have n2_ := ak_ (ps (by with_reducible repeat first | exact HB.out | apply pa | apply pd | apply pe | refine zs ?_ GE196.out | refine zs ?_ GE197.out) hb); have n3_ := ak_ (hbox); have n4_ := ak_ ((by rw [hg]; exact (below_size (by with_reducible repeat first | exact HB.out | apply pa | apply pd | apply pe | refine zs ?_ GE196.out | refine zs ?_ GE197.out)) : w.heap.size ≤ gb206)); have n5_ := ak_ ((by rw [hg]; exact (below_size (by with_reducible repeat first | exact HB.out | apply pa | apply pd | apply pe | refine zs ?_ GE196.out | refine zs ?_ GE197.out)) : w.heap.size ≤ gb206)); have n6_ := ak_ ((by rw [hg]; exact Nat.ne_of_lt (blk_lt (g := gb196) (by (with_reducible repeat (first | apply zn | apply zd | apply za)); exact BK196.out)) : gb196 ≠ gb206)); have n7_ := ak_ ((by rw [hg]; exact Nat.ne_of_gt (blk_lt (g := gb196) (by (with_reducible repeat (first | apply zn | apply zd | apply za)); exact BK196.out)) : gb206 ≠ gb196)); have n8_ := ak_ ((by rw [hg]; exact Nat.ne_of_lt (blk_lt (g := gb197) (by (with_reducible repeat (first | apply zn | apply zd | apply za)); exact BK197.out)) : gb197 ≠ gb206)); have n9_ := ak_ ((by rw [hg]; exact Nat.ne_of_gt (blk_lt (g := gb197) (by (with_reducible repeat (first | apply zn | apply zd | apply za)); exact BK197.out)) : gb206 ≠ gb197)); clear BK196 BK197 HB; have BK196 := n0_; have BK197 := n1_; have HB := n2_; have BK206 := n3_; have GW206 := n4_; have GE206 := n5_; have NB196_206 := n6_; have NB206_196 := n7_; have NB197_206 := n8_; have NB206_197 := n9_; clear n0_ n1_ n2_ n3_ n4_ n5_ n6_ n7_ n8_ n9_ hb hbox hg; have hnb42 := NB206_196.out; have hnc42 := NB196_206.out; have hnb43 := NB206_197.out; have hnc43 := NB197_206.out; have hcz44_0 : w41.cell? ⟨gb206, 0, none⟩ = some (.string ⟨#[]⟩) := (zc BK206.out 0).trans rfl; have hcz44_1 : w41.cell? ⟨gb206, 1, none⟩ = some (.int .i64 0) := (zc BK206.out 1).trans rfl; have hcz44_2 : w41.cell? ⟨gb206, 2, none⟩ = some (.int .i64 0) := (zc BK206.out 2).trans rfl; have hcz44_3 : w41.cell? ⟨gb206, 3, none⟩ = some (.int .i64 0) := (zc BK206.out 3).trans rfl; have hcz44_4 : w41.cell? ⟨gb206, 4, none⟩ = some (.int .i64 0) := (zc BK206.out 4).trans rfl; have hcz44_5 : w41.cell? ⟨gb206, 5, none⟩ = some (.string ⟨#[]⟩) := (zc BK206.out 5).trans rfl; have hcz44_6 : w41.cell? ⟨gb206, 6, none⟩ = some (.bool false) := (zc BK206.out 6).trans rfl; have hfz44_0 := zf BK206.out 0; have hfz44_1 := zf BK206.out 1; have hfz44_2 := zf BK206.out 2; have hfz44_3 := zf BK206.out 3; have hfz44_4 := zf BK206.out 4; have hfz44_5 := zf BK206.out 5; have hfz44_6 := zf BK206.out 6; have hcz45_0 : w41.cell? ⟨gb197, 0, none⟩ = some (.string ⟨#[]⟩) := (zc BK197.out 0).trans rfl; have hcz45_1 : w41.cell? ⟨gb197, 1, none⟩ = some (.int .i64 0) := (zc BK197.out 1).trans rfl; have hcz45_2 : w41.cell? ⟨gb197, 2, none⟩ = some (.int .i64 0) := (zc BK197.out 2).trans rfl; have hcz45_3 : w41.cell? ⟨gb197, 3, none⟩ = some (.int .i64 0) := (zc BK197.out 3).trans rfl; have hcz45_4 : w41.cell? ⟨gb197, 4, none⟩ = some (.int .i64 0) := (zc BK197.out 4).trans rfl; have hcz45_5 : w41.cell? ⟨gb197, 5, none⟩ = some (.string ⟨#[]⟩) := (zc BK197.out 5).trans rfl; have hcz45_6 : w41.cell? ⟨gb197, 6, none⟩ = some (.bool false) := (zc BK197.out 6).trans rfl; have hfz45_0 := zf BK197.out 0; have hfz45_1 := zf BK197.out 1; have hfz45_2 := zf BK197.out 2; have hfz45_3 := zf BK197.out 3; have hfz45_4 := zf BK197.out 4; have hfz45_5 := zf BK197.out 5; have hfz45_6 := zf BK197.out 6))
         have KK1 := (zp (zp (zp (zp (zp (zp (zp BK206.out 0 (.string t198) rfl) 1 (.int .i64 t199) rfl) 2 (.int .i64 t200) rfl) 3 (.int .i64 t201) rfl) 4 (.int .i64 t202) rfl) 5 (.string t203) rfl) 6 (.bool t204) rfl)
         have KK2 := (zr (p := ⟨gb206, 6, none⟩) (zr (p := ⟨gb206, 5, none⟩) (zr (p := ⟨gb206, 4, none⟩) (zr (p := ⟨gb206, 3, none⟩) (zr (p := ⟨gb206, 2, none⟩) (zr (p := ⟨gb206, 1, none⟩) (zr (p := ⟨gb206, 0, none⟩) BK197.out NB197_206.out (.string t198)) NB197_206.out (.int .i64 t199)) NB197_206.out (.int .i64 t200)) NB197_206.out (.int .i64 t201)) NB197_206.out (.int .i64 t202)) NB197_206.out (.string t203)) NB197_206.out (.bool t204))
         have HBW := (zs (g := gb206) (j := 6) (v := .bool t204) (zs (g := gb206) (j := 5) (v := .string t203) (zs (g := gb206) (j := 4) (v := .int .i64 t202) (zs (g := gb206) (j := 3) (v := .int .i64 t201) (zs (g := gb206) (j := 2) (v := .int .i64 t200) (zs (g := gb206) (j := 1) (v := .int .i64 t199) (zs (g := gb206) (j := 0) (v := .string t198) HB.out GE206.out) GE206.out) GE206.out) GE206.out) GE206.out) GE206.out) GE206.out)
         generalize (((((((w41.setCell ⟨gb206, 0, none⟩ (.string t198)).setCell ⟨gb206, 1, none⟩ (.int .i64 t199)).setCell ⟨gb206, 2, none⟩ (.int .i64 t200)).setCell ⟨gb206, 3, none⟩ (.int .i64 t201)).setCell ⟨gb206, 4, none⟩ (.int .i64 t202)).setCell ⟨gb206, 5, none⟩ (.string t203)).setCell ⟨gb206, 6, none⟩ (.bool t204)) = W_ at *
         have hz0 := zc KK1 0
         have hz1 := zc KK1 1
         have hz2 := zc KK1 2
         have hz3 := zc KK1 3
         have hz4 := zc KK1 4
         have hz5 := zc KK1 5
         have hz6 := zc KK1 6
         have hf0 := zf KK1 0
         have hf1 := zf KK1 1
         have hf2 := zf KK1 2
         have hf3 := zf KK1 3
         have hf4 := zf KK1 4
         have hf5 := zf KK1 5
         have hf6 := zf KK1 6
         have gz0 := zc KK2 0
         have gz1 := zc KK2 1
         have gz2 := zc KK2 2
         have gz3 := zc KK2 3
         have gz4 := zc KK2 4
         have gz5 := zc KK2 5
         have gz6 := zc KK2 6
         have gf0 := zf KK2 0
         have gf1 := zf KK2 1
         have gf2 := zf KK2 2
         have gf3 := zf KK2 3
         have gf4 := zf KK2 4
         have gf5 := zf KK2 5
         have gf6 := zf KK2 6
         go_wp2
         refine bodyPost_ret (results_ct rfl _ _ gb197 81 #[.string t198, .int .i64 (wrap64 (t199 + t205)), .int .i64 t200, .int .i64 t201, .int .i64 t202, .string t203, .bool t204] (0, 0) _ rfl (by (with_reducible repeat (first | apply zn | apply zd | apply za)); refine zp (cs := #[.string t198, .int .i64 (wrap64 (t199 + t205)), .int .i64 t200, .int .i64 t201, .int .i64 t202, .string t203, .bool false]) ?_ 6 _ rfl; (with_reducible repeat (first | apply zn | apply zd | apply za)); refine zp (cs := #[.string t198, .int .i64 (wrap64 (t199 + t205)), .int .i64 t200, .int .i64 t201, .int .i64 t202, .string ⟨#[]⟩, .bool false]) ?_ 5 _ rfl; (with_reducible repeat (first | apply zn | apply zd | apply za)); refine zp (cs := #[.string t198, .int .i64 (wrap64 (t199 + t205)), .int .i64 t200, .int .i64 t201, .int .i64 0, .string ⟨#[]⟩, .bool false]) ?_ 4 _ rfl; (with_reducible repeat (first | apply zn | apply zd | apply za)); refine zp (cs := #[.string t198, .int .i64 (wrap64 (t199 + t205)), .int .i64 t200, .int .i64 0, .int .i64 0, .string ⟨#[]⟩, .bool false]) ?_ 3 _ rfl; (with_reducible repeat (first | apply zn | apply zd | apply za)); refine zp (cs := #[.string t198, .int .i64 (wrap64 (t199 + t205)), .int .i64 0, .int .i64 0, .int .i64 0, .string ⟨#[]⟩, .bool false]) ?_ 2 _ rfl; (with_reducible repeat (first | apply zn | apply zd | apply za)); refine zp (cs := #[.string t198, .int .i64 0, .int .i64 0, .int .i64 0, .int .i64 0, .string ⟨#[]⟩, .bool false]) ?_ 1 _ rfl; (with_reducible repeat (first | apply zn | apply zd | apply za)); refine zp (cs := #[.string ⟨#[]⟩, .int .i64 0, .int .i64 0, .int .i64 0, .int .i64 0, .string ⟨#[]⟩, .bool false]) ?_ 0 _ rfl; (with_reducible repeat (first | apply zn | apply zd | apply za)); refine zr ?_ NB197_206.out _; exact KK2) Tryd.underlying81 rfl (by kernel_rfl)) rfl ?_
         exact ⟨by first | rfl | simp [*], by repeat (first | (with_reducible first | exact HBW | apply pa | apply pd | apply pe | refine zs ?_ GE196.out | refine zs ?_ GE197.out | refine zs ?_ GE206.out) | exact HBW)⟩
       rw [if_neg c35] at H
       exact absurd H (by simp)
     rw [if_neg c34] at H
     exact absurd H (by simp)
   rw [if_neg c33] at H
   exact absurd H (by simp)
 rw [if_neg c4] at H
 have c4b0 : (t200 == 0) = false := beq_eq_false_iff_ne.mpr c4
 have c4b1 : (t200 != 0) = true := bne_iff_ne.mpr c4
 simp only [Option.some.injEq, Prod.mk.injEq] at H
 obtain ⟨rfl, rfl, rfl, rfl, rfl, rfl, rfl, rfl⟩ := H
 go_enter Tryd.func69, Tryd.ntmps69
 go_wp2_with (first | ((with_reducible refine gate_dst (N := 2) rfl ?_); refine box_event ?hg (N := 2) ?hd (cs := #[.string a0_0, .int .i64 a0_1, .int .i64 a0_2, .int .i64 a0_3, .int .i64 a0_4, .string a0_5, .bool a0_6]) (t := 81) ?hr ?_; (case hd | hg => rfl); (case hr => first | (go_simp; done) | (go_simp; rfl)); intro gb196 hg w46 hbox hb; have n0_ := ak_ (ps (by with_reducible repeat first | exact HB.out | apply pa | apply pd | apply pe) hb); have n1_ := ak_ (hbox); have n2_ := ak_ ((by rw [hg]; exact (below_size (by with_reducible repeat first | exact HB.out | apply pa | apply pd | apply pe)) : w.heap.size ≤ gb196)); have n3_ := ak_ ((by rw [hg]; exact (below_size (by with_reducible repeat first | exact HB.out | apply pa | apply pd | apply pe)) : w.heap.size ≤ gb196)); clear HB; have HB := n0_; have BK196 := n1_; have GW196 := n2_; have GE196 := n3_; clear n0_ n1_ n2_ n3_ hb hbox hg) | ((with_reducible refine gate_dst (N := 4) rfl ?_); refine box_event ?hg (N := 4) ?hd (cs := #[.string ⟨#[]⟩, .int .i64 0, .int .i64 0, .int .i64 0, .int .i64 0, .string ⟨#[]⟩, .bool false]) (t := 81) ?hr ?_; (case hd | hg => rfl); (case hr => first | (go_simp; done) | (go_simp; rfl)); intro gb197 hg w47 hbox hb; have n0_ := ak_ (blk_below (g := gb196) (o := .cells #[.string a0_0, .int .i64 a0_1, .int .i64 a0_2, .int .i64 a0_3, .int .i64 a0_4, .string a0_5, .bool a0_6] 81 (0, 0)) (by (with_reducible repeat (first | apply zn | apply zd | apply za)); exact BK196.out) hb); have n1_ := ak_ (ps (by with_reducible repeat first | exact HB.out | apply pa | apply pd | apply pe | refine zs ?_ GE196.out) hb); have n2_ := ak_ (hbox); have n3_ := ak_ ((by rw [hg]; exact (below_size (by with_reducible repeat first | exact HB.out | apply pa | apply pd | apply pe | refine zs ?_ GE196.out)) : w.heap.size ≤ gb197)); have n4_ := ak_ ((by rw [hg]; exact (below_size (by with_reducible repeat first | exact HB.out | apply pa | apply pd | apply pe | refine zs ?_ GE196.out)) : w.heap.size ≤ gb197)); have n5_ := ak_ ((by rw [hg]; exact Nat.ne_of_lt (blk_lt (g := gb196) (by (with_reducible repeat (first | apply zn | apply zd | apply za)); exact BK196.out)) : gb196 ≠ gb197)); have n6_ := ak_ ((by rw [hg]; exact Nat.ne_of_gt (blk_lt (g := gb196) (by (with_reducible repeat (first | apply zn | apply zd | apply za)); exact BK196.out)) : gb197 ≠ gb196)); clear BK196 HB; have BK196 := n0_; have HB := n1_; have BK197 := n2_; have GW197 := n3_; have GE197 := n4_; have NB196_197 := n5_; have NB197_196 := n6_; clear n0_ n1_ n2_ n3_ n4_ n5_ n6_ hb hbox hg; have hnb48 := NB196_197.out; have hnc48 := NB197_196.out; have hcz49_0 : w47.cell? ⟨gb196, 0, none⟩ = some (.string a0_0) := (zc BK196.out 0).trans rfl; have hcz49_1 : w47.cell? ⟨gb196, 1, none⟩ = some (.int .i64 a0_1) := (zc BK196.out 1).trans rfl; have hcz49_2 : w47.cell? ⟨gb196, 2, none⟩ = some (.int .i64 a0_2) := (zc BK196.out 2).trans rfl; have hcz49_3 : w47.cell? ⟨gb196, 3, none⟩ = some (.int .i64 a0_3) := (zc BK196.out 3).trans rfl; have hcz49_4 : w47.cell? ⟨gb196, 4, none⟩ = some (.int .i64 a0_4) := (zc BK196.out 4).trans rfl; have hcz49_5 : w47.cell? ⟨gb196, 5, none⟩ = some (.string a0_5) := (zc BK196.out 5).trans rfl; have hcz49_6 : w47.cell? ⟨gb196, 6, none⟩ = some (.bool a0_6) := (zc BK196.out 6).trans rfl; have hfz49_0 := zf BK196.out 0; have hfz49_1 := zf BK196.out 1; have hfz49_2 := zf BK196.out 2; have hfz49_3 := zf BK196.out 3; have hfz49_4 := zf BK196.out 4; have hfz49_5 := zf BK196.out 5; have hfz49_6 := zf BK196.out 6) | ((with_reducible refine gate_callee (f := 68) rfl ?_); refine goesL_ (some 11) rfl rfl Tryd.func68 (by kernel_rfl) rfl #[.agg #[.string a0_0, .int .i64 a0_1, .int .i64 a0_2, .int .i64 a0_3, .int .i64 a0_4, .string a0_5, .bool a0_6]] rfl (by (try simp only [mt_, mc_, mn_]); first | done | rfl) ?_; (with_reducible refine (uR04_Take.calls k a0_0 a0_1 a0_2 a0_3 a0_4 a0_5 a0_6 t198 t199 t200 t201 t202 t203 t204 t205 _ A3.out).mono ?_); rintro e w50 ⟨rfl, hb⟩; refine ⟨_, rfl, ?_⟩; have n0_ := ak_ (blk_below (g := gb196) (o := .cells #[.string a0_0, .int .i64 a0_1, .int .i64 a0_2, .int .i64 a0_3, .int .i64 a0_4, .string a0_5, .bool a0_6] 81 (0, 0)) (by (with_reducible repeat (first | apply zn | apply zd | apply za)); exact BK196.out) hb); have n1_ := ak_ (blk_below (g := gb197) (o := .cells #[.string ⟨#[]⟩, .int .i64 0, .int .i64 0, .int .i64 0, .int .i64 0, .string ⟨#[]⟩, .bool false] 81 (0, 0)) (by (with_reducible repeat (first | apply zn | apply zd | apply za)); exact BK197.out) hb); have n2_ := ak_ (ps (by with_reducible repeat first | exact HB.out | apply pa | apply pd | apply pe | refine zs ?_ GE196.out | refine zs ?_ GE197.out) hb); clear BK196 BK197 HB; have BK196 := n0_; have BK197 := n1_; have HB := n2_; clear n0_ n1_ n2_) | ((with_reducible refine gate_dst (N := 6) rfl ?_); refine box_event ?hg (N := 6) ?hd (cs := #[.string ⟨#[]⟩, .int .i64 0, .int .i64 0, .int .i64 0, .int .i64 0, .string ⟨#[]⟩, .bool false]) (t := 81) ?hr ?_; (case hd | hg => rfl); (case hr => first | (go_simp; done) | (go_simp; rfl)); intro gb206 hg w51 hbox hb; have n0_ := ak_ (blk_below (g := gb196) (o := .cells #[.string a0_0, .int .i64 a0_1, .int .i64 a0_2, .int .i64 a0_3, .int .i64 a0_4, .string a0_5, .bool a0_6] 81 (0, 0)) (by (with_reducible repeat (first | apply zn | apply zd | apply za)); exact BK196.out) hb); have n1_ := ak_ (blk_below (g := gb197) (o := .cells #[.string ⟨#[]⟩, .int .i64 0, .int .i64 0, .int .i64 0, .int .i64 0, .string ⟨#[]⟩, .bool false] 81 (0, 0)) (by (with_reducible repeat (first | apply zn | apply zd | apply za)); exact BK197.out) hb); have n2_ := ak_ (ps (by with_reducible repeat first | exact HB.out | apply pa | apply pd | apply pe | refine zs ?_ GE196.out | refine zs ?_ GE197.out) hb); have n3_ := ak_ (hbox); have n4_ := ak_ ((by rw [hg]; exact (below_size (by with_reducible repeat first | exact HB.out | apply pa | apply pd | apply pe | refine zs ?_ GE196.out | refine zs ?_ GE197.out)) : w.heap.size ≤ gb206)); have n5_ := ak_ ((by rw [hg]; exact (below_size (by with_reducible repeat first | exact HB.out | apply pa | apply pd | apply pe | refine zs ?_ GE196.out | refine zs ?_ GE197.out)) : w.heap.size ≤ gb206)); have n6_ := ak_ ((by rw [hg]; exact Nat.ne_of_lt (blk_lt (g := gb196) (by (with_reducible repeat (first | apply zn | apply zd | apply za)); exact BK196.out)) : gb196 ≠ gb206)); have n7_ := ak_ ((by rw [hg]; exact Nat.ne_of_gt (blk_lt (g := gb196) (by (with_reducible repeat (first | apply zn | apply zd | apply za)); exact BK196.out)) : gb206 ≠ gb196)); have n8_ := ak_ ((by rw [hg]; exact Nat.ne_of_lt (blk_lt (g := gb197) (by (with_reducible repeat (first | apply zn | apply zd | apply za)); exact BK197.out)) : gb197 ≠ gb206)); have n9_ := ak_ ((by rw [hg]; exact Nat.ne_of_gt (blk_lt (g := gb197) (by (with_reducible repeat (first | apply zn | apply zd | apply za)); exact BK197.out)) : gb206 ≠ gb197)); clear BK196 BK197 HB; have BK196 := n0_; have BK197 := n1_; have HB := n2_; have BK206 := n3_; have GW206 := n4_; have GE206 := n5_; have NB196_206 := n6_; have NB206_196 := n7_; have NB197_206 := n8_; have NB206_197 := n9_; clear n0_ n1_ n2_ n3_ n4_ n5_ n6_ n7_ n8_ n9_ hb hbox hg; have hnb52 := NB206_196.out; have hnc52 := NB196_206.out; have hnb53 := NB206_197.out; have hnc53 := NB197_206.out; have hcz54_0 : w51.cell? ⟨gb206, 0, none⟩ = some (.string ⟨#[]⟩) := (zc BK206.out 0).trans rfl; have hcz54_1 : w51.cell? ⟨gb206, 1, none⟩ = some (.int .i64 0) := (zc BK206.out 1).trans rfl; have hcz54_2 : w51.cell? ⟨gb206, 2, none⟩ = some (.int .i64 0) := (zc BK206.out 2).trans rfl; have hcz54_3 : w51.cell? ⟨gb206, 3, none⟩ = some (.int .i64 0) := (zc BK206.out 3).trans rfl; have hcz54_4 : w51.cell? ⟨gb206, 4, none⟩ = some (.int .i64 0) := (zc BK206.out 4).trans rfl; have hcz54_5 : w51.cell? ⟨gb206, 5, none⟩ = some (.string ⟨#[]⟩) := (zc BK206.out 5).trans rfl; have hcz54_6 : w51.cell? ⟨gb206, 6, none⟩ = some (.bool false) := (zc BK206.out 6).trans rfl; have hfz54_0 := zf BK206.out 0; have hfz54_1 := zf BK206.out 1; have hfz54_2 := zf BK206.out 2; have hfz54_3 := zf BK206.out 3; have hfz54_4 := zf BK206.out 4; have hfz54_5 := zf BK206.out 5; have hfz54_6 := zf BK206.out 6; have hcz55_0 : w51.cell? ⟨gb197, 0, none⟩ = some (.string ⟨#[]⟩) := (zc BK197.out 0).trans rfl; have hcz55_1 : w51.cell? ⟨gb197, 1, none⟩ = some (.int .i64 0) := (zc BK197.out 1).trans rfl; have hcz55_2 : w51.cell? ⟨gb197, 2, none⟩ = some (.int .i64 0) := (zc BK197.out 2).trans rfl; have hcz55_3 : w51.cell? ⟨gb197, 3, none⟩ = some (.int .i64 0) := (zc BK197.out 3).trans rfl; have hcz55_4 : w51.cell? ⟨gb197, 4, none⟩ = some (.int .i64 0) := (zc BK197.out 4).trans rfl; have hcz55_5 : w51.cell? ⟨gb197, 5, none⟩ = some (.string ⟨#[]⟩) := (zc BK197.out 5).trans rfl; have hcz55_6 : w51.cell? ⟨gb197, 6, none⟩ = some (.bool false) := (zc BK197.out 6).trans rfl; have hfz55_0 := zf BK197.out 0; have hfz55_1 := zf BK197.out 1; have hfz55_2 := zf BK197.out 2; have hfz55_3 := zf BK197.out 3; have hfz55_4 := zf BK197.out 4; have hfz55_5 := zf BK197.out 5; have hfz55_6 := zf BK197.out 6))
 refine bodyPost_ret (results_ct rfl _ _ gb197 81 #[.string t198, .int .i64 t199, .int .i64 t200, .int .i64 t201, .int .i64 t202, .string t203, .bool t204] (0, 0) _ rfl (by (with_reducible repeat (first | apply zn | apply zd | apply za)); refine zp (cs := #[.string t198, .int .i64 t199, .int .i64 t200, .int .i64 t201, .int .i64 t202, .string t203, .bool false]) ?_ 6 _ rfl; (with_reducible repeat (first | apply zn | apply zd | apply za)); refine zp (cs := #[.string t198, .int .i64 t199, .int .i64 t200, .int .i64 t201, .int .i64 t202, .string ⟨#[]⟩, .bool false]) ?_ 5 _ rfl; (with_reducible repeat (first | apply zn | apply zd | apply za)); refine zp (cs := #[.string t198, .int .i64 t199, .int .i64 t200, .int .i64 t201, .int .i64 0, .string ⟨#[]⟩, .bool false]) ?_ 4 _ rfl; (with_reducible repeat (first | apply zn | apply zd | apply za)); refine zp (cs := #[.string t198, .int .i64 t199, .int .i64 t200, .int .i64 0, .int .i64 0, .string ⟨#[]⟩, .bool false]) ?_ 3 _ rfl; (with_reducible repeat (first | apply zn | apply zd | apply za)); refine zp (cs := #[.string t198, .int .i64 t199, .int .i64 0, .int .i64 0, .int .i64 0, .string ⟨#[]⟩, .bool false]) ?_ 2 _ rfl; (with_reducible repeat (first | apply zn | apply zd | apply za)); refine zp (cs := #[.string t198, .int .i64 0, .int .i64 0, .int .i64 0, .int .i64 0, .string ⟨#[]⟩, .bool false]) ?_ 1 _ rfl; (with_reducible repeat (first | apply zn | apply zd | apply za)); refine zp (cs := #[.string ⟨#[]⟩, .int .i64 0, .int .i64 0, .int .i64 0, .int .i64 0, .string ⟨#[]⟩, .bool false]) ?_ 0 _ rfl; (repeat (first | (with_reducible first | apply zn | apply zd | apply za) | refine zr ?_ NB197_206.out _)); (with_reducible repeat (first | apply zn | apply zd | apply za)); exact BK197.out) Tryd.underlying81 rfl (by kernel_rfl)) rfl ?_
 exact ⟨by first | rfl | simp [*], by repeat (first | (with_reducible first | exact HB.out | apply pa | apply pd | apply pe | refine zs ?_ GE196.out | refine zs ?_ GE197.out | refine zs ?_ GE206.out) | exact HB.out)⟩
def uR04_Flag.f (a0_0 : ByteArray) (a0_1 : Int) (a0_2 : Int) (a0_3 : Int) (a0_4 : Int) (a0_5 : ByteArray) (a0_6 : Bool) : Option (ByteArray × Int × Int × Int × Int × ByteArray × Bool × Bool) := if a0_2 = 0 then (if a0_1 = (a0_0.size : Int) then ((uR04_fail.f a0_0 a0_1 a0_2 a0_3 a0_4 a0_5 a0_6 a0_1 2).bind fun bt350 => (some (bt350.1, bt350.2.1, bt350.2.2.1, bt350.2.2.2.1, bt350.2.2.2.2.1, bt350.2.2.2.2.2.1, bt350.2.2.2.2.2.2, false))) else (if 0 ≤ a0_1 then (if a0_1 < (a0_0.size : Int) then (if (bt a0_0 a0_1) > 1 then ((uR04_fail.f a0_0 a0_1 a0_2 a0_3 a0_4 a0_5 a0_6 a0_1 3).bind fun bt357 => (some (bt357.1, bt357.2.1, bt357.2.2.1, bt357.2.2.2.1, bt357.2.2.2.2.1, bt357.2.2.2.2.2.1, bt357.2.2.2.2.2.2, false))) else (if 0 ≤ (wrap64 ((wrap64 (a0_1 + 1)) - 1)) then (if (wrap64 ((wrap64 (a0_1 + 1)) - 1)) < (a0_0.size : Int) then (some (a0_0, wrap64 (a0_1 + 1), a0_2, a0_3, a0_4, a0_5, a0_6, ((bt a0_0 (wrap64 ((wrap64 (a0_1 + 1)) - 1))) == 1))) else (none)) else (none))) else (none)) else (none))) else (some (a0_0, a0_1, a0_2, a0_3, a0_4, a0_5, a0_6, false))
def uR04_Flag.T8 : Bool × List (List Nat × List Nat) := (true, [([], []), ([], []), ([1], [1]), ([], []), ([3], [3]), ([4], [4]), ([2, 5], [2, 5]), ([6], [6]), ([0, 0], [0]), ([7, 8, 0, 1, 2, 3, 4, 5, 6, 7, 8], [7])])
def uR04_Flag.B8 : List Nat := [0, 0, 2, 0, 8, 24, 62, 126, 1, 511]
def uR04_End.f (a0_0 : ByteArray) (a0_1 : Int) (a0_2 : Int) (a0_3 : Int) (a0_4 : Int) (a0_5 : ByteArray) (a0_6 : Bool) : Option (ByteArray × Int × Int × Int × Int × ByteArray × Bool) := if a0_2 = 0 then (if a0_1 < (a0_0.size : Int) then ((uR04_fail.f a0_0 a0_1 a0_2 a0_3 a0_4 a0_5 a0_6 a0_1 3).bind fun bt259 => (some (bt259.1, bt259.2.1, bt259.2.2.1, bt259.2.2.2.1, bt259.2.2.2.2.1, bt259.2.2.2.2.2.1, bt259.2.2.2.2.2.2))) else (some (a0_0, a0_1, a0_2, a0_3, a0_4, a0_5, a0_6))) else (some (a0_0, a0_1, a0_2, a0_3, a0_4, a0_5, a0_6))
theorem uR04_End.calls (a0_0 : ByteArray) (a0_1 : Int) (a0_2 : Int) (a0_3 : Int) (a0_4 : Int) (a0_5 : ByteArray) (a0_6 : Bool) (r1 : ByteArray) (r2 : Int) (r3 : Int) (r4 : Int) (r5 : Int) (r6 : ByteArray) (r7 : Bool) (w : World) (h : uR04_End.f a0_0 a0_1 a0_2 a0_3 a0_4 a0_5 a0_6 = some (r1, r2, r3, r4, r5, r6, r7)) :
 Calls Tryd.prog 33 #[.agg #[.string a0_0, .int .i64 a0_1, .int .i64 a0_2, .int .i64 a0_3, .int .i64 a0_4, .string a0_5, .bool a0_6]] w fun e w' => e = .returned (.agg #[.string r1, .int .i64 r2, .int .i64 r3, .int .i64 r4, .int .i64 r5, .string r6, .bool r7]) ∧ Below w.heap.size w w' := by
 have hu81 := Tryd.underlying81
 have HB := ak_ (Below.refl w.heap.size w)
 have H : (if a0_2 = 0 then (if a0_1 < (a0_0.size : Int) then ((uR04_fail.f a0_0 a0_1 a0_2 a0_3 a0_4 a0_5 a0_6 a0_1 3).bind fun bt259 => (some (bt259.1, bt259.2.1, bt259.2.2.1, bt259.2.2.2.1, bt259.2.2.2.2.1, bt259.2.2.2.2.2.1, bt259.2.2.2.2.2.2))) else (some (a0_0, a0_1, a0_2, a0_3, a0_4, a0_5, a0_6))) else (some (a0_0, a0_1, a0_2, a0_3, a0_4, a0_5, a0_6))) = some (r1, r2, r3, r4, r5, r6, r7) := h
 clear h
 by_cases c2 : a0_2 = 0
 · rw [if_pos c2] at H
   have c2b0 : (a0_2 == 0) = true := beq_iff_eq.mpr c2
   have c2b1 : (a0_2 != 0) = false := bne_eq_false_iff_eq.mpr c2
   clear c2
   have HF3 := ak_ H
   clear H
   go_enter Tryd.func33, Tryd.ntmps33
   go_upto_if 13 with (first | ((with_reducible refine gate_dst (N := 1) rfl ?_); (try (refine gate_guard (by rfl) ?_; dsimp only)); refine box_event ?hg (N := 1) ?hd (cs := #[.string a0_0, .int .i64 a0_1, .int .i64 a0_2, .int .i64 a0_3, .int .i64 a0_4, .string a0_5, .bool a0_6]) (t := 81) ?hr ?_; (case hd | hg => rfl); (case hr => first | (go_simp; done) | (go_simp; rfl)); intro gb257 hg w4 hbox hb; have n0_ := ak_ (ps (by with_reducible repeat first | exact HB.out | apply pa | apply pd | apply pe) hb); have n1_ := ak_ (hbox); have n2_ := ak_ ((by rw [hg]; exact (below_size (by with_reducible repeat first | exact HB.out | apply pa | apply pd | apply pe)) : w.heap.size ≤ gb257)); have n3_ := ak_ ((by rw [hg]; exact (below_size (by with_reducible repeat first | exact HB.out | apply pa | apply pd | apply pe)) : w.heap.size ≤ gb257)); clear HB; have HB := n0_; have BK257 := n1_; have GW257 := n2_; have GE257 := n3_; clear n0_ n1_ n2_ n3_ hb hbox hg) | ((with_reducible refine gate_dst (N := 2) rfl ?_); (try (refine gate_guard (by rfl) ?_; dsimp only)); refine box_event ?hg (N := 2) ?hd (cs := #[.string ⟨#[]⟩, .int .i64 0, .int .i64 0, .int .i64 0, .int .i64 0, .string ⟨#[]⟩, .bool false]) (t := 81) ?hr ?_; (case hd | hg => rfl); (case hr => first | (go_simp; done) | (go_simp; rfl)); intro gb258 hg w5 hbox hb; have n0_ := ak_ (blk_below (g := gb257) (o := .cells #[.string a0_0, .int .i64 a0_1, .int .i64 a0_2, .int .i64 a0_3, .int .i64 a0_4, .string a0_5, .bool a0_6] 81 (0, 0)) (by (with_reducible repeat (first | apply zn | apply zd | apply za)); exact BK257.out) hb); have n1_ := ak_ (ps (by with_reducible repeat first | exact HB.out | apply pa | apply pd | apply pe | refine zs ?_ GE257.out) hb); have n2_ := ak_ (hbox); have n3_ := ak_ ((by rw [hg]; exact (below_size (by with_reducible repeat first | exact HB.out | apply pa | apply pd | apply pe | refine zs ?_ GE257.out)) : w.heap.size ≤ gb258)); have n4_ := ak_ ((by rw [hg]; exact (below_size (by with_reducible repeat first | exact HB.out | apply pa | apply pd | apply pe | refine zs ?_ GE257.out)) : w.heap.size ≤ gb258)); have n5_ := ak_ ((by rw [hg]; exact Nat.ne_of_lt (blk_lt (g := gb257) (by (with_reducible repeat (first | apply zn | apply zd | apply za)); exact BK257.out)) : gb257 ≠ gb258)); have n6_ := ak_ ((by rw [hg]; exact Nat.ne_of_gt (blk_lt (g := gb257) (by (with_reducible repeat (first | apply zn | apply zd | apply za)); exact BK257.out)) : gb258 ≠ gb257)); clear BK257 HB; have BK257 := n0_; have HB := n1_; have BK258 := n2_; have GW258 := n3_; have GE258 := n4_; have NB257_258 := n5_; have NB258_257 := n6_; clear n0_ n1_ n2_ n3_ n4_ n5_ n6_ hb hbox hg; have hnb6 := NB257_258.out; have hnc6 := NB258_257.out; have hcz7_0 : w5.cell? ⟨gb257, 0, none⟩ = some (.string a0_0) := (zc BK257.out 0).trans rfl; have hcz7_1 : w5.cell? ⟨gb257, 1, none⟩ = some (.int .i64 a0_1) := (zc BK257.out 1).trans rfl; have hcz7_2 : w5.cell? ⟨gb257, 2, none⟩ = some (.int .i64 a0_2) := (zc BK257.out 2).trans rfl; have hcz7_3 : w5.cell? ⟨gb257, 3, none⟩ = some (.int .i64 a0_3) := (zc BK257.out 3).trans rfl; have hcz7_4 : w5.cell? ⟨gb257, 4, none⟩ = some (.int .i64 a0_4) := (zc BK257.out 4).trans rfl; have hcz7_5 : w5.cell? ⟨gb257, 5, none⟩ = some (.string a0_5) := (zc BK257.out 5).trans rfl; have hcz7_6 : w5.cell? ⟨gb257, 6, none⟩ = some (.bool a0_6) := (zc BK257.out 6).trans rfl; have hfz7_0 := zf BK257.out 0; have hfz7_1 := zf BK257.out 1; have hfz7_2 := zf BK257.out 2; have hfz7_3 := zf BK257.out 3; have hfz7_4 := zf BK257.out 4; have hfz7_5 := zf BK257.out 5; have hfz7_6 := zf BK257.out 6))
   (try simp only [Act.put, sa_, sz_, ss_])
   have H := HF3.out
   clear HF3
   by_cases c8 : a0_1 < (a0_0.size : Int)
   · rw [if_pos c8] at H
     have c8b0 : decide (a0_1 < (a0_0.size : Int)) = true := dt_ c8
     clear c8
     (first | rw [c8b0] | (simp only [i64_w, i32_w]; rw [c8b0]) | skip)
     replace H := ob_ H
     obtain ⟨⟨t259, t260, t261, t262, t263, t264, t265⟩, A90, H⟩ := H
     replace H : (some (t259, t260, t261, t262, t263, t264, t265)) = some (r1, r2, r3, r4, r5, r6, r7) := H
     have A9 := ak_ A90
     clear A90
     simp only [Option.some.injEq, Prod.mk.injEq] at H
     obtain ⟨rfl, rfl, rfl, rfl, rfl, rfl, rfl⟩ := H
     have hnb10 := NB257_258.out
     have hnc10 := NB258_257.out
     have hcz11_0 : w5.cell? ⟨gb257, 0, none⟩ = some (.string a0_0) := (zc BK257.out 0).trans rfl
     have hcz11_1 : w5.cell? ⟨gb257, 1, none⟩ = some (.int .i64 a0_1) := (zc BK257.out 1).trans rfl
     have hcz11_2 : w5.cell? ⟨gb257, 2, none⟩ = some (.int .i64 a0_2) := (zc BK257.out 2).trans rfl
     have hcz11_3 : w5.cell? ⟨gb257, 3, none⟩ = some (.int .i64 a0_3) := (zc BK257.out 3).trans rfl
     have hcz11_4 : w5.cell? ⟨gb257, 4, none⟩ = some (.int .i64 a0_4) := (zc BK257.out 4).trans rfl
     have hcz11_5 : w5.cell? ⟨gb257, 5, none⟩ = some (.string a0_5) := (zc BK257.out 5).trans rfl
     have hcz11_6 : w5.cell? ⟨gb257, 6, none⟩ = some (.bool a0_6) := (zc BK257.out 6).trans rfl
     have hfz11_0 := zf BK257.out 0
     have hfz11_1 := zf BK257.out 1
     have hfz11_2 := zf BK257.out 2
     have hfz11_3 := zf BK257.out 3
     have hfz11_4 := zf BK257.out 4
     have hfz11_5 := zf BK257.out 5
     have hfz11_6 := zf BK257.out 6
     go_wp2_with (first | ((with_reducible refine gate_callee (f := 62) rfl ?_); refine goesL_ (some 17) rfl rfl Tryd.func62 (by kernel_rfl) rfl #[.agg #[.string a0_0, .int .i64 a0_1, .int .i64 a0_2, .int .i64 a0_3, .int .i64 a0_4, .string a0_5, .bool a0_6], .int .i64 a0_1, .int .i64 3] rfl (by (try simp only [mt_, mc_, mn_]); first | done | rfl) ?_; (with_reducible refine (uR04_fail.calls a0_0 a0_1 a0_2 a0_3 a0_4 a0_5 a0_6 a0_1 3 t259 t260 t261 t262 t263 t264 t265 _ A9.out).mono ?_); rintro e w12 ⟨rfl, hb⟩; refine ⟨_, rfl, ?_⟩; have n0_ := ak_ (blk_below (g := gb257) (o := .cells #[.string a0_0, .int .i64 a0_1, .int .i64 a0_2, .int .i64 a0_3, .int .i64 a0_4, .string a0_5, .bool a0_6] 81 (0, 0)) (by (with_reducible repeat (first | apply zn | apply zd | apply za)); exact BK257.out) hb); have n1_ := ak_ (blk_below (g := gb258) (o := .cells #[.string ⟨#[]⟩, .int .i64 0, .int .i64 0, .int .i64 0, .int .i64 0, .string ⟨#[]⟩, .bool false] 81 (0, 0)) (by (with_reducible repeat (first | apply zn | apply zd | apply za)); exact BK258.out) hb); have n2_ := ak_ (ps (by with_reducible repeat first | exact HB.out | apply pa | apply pd | apply pe | refine zs ?_ GE257.out | refine zs ?_ GE258.out) hb); clear BK257 BK258 HB; have BK257 := n0_; have BK258 := n1_; have HB := n2_; clear n0_ n1_ n2_; have hcz13_0 : w12.cell? ⟨gb258, 0, none⟩ = some (.string ⟨#[]⟩) := (zc BK258.out 0).trans rfl; have hcz13_1 : w12.cell? ⟨gb258, 1, none⟩ = some (.int .i64 0) := (zc BK258.out 1).trans rfl; have hcz13_2 : w12.cell? ⟨gb258, 2, none⟩ = some (.int .i64 0) := (zc BK258.out 2).trans rfl; have hcz13_3 : w12.cell? ⟨gb258, 3, none⟩ = some (.int .i64 0) := (zc BK258.out 3).trans rfl; have hcz13_4 : w12.cell? ⟨gb258, 4, none⟩ = some (.int .i64 0) := (zc BK258.out 4).trans rfl; have hcz13_5 : w12.cell? ⟨gb258, 5, none⟩ = some (.string ⟨#[]⟩) := (zc BK258.out 5).trans rfl; have hcz13_6 : w12.cell? ⟨gb258, 6, none⟩ = some (.bool false) := (zc BK258.out 6).trans rfl; have hfz13_0 := zf BK258.out 0; have hfz13_1 := zf BK258.out 1; have hfz13_2 := zf BK258.out 2; have hfz13_3 := zf BK258.out 3; have hfz13_4 := zf BK258.out 4; have hfz13_5 := zf BK258.out 5; have hfz13_6 := zf BK258.out 6))
     refine bodyPost_ret (results_cell_row rfl _ _ gb258 81 #[.string t259, .int .i64 t260, .int .i64 t261, .int .i64 t262, .int .i64 t263, .string t264, .bool t265] (0, 0) _ rfl (by (with_reducible repeat (first | apply zn | apply zd | apply za)); refine zp (cs := #[.string t259, .int .i64 t260, .int .i64 t261, .int .i64 t262, .int .i64 t263, .string t264, .bool false]) ?_ 6 _ rfl; (with_reducible repeat (first | apply zn | apply zd | apply za)); refine zp (cs := #[.string t259, .int .i64 t260, .int .i64 t261, .int .i64 t262, .int .i64 t263, .string ⟨#[]⟩, .bool false]) ?_ 5 _ rfl; (with_reducible repeat (first | apply zn | apply zd | apply za)); refine zp (cs := #[.string t259, .int .i64 t260, .int .i64 t261, .int .i64 t262, .int .i64 0, .string ⟨#[]⟩, .bool false]) ?_ 4 _ rfl; (with_reducible repeat (first | apply zn | apply zd | apply za)); refine zp (cs := #[.string t259, .int .i64 t260, .int .i64 t261, .int .i64 0, .int .i64 0, .string ⟨#[]⟩, .bool false]) ?_ 3 _ rfl; (with_reducible repeat (first | apply zn | apply zd | apply za)); refine zp (cs := #[.string t259, .int .i64 t260, .int .i64 0, .int .i64 0, .int .i64 0, .string ⟨#[]⟩, .bool false]) ?_ 2 _ rfl; (with_reducible repeat (first | apply zn | apply zd | apply za)); refine zp (cs := #[.string t259, .int .i64 0, .int .i64 0, .int .i64 0, .int .i64 0, .string ⟨#[]⟩, .bool false]) ?_ 1 _ rfl; (with_reducible repeat (first | apply zn | apply zd | apply za)); refine zp (cs := #[.string ⟨#[]⟩, .int .i64 0, .int .i64 0, .int .i64 0, .int .i64 0, .string ⟨#[]⟩, .bool false]) ?_ 0 _ rfl; (with_reducible repeat (first | apply zn | apply zd | apply za)); exact BK258.out) Tryd.underlying81 rfl (by kernel_rfl)) rfl ?_
     exact ⟨by first | rfl | simp [*], by repeat (first | (with_reducible first | exact HB.out | apply pa | apply pd | apply pe | refine zs ?_ GE257.out | refine zs ?_ GE258.out) | exact HB.out)⟩
   rw [if_neg c8] at H
   have c8b0 : decide (a0_1 < (a0_0.size : Int)) = false := df_ c8
   clear c8
   (first | rw [c8b0] | (simp only [i64_w, i32_w]; rw [c8b0]) | skip)
   simp only [Option.some.injEq, Prod.mk.injEq] at H
   obtain ⟨rfl, rfl, rfl, rfl, rfl, rfl, rfl⟩ := H
   have hnb14 := NB257_258.out
   have hnc14 := NB258_257.out
   have hcz15_0 : w5.cell? ⟨gb257, 0, none⟩ = some (.string a0_0) := (zc BK257.out 0).trans rfl
   have hcz15_1 : w5.cell? ⟨gb257, 1, none⟩ = some (.int .i64 a0_1) := (zc BK257.out 1).trans rfl
   have hcz15_2 : w5.cell? ⟨gb257, 2, none⟩ = some (.int .i64 a0_2) := (zc BK257.out 2).trans rfl
   have hcz15_3 : w5.cell? ⟨gb257, 3, none⟩ = some (.int .i64 a0_3) := (zc BK257.out 3).trans rfl
   have hcz15_4 : w5.cell? ⟨gb257, 4, none⟩ = some (.int .i64 a0_4) := (zc BK257.out 4).trans rfl
   have hcz15_5 : w5.cell? ⟨gb257, 5, none⟩ = some (.string a0_5) := (zc BK257.out 5).trans rfl
   have hcz15_6 : w5.cell? ⟨gb257, 6, none⟩ = some (.bool a0_6) := (zc BK257.out 6).trans rfl
   have hfz15_0 := zf BK257.out 0
   have hfz15_1 := zf BK257.out 1
   have hfz15_2 := zf BK257.out 2
   have hfz15_3 := zf BK257.out 3
   have hfz15_4 := zf BK257.out 4
   have hfz15_5 := zf BK257.out 5
   have hfz15_6 := zf BK257.out 6
   have hcz16_0 : w5.cell? ⟨gb258, 0, none⟩ = some (.string ⟨#[]⟩) := (zc BK258.out 0).trans rfl
   have hcz16_1 : w5.cell? ⟨gb258, 1, none⟩ = some (.int .i64 0) := (zc BK258.out 1).trans rfl
   have hcz16_2 : w5.cell? ⟨gb258, 2, none⟩ = some (.int .i64 0) := (zc BK258.out 2).trans rfl
   have hcz16_3 : w5.cell? ⟨gb258, 3, none⟩ = some (.int .i64 0) := (zc BK258.out 3).trans rfl
   have hcz16_4 : w5.cell? ⟨gb258, 4, none⟩ = some (.int .i64 0) := (zc BK258.out 4).trans rfl
   have hcz16_5 : w5.cell? ⟨gb258, 5, none⟩ = some (.string ⟨#[]⟩) := (zc BK258.out 5).trans rfl
   have hcz16_6 : w5.cell? ⟨gb258, 6, none⟩ = some (.bool false) := (zc BK258.out 6).trans rfl
   have hfz16_0 := zf BK258.out 0
   have hfz16_1 := zf BK258.out 1
   have hfz16_2 := zf BK258.out 2
   have hfz16_3 := zf BK258.out 3
   have hfz16_4 := zf BK258.out 4
   have hfz16_5 := zf BK258.out 5
   have hfz16_6 := zf BK258.out 6
   go_wp2
   refine bodyPost_ret (results_cell_row rfl _ _ gb258 81 #[.string a0_0, .int .i64 a0_1, .int .i64 a0_2, .int .i64 a0_3, .int .i64 a0_4, .string a0_5, .bool a0_6] (0, 0) _ rfl (by (with_reducible repeat (first | apply zn | apply zd | apply za)); refine zp (cs := #[.string a0_0, .int .i64 a0_1, .int .i64 a0_2, .int .i64 a0_3, .int .i64 a0_4, .string a0_5, .bool false]) ?_ 6 _ rfl; (with_reducible repeat (first | apply zn | apply zd | apply za)); refine zp (cs := #[.string a0_0, .int .i64 a0_1, .int .i64 a0_2, .int .i64 a0_3, .int .i64 a0_4, .string ⟨#[]⟩, .bool false]) ?_ 5 _ rfl; (with_reducible repeat (first | apply zn | apply zd | apply za)); refine zp (cs := #[.string a0_0, .int .i64 a0_1, .int .i64 a0_2, .int .i64 a0_3, .int .i64 0, .string ⟨#[]⟩, .bool false]) ?_ 4 _ rfl; (with_reducible repeat (first | apply zn | apply zd | apply za)); refine zp (cs := #[.string a0_0, .int .i64 a0_1, .int .i64 a0_2, .int .i64 0, .int .i64 0, .string ⟨#[]⟩, .bool false]) ?_ 3 _ rfl; (with_reducible repeat (first | apply zn | apply zd | apply za)); refine zp (cs := #[.string a0_0, .int .i64 a0_1, .int .i64 0, .int .i64 0, .int .i64 0, .string ⟨#[]⟩, .bool false]) ?_ 2 _ rfl; (with_reducible repeat (first | apply zn | apply zd | apply za)); refine zp (cs := #[.string a0_0, .int .i64 0, .int .i64 0, .int .i64 0, .int .i64 0, .string ⟨#[]⟩, .bool false]) ?_ 1 _ rfl; (with_reducible repeat (first | apply zn | apply zd | apply za)); refine zp (cs := #[.string ⟨#[]⟩, .int .i64 0, .int .i64 0, .int .i64 0, .int .i64 0, .string ⟨#[]⟩, .bool false]) ?_ 0 _ rfl; (with_reducible repeat (first | apply zn | apply zd | apply za)); exact BK258.out) Tryd.underlying81 rfl (by kernel_rfl)) rfl ?_
   exact ⟨by first | rfl | simp [*], by repeat (first | (with_reducible first | exact HB.out | apply pa | apply pd | apply pe | refine zs ?_ GE257.out | refine zs ?_ GE258.out) | exact HB.out)⟩
 rw [if_neg c2] at H
 have c2b0 : (a0_2 == 0) = false := beq_eq_false_iff_ne.mpr c2
 have c2b1 : (a0_2 != 0) = true := bne_iff_ne.mpr c2
 simp only [Option.some.injEq, Prod.mk.injEq] at H
 obtain ⟨rfl, rfl, rfl, rfl, rfl, rfl, rfl⟩ := H
 go_enter Tryd.func33, Tryd.ntmps33
 go_wp2_with (first | ((with_reducible refine gate_dst (N := 1) rfl ?_); (try (refine gate_guard (by rfl) ?_; dsimp only)); refine box_event ?hg (N := 1) ?hd (cs := #[.string a0_0, .int .i64 a0_1, .int .i64 a0_2, .int .i64 a0_3, .int .i64 a0_4, .string a0_5, .bool a0_6]) (t := 81) ?hr ?_; (case hd | hg => rfl); (case hr => first | (go_simp; done) | (go_simp; rfl)); intro gb257 hg w17 hbox hb; have n0_ := ak_ (ps (by with_reducible repeat first | exact HB.out | apply pa | apply pd | apply pe) hb); have n1_ := ak_ (hbox); have n2_ := ak_ ((by rw [hg]; exact (below_size (by with_reducible repeat first | exact HB.out | apply pa | apply pd | apply pe)) : w.heap.size ≤ gb257)); have n3_ := ak_ ((by rw [hg]; exact (below_size (by with_reducible repeat first | exact HB.out | apply pa | apply pd | apply pe)) : w.heap.size ≤ gb257)); clear HB; have HB := n0_; have BK257 := n1_; have GW257 := n2_; have GE257 := n3_; clear n0_ n1_ n2_ n3_ hb hbox hg) | ((with_reducible refine gate_dst (N := 2) rfl ?_); (try (refine gate_guard (by rfl) ?_; dsimp only)); refine box_event ?hg (N := 2) ?hd (cs := #[.string ⟨#[]⟩, .int .i64 0, .int .i64 0, .int .i64 0, .int .i64 0, .string ⟨#[]⟩, .bool false]) (t := 81) ?hr ?_; (case hd | hg => rfl); (case hr => first | (go_simp; done) | (go_simp; rfl)); intro gb258 hg w18 hbox hb; have n0_ := ak_ (blk_below (g := gb257) (o := .cells #[.string a0_0, .int .i64 a0_1, .int .i64 a0_2, .int .i64 a0_3, .int .i64 a0_4, .string a0_5, .bool a0_6] 81 (0, 0)) (by (with_reducible repeat (first | apply zn | apply zd | apply za)); exact BK257.out) hb); have n1_ := ak_ (ps (by with_reducible repeat first | exact HB.out | apply pa | apply pd | apply pe | refine zs ?_ GE257.out) hb); have n2_ := ak_ (hbox); have n3_ := ak_ ((by rw [hg]; exact (below_size (by with_reducible repeat first | exact HB.out | apply pa | apply pd | apply pe | refine zs ?_ GE257.out)) : w.heap.size ≤ gb258)); have n4_ := ak_ ((by rw [hg]; exact (below_size (by with_reducible repeat first | exact HB.out | apply pa | apply pd | apply pe | refine zs ?_ GE257.out)) : w.heap.size ≤ gb258)); have n5_ := ak_ ((by rw [hg]; exact Nat.ne_of_lt (blk_lt (g := gb257) (by (with_reducible repeat (first | apply zn | apply zd | apply za)); exact BK257.out)) : gb257 ≠ gb258)); have n6_ := ak_ ((by rw [hg]; exact Nat.ne_of_gt (blk_lt (g := gb257) (by (with_reducible repeat (first | apply zn | apply zd | apply za)); exact BK257.out)) : gb258 ≠ gb257)); clear BK257 HB; have BK257 := n0_; have HB := n1_; have BK258 := n2_; have GW258 := n3_; have GE258 := n4_; have NB257_258 := n5_; have NB258_257 := n6_; clear n0_ n1_ n2_ n3_ n4_ n5_ n6_ hb hbox hg; have hnb19 := NB257_258.out; have hnc19 := NB258_257.out; have hcz20_0 : w18.cell? ⟨gb257, 0, none⟩ = some (.string a0_0) := (zc BK257.out 0).trans rfl; have hcz20_1 : w18.cell? ⟨gb257, 1, none⟩ = some (.int .i64 a0_1) := (zc BK257.out 1).trans rfl; have hcz20_2 : w18.cell? ⟨gb257, 2, none⟩ = some (.int .i64 a0_2) := (zc BK257.out 2).trans rfl; have hcz20_3 : w18.cell? ⟨gb257, 3, none⟩ = some (.int .i64 a0_3) := (zc BK257.out 3).trans rfl; have hcz20_4 : w18.cell? ⟨gb257, 4, none⟩ = some (.int .i64 a0_4) := (zc BK257.out 4).trans rfl; have hcz20_5 : w18.cell? ⟨gb257, 5, none⟩ = some (.string a0_5) := (zc BK257.out 5).trans rfl; have hcz20_6 : w18.cell? ⟨gb257, 6, none⟩ = some (.bool a0_6) := (zc BK257.out 6).trans rfl; have hfz20_0 := zf BK257.out 0; have hfz20_1 := zf BK257.out 1; have hfz20_2 := zf BK257.out 2; have hfz20_3 := zf BK257.out 3; have hfz20_4 := zf BK257.out 4; have hfz20_5 := zf BK257.out 5; have hfz20_6 := zf BK257.out 6; have hcz21_0 : w18.cell? ⟨gb258, 0, none⟩ = some (.string ⟨#[]⟩) := (zc BK258.out 0).trans rfl; have hcz21_1 : w18.cell? ⟨gb258, 1, none⟩ = some (.int .i64 0) := (zc BK258.out 1).trans rfl; have hcz21_2 : w18.cell? ⟨gb258, 2, none⟩ = some (.int .i64 0) := (zc BK258.out 2).trans rfl; have hcz21_3 : w18.cell? ⟨gb258, 3, none⟩ = some (.int .i64 0) := (zc BK258.out 3).trans rfl; have hcz21_4 : w18.cell? ⟨gb258, 4, none⟩ = some (.int .i64 0) := (zc BK258.out 4).trans rfl; have hcz21_5 : w18.cell? ⟨gb258, 5, none⟩ = some (.string ⟨#[]⟩) := (zc BK258.out 5).trans rfl; have hcz21_6 : w18.cell? ⟨gb258, 6, none⟩ = some (.bool false) := (zc BK258.out 6).trans rfl; have hfz21_0 := zf BK258.out 0; have hfz21_1 := zf BK258.out 1; have hfz21_2 := zf BK258.out 2; have hfz21_3 := zf BK258.out 3; have hfz21_4 := zf BK258.out 4; have hfz21_5 := zf BK258.out 5; have hfz21_6 := zf BK258.out 6))
 refine bodyPost_ret (results_cell_row rfl _ _ gb258 81 #[.string a0_0, .int .i64 a0_1, .int .i64 a0_2, .int .i64 a0_3, .int .i64 a0_4, .string a0_5, .bool a0_6] (0, 0) _ rfl (by (with_reducible repeat (first | apply zn | apply zd | apply za)); refine zp (cs := #[.string a0_0, .int .i64 a0_1, .int .i64 a0_2, .int .i64 a0_3, .int .i64 a0_4, .string a0_5, .bool false]) ?_ 6 _ rfl; (with_reducible repeat (first | apply zn | apply zd | apply za)); refine zp (cs := #[.string a0_0, .int .i64 a0_1, .int .i64 a0_2, .int .i64 a0_3, .int .i64 a0_4, .string ⟨#[]⟩, .bool false]) ?_ 5 _ rfl; (with_reducible repeat (first | apply zn | apply zd | apply za)); refine zp (cs := #[.string a0_0, .int .i64 a0_1, .int .i64 a0_2, .int .i64 a0_3, .int .i64 0, .string ⟨#[]⟩, .bool false]) ?_ 4 _ rfl; (with_reducible repeat (first | apply zn | apply zd | apply za)); refine zp (cs := #[.string a0_0, .int .i64 a0_1, .int .i64 a0_2, .int .i64 0, .int .i64 0, .string ⟨#[]⟩, .bool false]) ?_ 3 _ rfl; (with_reducible repeat (first | apply zn | apply zd | apply za)); refine zp (cs := #[.string a0_0, .int .i64 a0_1, .int .i64 0, .int .i64 0, .int .i64 0, .string ⟨#[]⟩, .bool false]) ?_ 2 _ rfl; (with_reducible repeat (first | apply zn | apply zd | apply za)); refine zp (cs := #[.string a0_0, .int .i64 0, .int .i64 0, .int .i64 0, .int .i64 0, .string ⟨#[]⟩, .bool false]) ?_ 1 _ rfl; (with_reducible repeat (first | apply zn | apply zd | apply za)); refine zp (cs := #[.string ⟨#[]⟩, .int .i64 0, .int .i64 0, .int .i64 0, .int .i64 0, .string ⟨#[]⟩, .bool false]) ?_ 0 _ rfl; (with_reducible repeat (first | apply zn | apply zd | apply za)); exact BK258.out) Tryd.underlying81 rfl (by kernel_rfl)) rfl ?_
 exact ⟨by first | rfl | simp [*], by repeat (first | (with_reducible first | exact HB.out | apply pa | apply pd | apply pe | refine zs ?_ GE257.out | refine zs ?_ GE258.out) | exact HB.out)⟩
def BB (b : List Int) : Prop := ∀ x ∈ b, 0 ≤ x ∧ x ≤ 255
theorem rd_BB {b : List Int} (h : BB b) (i : Int) : 0 ≤ rd b i ∧ rd b i ≤ 255 := by
  unfold rd
  rw [List.getD_eq_getElem?_getD]
  cases hq : b[i.toNat]? with
  | none => simp
  | some y => exact h y (List.mem_of_getElem? hq)
theorem bt_str {b : List Int} (h : BB b) (i : Int) : bt (strOfNums b) i = rd b i := by
  have hr := rd_BB h i
  unfold bt rd at *
  have hs : (strOfNums b).size = b.length := by simp [strOfNums, ByteArray.size]
  by_cases hi : i.toNat < b.length
  · rw [dif_pos (by rw [hs]; exact hi)]
    rw [List.getD_eq_getElem?_getD, List.getElem?_eq_getElem hi] at *
    simp only [Option.getD_some] at *
    have : ((strOfNums b)[i.toNat]'(by rw [hs]; exact hi)) = UInt8.ofNat (b[i.toNat]).toNat := by
      simp [strOfNums, ByteArray.getElem_eq_getElem_data]
    rw [this, UInt8.toNat_ofNat']
    omega
  · rw [dif_neg (by rw [hs]; exact hi), List.getD_eq_getElem?_getD, List.getElem?_eq_none (by omega)]
    rfl
theorem str_ext (b : List Int) (i j : Nat) : (strOfNums b).extract i j = strOfNums ((b.take j).drop i) := by
  apply ByteArray.ext
  simp [strOfNums, List.extract, ByteArray.data_extract, List.drop_take, List.map_drop, List.map_take]
theorem vstep_eq (v c : Int) (h0 : 0 ≤ v) (h1 : v < 72057594037927936) (c0 : 0 ≤ c) (c1 : c ≤ 255) : vstep v c = 256 * v + c := by
  unfold vstep
  rw [show (v * 256) % 18446744073709551616 = v * 256 by omega, show c % 18446744073709551616 = c by omega]
  rw [bits_join .u64 64 (by decide) (fun n a b => by have e : ∀ x : Int, IntKind.u64.wrap x = x % 18446744073709551616 := fun x => by simp [IntKind.wrap, IntKind.bits, IntKind.signed]
                                                     rw [e]; omega) 8 (v * 256) c (by omega) (by omega) (by omega) c0 (by omega) (by omega)]
  omega
theorem seg8 (b : List Int) (n : Nat) (h : n + 8 ≤ b.length) : (b.take (n + 8)).drop n = [rd b n, rd b (n + 1 : Nat), rd b (n + 2 : Nat), rd b (n + 3 : Nat), rd b (n + 4 : Nat), rd b (n + 5 : Nat), rd b (n + 6 : Nat), rd b (n + 7 : Nat)] := by
  have e : ∀ m : Nat, m < b.length → b.drop m = rd b (m : Int) :: b.drop (m + 1) := fun m hm => by
    rw [List.drop_eq_getElem_cons hm]
    unfold rd
    rw [Int.toNat_natCast, List.getD_eq_getElem?_getD, List.getElem?_eq_getElem hm]
    rfl
  rw [List.drop_take, show n + 8 - n = 8 by omega, e n (by omega), e (n + 1) (by omega), e (n + 2) (by omega), e (n + 3) (by omega), e (n + 4) (by omega), e (n + 5) (by omega), e (n + 6) (by omega), e (n + 7) (by omega)]
  simp
theorem seg7 (b : List Int) (n : Nat) (h : n + 8 ≤ b.length) : (b.take (n + 8)).drop (n + 1) = [rd b (n + 1 : Nat), rd b (n + 2 : Nat), rd b (n + 3 : Nat), rd b (n + 4 : Nat), rd b (n + 5 : Nat), rd b (n + 6 : Nat), rd b (n + 7 : Nat)] := by
  rw [← List.drop_drop, seg8 b n h]
  rfl
theorem vfold8 (c0 c1 c2 c3 c4 c5 c6 c7 : Int) (h0 : 0 ≤ c0 ∧ c0 ≤ 255) (h1 : 0 ≤ c1 ∧ c1 ≤ 255) (h2 : 0 ≤ c2 ∧ c2 ≤ 255) (h3 : 0 ≤ c3 ∧ c3 ≤ 255) (h4 : 0 ≤ c4 ∧ c4 ≤ 255) (h5 : 0 ≤ c5 ∧ c5 ≤ 255) (h6 : 0 ≤ c6 ∧ c6 ≤ 255) (h7 : 0 ≤ c7 ∧ c7 ≤ 255) :
    vfold [c0, c1, c2, c3, c4, c5, c6, c7] = 256 * (256 * (256 * (256 * (256 * (256 * (256 * (256 * 0 + c0) + c1) + c2) + c3) + c4) + c5) + c6) + c7 := by
  unfold vfold
  simp only [List.foldl]
  rw [vstep_eq 0 c0 (by omega) (by omega) h0.1 h0.2, vstep_eq _ c1 (by omega) (by omega) h1.1 h1.2, vstep_eq _ c2 (by omega) (by omega) h2.1 h2.2, vstep_eq _ c3 (by omega) (by omega) h3.1 h3.2, vstep_eq _ c4 (by omega) (by omega) h4.1 h4.2, vstep_eq _ c5 (by omega) (by omega) h5.1 h5.2, vstep_eq _ c6 (by omega) (by omega) h6.1 h6.2, vstep_eq _ c7 (by omega) (by omega) h7.1 h7.2]
theorem take_step {b : List Int} (hB : BB b) (hl : b.length ≤ 100000) (n : Nat) (h : n + 8 ≤ b.length) (e o N : Int) (S : ByteArray) (Y : Bool) (k : Nat) (p : Int) (j : Nat) (j8 : j < 8) (p0 : 0 ≤ p) (p1 : 256 * p + rd b (n + j : Nat) ≤ 4611686018427387904) :
    uR04_Take.l0 (k + 1) p (j : Int) (strOfNums b) n e o N S Y = uR04_Take.l0 k (256 * p + rd b (n + j : Nat)) ((j + 1 : Nat) : Int) (strOfNums b) n e o N S Y := by
  have hr := rd_BB hB (n + j : Nat)
  have hs : ((strOfNums b).size : Int) = b.length := by simp [strOfNums, ByteArray.size]
  have e1 : wrap64 ((n : Int) + (j : Int)) = ((n + j : Nat) : Int) := by unfold wrap64; omega
  have e2 : wrap64 (256 * p) = 256 * p := by unfold wrap64; omega
  have e3 : wrap64 ((j : Int) + 1) = ((j + 1 : Nat) : Int) := by unfold wrap64; omega
  have e4 : wrap64 (rd b (n + j : Nat)) = rd b (n + j : Nat) := by unfold wrap64; omega
  have e5 : wrap64 (256 * p + rd b (n + j : Nat)) = 256 * p + rd b (n + j : Nat) := by unfold wrap64; omega
  rw [uR04_Take.l0, if_pos (by omega), hs, e1, if_pos (by omega), if_pos (by omega), bt_str hB, e2, e3, e4, e5]
theorem take_nums {b : List Int} (hB : BB b) (hl : b.length ≤ 100000) (n : Nat) (h : n + 8 ≤ b.length) (k : Nat) (hv : vfold ((b.take (n + 8)).drop n) ≤ 4611686018427387904) (e o N : Int) (S : ByteArray) (Y : Bool) :
    uR04_Take.l0 (k + 9) 0 0 (strOfNums b) n e o N S Y = some (strOfNums b, (n : Int) + 8, e, o, N, S, Y, vfold ((b.take (n + 8)).drop n)) := by
  rw [seg8 b n h] at *
  have r0 := rd_BB hB n
  have r1 := rd_BB hB (n + 1 : Nat)
  have r2 := rd_BB hB (n + 2 : Nat)
  have r3 := rd_BB hB (n + 3 : Nat)
  have r4 := rd_BB hB (n + 4 : Nat)
  have r5 := rd_BB hB (n + 5 : Nat)
  have r6 := rd_BB hB (n + 6 : Nat)
  have r7 := rd_BB hB (n + 7 : Nat)
  have s := take_step hB hl n h e o N S Y
  rw [vfold8 _ _ _ _ _ _ _ _ r0 r1 r2 r3 r4 r5 r6 r7] at *
  refine (s (k + 8) 0 0 (by omega) (by omega) (by simp only [Nat.add_zero]; omega)).trans ?_
  refine (s (k + 7) _ 1 (by omega) (by simp only [Nat.add_zero]; omega) (by simp only [Nat.add_zero]; omega)).trans ?_
  refine (s (k + 6) _ 2 (by omega) (by simp only [Nat.add_zero]; omega) (by simp only [Nat.add_zero]; omega)).trans ?_
  refine (s (k + 5) _ 3 (by omega) (by simp only [Nat.add_zero]; omega) (by simp only [Nat.add_zero]; omega)).trans ?_
  refine (s (k + 4) _ 4 (by omega) (by simp only [Nat.add_zero]; omega) (by simp only [Nat.add_zero]; omega)).trans ?_
  refine (s (k + 3) _ 5 (by omega) (by simp only [Nat.add_zero]; omega) (by simp only [Nat.add_zero]; omega)).trans ?_
  refine (s (k + 2) _ 6 (by omega) (by simp only [Nat.add_zero]; omega) (by simp only [Nat.add_zero]; omega)).trans ?_
  refine (s (k + 1) _ 7 (by omega) (by simp only [Nat.add_zero]; omega) (by simp only [Nat.add_zero]; omega)).trans ?_
  rw [uR04_Take.l0, if_neg (by omega), show wrap64 ((n : Int) + 8) = (n : Int) + 8 by unfold wrap64; omega]
  rfl
theorem take_eq {b : List Int} {a fa fe : Int} (hB : BB b) (h : Rd b a fa fe) (k : Nat) (N : Int) (S : ByteArray) (Y : Bool) : ∃ r a' f' e', fR_Num.f b a fa fe = some (r, a', f', e') ∧ Rd b a' f' e' ∧ uR04_Take.f (k + 10) (strOfNums b) a fe fa N S Y = some (strOfNums b, a', e', f', N, S, Y, r) ∧ (fe ≠ 0 → e' ≠ 0) ∧ 0 ≤ r ∧ r ≤ 4611686018427387904 := by
  obtain ⟨r, a', f', e', hn, hr, hz, q0, q1⟩ := num_step h
  refine ⟨r, a', f', e', hn, hr, ?_, fun he => by have := (hz he).2.2; omega, q0, q1⟩
  · have hl := h.len; have h0 := h.a0; have h1 := h.a1
    unfold fR_Num.f at hn
    unfold uR04_Take.f
    rw [h.ok] at hn
    obtain ⟨n, rfl⟩ := Int.eq_ofNat_of_zero_le h0
    have hs : ((strOfNums b).size : Int) = b.length := by simp [strOfNums, ByteArray.size]
    have w1 : wrap64 ((b.length : Int) - n) = (b.length : Int) - n := by unfold wrap64; omega
    have w2 : wrap64 ((n : Int) + 1) = ((n + 1 : Nat) : Int) := by unfold wrap64; omega
    have w3 : wrap64 ((n : Int) + 8) = ((n + 8 : Nat) : Int) := by unfold wrap64; omega
    have fl : ∀ x y e, uR04_fail.f (strOfNums b) x y fa N S Y n e = some (strOfNums b, (n : Int), e, (n : Int), N, S, Y) := fun _ _ _ => rfl
    rw [hs, w1, w2, w3]
    rw [w1] at hn
    by_cases he : fe = 0
    · subst he
      rw [if_pos (dt_ rfl)] at hn
      rw [if_pos rfl]
      by_cases hsh : (b.length : Int) - n < 8
      · rw [if_pos hsh] at hn ⊢
        simp only [Option.some.injEq, Prod.mk.injEq] at hn
        obtain ⟨rfl, rfl, rfl, rfl⟩ := hn
        first | rfl | (intro hh; omega)
      · rw [if_neg hsh] at hn ⊢
        rw [if_pos ⟨h0, by omega⟩, show ((n : Int) + 8).toNat = n + 8 by omega, Int.toNat_natCast] at hn
        rw [if_pos h0, if_pos (by omega), bt_str hB]
        have hlen : n + 8 ≤ b.length := by omega
        have r0 := rd_BB hB n
        have r1 := rd_BB hB (n + 1 : Nat)
        have r2 := rd_BB hB (n + 2 : Nat)
        have r3 := rd_BB hB (n + 3 : Nat)
        have r4 := rd_BB hB (n + 4 : Nat)
        have r5 := rd_BB hB (n + 5 : Nat)
        have r6 := rd_BB hB (n + 6 : Nat)
        have r7 := rd_BB hB (n + 7 : Nat)
        have hV := vfold8 _ _ _ _ _ _ _ _ r0 r1 r2 r3 r4 r5 r6 r7
        rw [← seg8 b n hlen] at hV
        have hT := fun k hv => take_nums hB hl n hlen k hv 0 fa N S Y
        have hx : ((strOfNums b).extract (((n + 1 : Nat) : Int)).toNat (((n + 8 : Nat) : Int)).toNat).toList = [UInt8.ofNat (rd b (n + 1 : Nat)).toNat, UInt8.ofNat (rd b (n + 2 : Nat)).toNat, UInt8.ofNat (rd b (n + 3 : Nat)).toNat, UInt8.ofNat (rd b (n + 4 : Nat)).toNat, UInt8.ofNat (rd b (n + 5 : Nat)).toNat, UInt8.ofNat (rd b (n + 6 : Nat)).toNat, UInt8.ofNat (rd b (n + 7 : Nat)).toNat] := by
          rw [Int.toNat_natCast, Int.toNat_natCast, str_ext, seg7 b n hlen, ByteArray.toList_eq]
          rfl
        rw [hx]
        clear hx w2 w3
        generalize vfold ((b.take (n + 8)).drop n) = v at *
        generalize rd b n = c0 at *
        generalize rd b (n + 1 : Nat) = c1 at *
        generalize rd b (n + 2 : Nat) = c2 at *
        generalize rd b (n + 3 : Nat) = c3 at *
        generalize rd b (n + 4 : Nat) = c4 at *
        generalize rd b (n + 5 : Nat) = c5 at *
        generalize rd b (n + 6 : Nat) = c6 at *
        generalize rd b (n + 7 : Nat) = c7 at *
        have j1 : uR04_Take.j0 (k + 10) true (strOfNums b) n 0 fa N S Y = some (strOfNums b, (n : Int), 4, (n : Int), N, S, Y, 0) := by
          rw [uR04_Take.j0, if_pos rfl]
          rfl
        have j2 : v ≤ 4611686018427387904 → uR04_Take.j0 (k + 10) false (strOfNums b) n 0 fa N S Y = some (strOfNums b, (n : Int) + 8, 0, fa, N, S, Y, v) := fun hv => by
          rw [uR04_Take.j0, if_neg (by decide)]
          exact hT k hv
        by_cases hv : v > 4611686018427387904
        · rw [if_pos hv] at hn
          simp only [Option.some.injEq, Prod.mk.injEq] at hn
          obtain ⟨rfl, rfl, rfl, rfl⟩ := hn
          first
          | (intro hh; omega)
          | (split
             · exact j1
             · split
               · rw [if_pos (by omega), if_pos (by omega), if_pos (by omega)]
                 have hne : ¬ (c1 = 0 ∧ c2 = 0 ∧ c3 = 0 ∧ c4 = 0 ∧ c5 = 0 ∧ c6 = 0 ∧ c7 = 0) := by omega
                 have z : ∀ c : Int, 0 ≤ c ∧ c ≤ 255 → UInt8.ofNat c.toNat = 0 → c = 0 := fun c hc h => by
                   have := congrArg UInt8.toNat h
                   rw [UInt8.toNat_ofNat'] at this
                   simp at this
                   omega
                 rw [show (([UInt8.ofNat c1.toNat, UInt8.ofNat c2.toNat, UInt8.ofNat c3.toNat, UInt8.ofNat c4.toNat, UInt8.ofNat c5.toNat, UInt8.ofNat c6.toNat, UInt8.ofNat c7.toNat] : List UInt8) != [0, 0, 0, 0, 0, 0, 0]) = true from by
                   rw [bne_iff_ne]
                   intro hq
                   simp only [List.cons.injEq, and_true] at hq
                   obtain ⟨q1, q2, q3, q4, q5, q6, q7⟩ := hq
                   exact hne ⟨z _ r1 q1, z _ r2 q2, z _ r3 q3, z _ r4 q4, z _ r5 q5, z _ r6 q6, z _ r7 q7⟩]
                 exact j1
               · omega)
        · rw [if_neg hv] at hn
          have w4 : wrap64 v = v := by unfold wrap64; omega
          rw [w4] at hn
          simp only [Option.some.injEq, Prod.mk.injEq] at hn
          obtain ⟨rfl, rfl, rfl, rfl⟩ := hn
          first
          | (intro hh; omega)
          | (rw [if_neg (by omega)]
             split
             · rw [if_pos (by omega), if_pos (by omega), if_pos (by omega)]
               have z1 : c1 = 0 := by omega
               have z2 : c2 = 0 := by omega
               have z3 : c3 = 0 := by omega
               have z4 : c4 = 0 := by omega
               have z5 : c5 = 0 := by omega
               have z6 : c6 = 0 := by omega
               have z7 : c7 = 0 := by omega
               subst z1 z2 z3 z4 z5 z6 z7
               exact j2 (by omega)
             · exact j2 (by omega))
    · rw [if_neg (by rw [df_ he]; decide)] at hn
      simp only [Option.some.injEq, Prod.mk.injEq] at hn
      obtain ⟨rfl, rfl, rfl, rfl⟩ := hn
      first
      | (intro hh; omega)
      | rw [if_neg he]
theorem text_eq {b : List Int} {a fa fe : Int} (hB : BB b) (h : Rd b a fa fe) (k : Nat) (N : Int) (S : ByteArray) (Y : Bool) (m : Int) : ∃ r a' f' e', fR_Text.f b a fa fe m = some (r, a', f', e') ∧ Rd b a' f' e' ∧ uR04_Text.f (k + 10) (strOfNums b) a fe fa N S Y m = some (strOfNums b, a', e', f', N, S, Y, r) := by
  obtain ⟨n, a1, f1, e1, hn, hr, ht, hz, n0, n1⟩ := take_eq hB h k N S Y
  unfold fR_Text.f uR04_Text.f
  rw [hn, ht, bs_, bs_]
  dsimp only
  rw [hr.ok]
  have hl := hr.len; have h0 := hr.a0; have h1 := hr.a1
  have hs : ((strOfNums b).size : Int) = b.length := by simp [strOfNums, ByteArray.size]
  by_cases he : e1 = 0
  · rw [if_pos (dt_ he), if_pos he]
    by_cases hm : n > m
    · rw [if_pos hm, if_pos hm]
      exact ⟨_, _, _, _, rfl, ⟨h.len, h.a0, h.a1, fun h => by omega⟩, rfl⟩
    · rw [if_neg hm, if_neg hm, hs]
      have e2 : wrap64 ((b.length : Int) - a1) = (b.length : Int) - a1 := by unfold wrap64; omega
      rw [e2]
      by_cases hsh : n > (b.length : Int) - a1
      · rw [if_pos hsh, if_pos hsh]
        exact ⟨_, _, _, _, rfl, ⟨h.len, h.a0, h.a1, fun h => by omega⟩, rfl⟩
      · have e3 : wrap64 (a1 + n) = a1 + n := by unfold wrap64; omega
        rw [if_neg hsh, if_neg hsh, if_pos ⟨h0, n0, by omega⟩, if_pos h0, e3, if_pos (by omega), if_pos (by omega)]
        exact ⟨_, _, _, _, rfl, ⟨hl, by omega, by omega, hr.e0⟩, by rw [str_ext]⟩
  · rw [if_neg (by rw [df_ he]; decide), if_neg he]
    exact ⟨_, _, _, _, rfl, hr, rfl⟩
theorem end_eq {b : List Int} {a fa fe : Int} (h : Rd b a fa fe) (k : Nat) (N : Int) (S : ByteArray) (Y : Bool) : ∃ r a' f' e', fR_End.f (k + 1) b a fa fe = some (r, a', f', e') ∧ Rd b a' f' e' ∧ uR04_End.f (strOfNums b) a fe fa N S Y = some (strOfNums b, a', e', f', N, S, Y) ∧ r = decide (e' = 0) := by
  unfold fR_End.f uR04_End.f
  rw [okR_f, bs_]
  dsimp only
  have hl := h.len; have h0 := h.a0; have h1 := h.a1
  have hk := h.ok
  have hs : ((strOfNums b).size : Int) = b.length := by simp [strOfNums, ByteArray.size]
  by_cases he : fe = 0
  · rw [dt_ he] at hk
    have e1 : wrap64 ((b.length : Int) - a) = (b.length : Int) - a := by unfold wrap64; omega
    rw [if_pos hk, if_pos he, leftR_f, bs_]
    dsimp only
    rw [fR_End.j0, e1, hs]
    by_cases hp : a < (b.length : Int)
    · rw [if_pos (dt_ (show (b.length : Int) - a > 0 by omega)), if_pos hp, fail_ok hk, bs_, okR_f, bs_]
      exact ⟨_, _, _, _, rfl, ⟨h.len, h.a0, h.a1, fun h => by simp at h⟩, rfl, by dsimp only [okR]; simp⟩
    · rw [if_neg (by rw [df_ (show ¬ (b.length : Int) - a > 0 by omega)]; decide), if_neg hp, okR_f, bs_]
      exact ⟨_, _, _, _, rfl, h, rfl, h.ok⟩
  · rw [df_ he] at hk
    rw [if_neg (by rw [hk]; decide), if_neg he, fR_End.j0, if_neg (by decide), okR_f, bs_]
    exact ⟨_, _, _, _, rfl, h, rfl, h.ok⟩
mutual
def uR04_Num.j0 : Nat → Int → Option (ByteArray)
 | 0, _ => none
 | k + 1, x0 => if x0 > 4611686018427387904 then (uR04_Num.j1 k 4611686018427387904) else (uR04_Num.j1 k x0)
def uR04_Num.j1 : Nat → Int → Option (ByteArray)
 | 0, _ => none
 | k + 1, x0 => uR04_Num.l0 k x0 (⟨#[]⟩ : ByteArray) 0
def uR04_Num.l0 : Nat → Int → ByteArray → Int → Option (ByteArray)
 | 0, _, _, _ => none
 | k + 1, x0, x3, x4 => if x4 < 8 then ((some (([(Int.tmod x0 256) % 256] : List Int) : List Int)).bind fun y115 => (if (strOfNums y115).size + x3.size ≤ 9223372036854775807 then (uR04_Num.l0 k (wrap64 (Int.tdiv x0 256)) ((strOfNums y115) ++ x3) (wrap64 (x4 + 1))) else (none))) else (some x3)
end
def uR04_Num.f (k : Nat) (a0 : Int) : Option (ByteArray) := if a0 < 0 then (uR04_Num.j0 k 0) else (uR04_Num.j0 k a0)
theorem uR04_Num.calls (k : Nat) (a0 : Int) (r : ByteArray) (w : World) (h : uR04_Num.f k a0 = some r) :
 Calls Tryd.prog 25 #[.int .i64 a0] w fun e w' => e = .returned (.string r) ∧ Below w.heap.size w w' := by
 have HB := ak_ (Below.refl w.heap.size w)
 have H : (if a0 < 0 then (uR04_Num.j0 k 0) else (uR04_Num.j0 k a0)) = some r := h
 clear h
 have HC2 := ak_ H
 clear H
 go_enter Tryd.func25, Tryd.ntmps25
 go_upto_if 6 with (fail)
 go_cut [0] (fun v0 wc => ∃ (kq : Nat) (x0_1 : Int), v0 = .int .i64 x0_1 ∧ Aside0 (uR04_Num.j0 kq x0_1 = some r) ∧ Aside0 (kq ≤ k) ∧ Aside0 (Below w.heap.size w wc))
 case first =>
  have H := HC2.out
  clear HC2
  by_cases c3 : a0 < 0
  · rw [if_pos c3] at H
    have c3b0 : decide (a0 < 0) = true := dt_ c3
    clear c3
    (first | rw [c3b0] | (simp only [i64_w, i32_w]; rw [c3b0]) | skip)
    have H' := ak_ H
    clear H
    go_wp2
    go_meet
    case rel => exact ⟨_, (0), (by first | rfl | simp [*]), H', ⟨by first | omega | exact Nat.le_refl _⟩, ⟨by repeat (first | (with_reducible first | exact HB.out | apply pa | apply pd | apply pe) | exact HB.out)⟩⟩
  rw [if_neg c3] at H
  have c3b0 : decide (a0 < 0) = false := df_ c3
  clear c3
  (first | rw [c3b0] | (simp only [i64_w, i32_w]; rw [c3b0]) | skip)
  have H' := ak_ H
  clear H
  go_wp2
  go_meet
  case rel => exact ⟨_, (a0), (by first | rfl | simp [*]), H', ⟨by first | omega | exact Nat.le_refl _⟩, ⟨by repeat (first | (with_reducible first | exact HB.out | apply pa | apply pd | apply pe) | exact HB.out)⟩⟩
 case rest =>
  clear HC2
  try clear c2
  try clear p2
  try clear c3
  try clear c3b0
  obtain ⟨kq, x0_1, rfl, HA, HJ1, HB⟩ := hcut
  cases kq with
  | zero => exact absurd HA.out (by simp [uR04_Num.j0])
  | succ kj1 =>
   have H := HA.out
   clear HA
   simp only [uR04_Num.j0] at H
   have HC4 := ak_ H
   clear H
   go_upto_if 8 with (fail)
   go_cut [0] (fun v0 wc => ∃ (kq : Nat) (x0_3 : Int), v0 = .int .i64 x0_3 ∧ Aside0 (uR04_Num.j1 kq x0_3 = some r) ∧ Aside0 (kq ≤ kj1) ∧ Aside0 (Below w.heap.size w wc))
   case first =>
    have H := HC4.out
    clear HC4
    by_cases c5 : x0_1 > 4611686018427387904
    · rw [if_pos c5] at H
      have c5b0 : decide (4611686018427387904 < x0_1) = true := dt_ c5
      clear c5
      (first | rw [c5b0] | (simp only [i64_w, i32_w]; rw [c5b0]) | skip)
      have H' := ak_ H
      clear H
      go_wp2
      go_meet
      case rel => exact ⟨_, (4611686018427387904), (by first | rfl | simp [*]), H', ⟨by have := HJ1.out; first | omega | exact Nat.le_refl _⟩, ⟨by repeat (first | (with_reducible first | exact HB.out | apply pa | apply pd | apply pe) | exact HB.out)⟩⟩
    rw [if_neg c5] at H
    have c5b0 : decide (4611686018427387904 < x0_1) = false := df_ c5
    clear c5
    (first | rw [c5b0] | (simp only [i64_w, i32_w]; rw [c5b0]) | skip)
    have H' := ak_ H
    clear H
    go_wp2
    go_meet
    case rel => exact ⟨_, (x0_1), (by first | rfl | simp [*]), H', ⟨by have := HJ1.out; first | omega | exact Nat.le_refl _⟩, ⟨by repeat (first | (with_reducible first | exact HB.out | apply pa | apply pd | apply pe) | exact HB.out)⟩⟩
   case rest =>
    clear HC4
    try clear c2
    try clear p2
    try clear c3
    try clear c3b0
    try clear c5
    try clear c5b0
    try clear p2
    obtain ⟨kq, x0_3, rfl, HA, HJ3, HB⟩ := hcut
    cases kq with
    | zero => exact absurd HA.out (by simp [uR04_Num.j1])
    | succ kj3 =>
     have H := HA.out
     clear HA
     simp only [uR04_Num.j1] at H
     have H' := ak_ H
     clear H
     go_wp2
     go_loopg [0, 3, 4] kj3 (fun kq v0 v3 v4 w' => ∃ (x0_3 : Int) (x3_3 : ByteArray) (x4_3 : Int), v0 = .int .i64 x0_3 ∧ v3 = .string x3_3 ∧ v4 = .int .i64 x4_3 ∧ Aside0 (uR04_Num.l0 kq x0_3 x3_3 x4_3 = some r) ∧ Aside0 (kq ≤ kj3) ∧ Aside0 (Below w.heap.size w w'))
     case atStart => exact ⟨(x0_3), ((⟨#[]⟩ : ByteArray)), (0), (by first | rfl | simp [*]), (by first | rfl | simp [*]), (by first | rfl | simp [*]), H', ⟨Nat.le_refl _⟩, ⟨by repeat (first | (with_reducible first | exact HB.out | apply pa | apply pd | apply pe) | exact HB.out)⟩⟩
     case round =>
      clear H'
      try clear c2
      try clear p2
      try clear c3
      try clear c3b0
      try clear c5
      try clear c5b0
      try clear p2
      obtain ⟨x0_3, x3_3, x4_3, rfl, rfl, rfl, HA, HK3, HB⟩ := hrel
      cases gk with
      | zero => exact absurd HA.out (by simp [uR04_Num.l0])
      | succ k3 =>
       have H := HA.out
       clear HA
       simp only [uR04_Num.l0] at H
       have HF6 := ak_ H
       clear H
       go_upto_if 10 with (fail)
       have H := HF6.out
       clear HF6
       by_cases c7 : x4_3 < 8
       · rw [if_pos c7] at H
         have c7b0 : decide (x4_3 < 8) = true := dt_ c7
         clear c7
         (first | rw [c7b0] | (simp only [i64_w, i32_w]; rw [c7b0]) | skip)
         obtain ⟨y115, hy115⟩ : ∃ y_ : List Int, y_ = (([(Int.tmod x0_3 256) % 256] : List Int)) := ⟨_, rfl⟩
         replace H : (if (strOfNums y115).size + x3_3.size ≤ 9223372036854775807 then (uR04_Num.l0 k3 (wrap64 (Int.tdiv x0_3 256)) ((strOfNums y115) ++ x3_3) (wrap64 (x4_3 + 1))) else (none)) = some r := by first | (rw [hy115]; with_reducible exact H) | (have H2_ := (Option.bind_some _ _).symm.trans H; rw [hy115]; with_reducible exact H2_) | (have H2_ := (Option.bind_some _ _).symm.trans H; with_reducible exact H2_) | with_reducible exact H | (rw [hy115]; exact H) | exact H
         have Ny115 := ak_ hy115
         clear hy115
         by_cases c8 : (strOfNums y115).size + x3_3.size ≤ 9223372036854775807
         · rw [if_pos c8] at H
           have c8b0 := eq_true c8
           have c8b1 : decide ((strOfNums y115).size + x3_3.size ≤ 9223372036854775807) = true := dt_ c8
           try have c8b2 : (9223372036854775807 < (strOfNums y115).size + x3_3.size) = False := eq_false (Nat.not_lt.2 c8)
           have H' := ak_ H
           clear H
           go_wp2_with (first | ((with_reducible refine gate_dst (N := 16) rfl ?_); refine Kd.R_lit (Kd.int .u8) _ 5 ?hg (N := 16) ?hd (xs := ([(Int.tmod x0_3 256) % 256] : List Int)) (inner := [.int .u8 ((Int.tmod x0_3 256) % 256)]) (ok := fun _ => True) (okp := fun _ => True) ?hr ?hp (fun _ hk => hk) trivial (Below.refl _ _) (Nat.le_refl _) (by simp) ?_; (case hd | hg => rfl); (case hr => first | (go_simp; done) | (go_simp; rfl)); (case hp => exact (Reps.one (show Kd.M (Kd.int .u8) _ _ _ ((Int.tmod x0_3 256) % 256) [.int .u8 ((Int.tmod x0_3 256) % 256)] from rfl) (Reps.none _ _))); intro v116 w9 ho10 hb hg_ hnew_; clear hg_ hnew_; (first | rw [← Ny115.out] at ho10 | (simp only [Int.reduceToNat] at ho10; rw [← Ny115.out] at ho10)); have n0_ := ak_ (Kd.R_lower ho10 (below_size (by with_reducible repeat first | exact HB.out | apply pa | apply pd | apply pe))); have n1_ := ak_ (ps (by with_reducible repeat first | exact HB.out | apply pa | apply pd | apply pe) hb); clear HB; have HO117 := n0_; have HB := n1_; clear n0_ n1_ hb ho10; have hcv11 := own_string (P := Tryd.prog) Tryd.underlying25 Tryd.underlying5 Tryd.underlying9 (Kd.own_of_R HO117.out)))
           go_roundg k3
           case measure => have := HJ1.out; have := HJ3.out; have := HK3.out; omega
           case rel => exact ⟨(wrap64 (Int.tdiv x0_3 256)), ((strOfNums y115) ++ x3_3), (wrap64 (x4_3 + 1)), (by first | rfl | simp [*]), (by first | rfl | simp [*]), (by first | rfl | simp [*]), H', ⟨by have := HJ1.out; have := HJ3.out; have := HK3.out; omega⟩, ⟨by repeat (first | (with_reducible first | exact HB.out | apply pa | apply pd | apply pe) | exact HB.out)⟩⟩
         rw [if_neg c8] at H
         exact absurd H (by simp)
       rw [if_neg c7] at H
       have c7b0 : decide (x4_3 < 8) = false := df_ c7
       clear c7
       (first | rw [c7b0] | (simp only [i64_w, i32_w]; rw [c7b0]) | skip)
       obtain rfl := Option.some.inj H
       go_wp2
       go_ret
       exact ⟨by first | rfl | simp [*], by repeat (first | (with_reducible first | exact HB.out | apply pa | apply pd | apply pe) | exact HB.out)⟩
theorem strOfNums_append (xs ys : List Int) : strOfNums (xs ++ ys) = strOfNums xs ++ strOfNums ys := by
  apply ByteArray.ext
  simp [strOfNums]
theorem strOfNums_bytesOf (s : ByteArray) : strOfNums (bytesOf s) = s := by
  apply ByteArray.ext
  unfold strOfNums bytesOf
  apply Array.ext'
  simp only [List.map_map]
  conv => rhs; rw [← List.map_id s.data.toList]
  apply List.map_congr_left
  intro c _
  simp [Function.comp]
theorem strOfNums_len (xs : List Int) : (strOfNums xs).size = xs.length := by simp [strOfNums, ByteArray.size]
theorem clampN_range (n : Int) : 0 ≤ clampN n ∧ clampN n ≤ 4611686018427387904 := by
  unfold clampN mn mx
  split <;> split <;> omega
theorem nbs8 (m : Int) : nbs m 8 = [m / 256 / 256 / 256 / 256 / 256 / 256 / 256 % 256, m / 256 / 256 / 256 / 256 / 256 / 256 % 256, m / 256 / 256 / 256 / 256 / 256 % 256, m / 256 / 256 / 256 / 256 % 256, m / 256 / 256 / 256 % 256, m / 256 / 256 % 256, m / 256 % 256, m % 256] := by
  have e : ∀ x : Int, IntKind.u8.wrap x = x % 256 := IntKind.wrap_u8
  have h : nbs m 8 = [nb m 7, nb m 6, nb m 5, nb m 4, nb m 3, nb m 2, nb m 1, nb m 0] := rfl
  rw [h]
  have n7 : nb m 7 = m / 72057594037927936 % 256 := by unfold nb; rw [e]; rfl
  have n6 : nb m 6 = m / 281474976710656 % 256 := by unfold nb; rw [e]; rfl
  have n5 : nb m 5 = m / 1099511627776 % 256 := by unfold nb; rw [e]; rfl
  have n4 : nb m 4 = m / 4294967296 % 256 := by unfold nb; rw [e]; rfl
  have n3 : nb m 3 = m / 16777216 % 256 := by unfold nb; rw [e]; rfl
  have n2 : nb m 2 = m / 65536 % 256 := by unfold nb; rw [e]; rfl
  have n1 : nb m 1 = m / 256 % 256 := by unfold nb; rw [e]; rfl
  have n0 : nb m 0 = m / 1 % 256 := by unfold nb; rw [e]; rfl
  rw [n7, n6, n5, n4, n3, n2, n1, n0]
  have a7 : m / 256 / 256 / 256 / 256 / 256 / 256 / 256 = m / 72057594037927936 := by omega
  have a6 : m / 256 / 256 / 256 / 256 / 256 / 256 = m / 281474976710656 := by omega
  have a5 : m / 256 / 256 / 256 / 256 / 256 = m / 1099511627776 := by omega
  have a4 : m / 256 / 256 / 256 / 256 = m / 4294967296 := by omega
  have a3 : m / 256 / 256 / 256 = m / 16777216 := by omega
  have a2 : m / 256 / 256 = m / 65536 := by omega
  rw [a7, a6, a5, a4, a3, a2, Int.ediv_one]
theorem nbs_len (m : Int) (j : Nat) : (nbs m j).length = j := by simp [nbs]
theorem vfold_nbs (m : Int) (h0 : 0 ≤ m) (h1 : m ≤ 4611686018427387904) : vfold (nbs m 8) = m := by
  rw [nbs8, vfold8 _ _ _ _ _ _ _ _ (by omega) (by omega) (by omega) (by omega) (by omega) (by omega) (by omega) (by omega)]
  omega
theorem num_round (k : Nat) (x : Int) (s : ByteArray) (j : Nat) (hj : j < 8) (hs : s.size ≤ 100) (h0 : 0 ≤ x) (h1 : x ≤ 4611686018427387904) :
    uR04_Num.l0 (k + 1) x s (j : Int) = uR04_Num.l0 k (x / 256) (strOfNums [x % 256] ++ s) ((j + 1 : Nat) : Int) := by
  rw [uR04_Num.l0, if_pos (by omega), bs_]
  have e1 : Int.tmod x 256 % 256 = x % 256 := by rw [Int.tmod_eq_emod_of_nonneg h0]; omega
  have e2 : Int.tdiv x 256 = x / 256 := Int.tdiv_eq_ediv_of_nonneg h0
  have e3 : wrap64 (x / 256) = x / 256 := by unfold wrap64; omega
  have e4 : wrap64 ((j : Int) + 1) = ((j + 1 : Nat) : Int) := by unfold wrap64; omega
  rw [e1, e2, e3, e4, if_pos (by rw [strOfNums_len]; simp; omega)]
theorem ref_num (k : Nat) (n : Int) : uR04_Num.f (k + 11) n = some (strOfNums (nbs (clampN n) 8)) := by
  have hm := clampN_range n
  have key : ∀ k m : _, 0 ≤ m → m ≤ 4611686018427387904 → uR04_Num.j1 (k + 10) m = some (strOfNums (nbs m 8)) := by
    intro k m h0 h1
    rw [uR04_Num.j1]
    have hz : (⟨#[]⟩ : ByteArray).size ≤ 100 := by decide
    have ha : ∀ (c : Int) (s : ByteArray) (q : Nat), s.size ≤ q → (strOfNums [c] ++ s).size ≤ q + 1 := fun c s q h => by
      rw [ByteArray.size_append, strOfNums_len]
      simp
      omega
    have s0 : (⟨#[]⟩ : ByteArray).size ≤ 0 := Nat.le_refl _
    have s1 := ha (m % 256) _ _ s0
    have s2 := ha (m / 256 % 256) _ _ s1
    have s3 := ha (m / 256 / 256 % 256) _ _ s2
    have s4 := ha (m / 256 / 256 / 256 % 256) _ _ s3
    have s5 := ha (m / 256 / 256 / 256 / 256 % 256) _ _ s4
    have s6 := ha (m / 256 / 256 / 256 / 256 / 256 % 256) _ _ s5
    have s7 := ha (m / 256 / 256 / 256 / 256 / 256 / 256 % 256) _ _ s6
    refine (num_round (k + 8) m _ 0 (by omega) (Nat.le_trans s0 (by omega)) (by omega) (by omega)).trans ?_
    refine (num_round (k + 7) _ _ 1 (by omega) (Nat.le_trans s1 (by omega)) (by omega) (by omega)).trans ?_
    refine (num_round (k + 6) _ _ 2 (by omega) (Nat.le_trans s2 (by omega)) (by omega) (by omega)).trans ?_
    refine (num_round (k + 5) _ _ 3 (by omega) (Nat.le_trans s3 (by omega)) (by omega) (by omega)).trans ?_
    refine (num_round (k + 4) _ _ 4 (by omega) (Nat.le_trans s4 (by omega)) (by omega) (by omega)).trans ?_
    refine (num_round (k + 3) _ _ 5 (by omega) (Nat.le_trans s5 (by omega)) (by omega) (by omega)).trans ?_
    refine (num_round (k + 2) _ _ 6 (by omega) (Nat.le_trans s6 (by omega)) (by omega) (by omega)).trans ?_
    refine (num_round (k + 1) _ _ 7 (by omega) (Nat.le_trans s7 (by omega)) (by omega) (by omega)).trans ?_
    rw [uR04_Num.l0, if_neg (by omega), nbs8]
    congr 1
  unfold uR04_Num.f
  have hj : ∀ x : Int, 0 ≤ x → uR04_Num.j0 (k + 11) x = some (strOfNums (nbs (if x > 4611686018427387904 then 4611686018427387904 else x) 8)) := by
    intro x hx
    rw [uR04_Num.j0]
    split
    · exact key k _ (by omega) (by omega)
    · exact key k _ (by omega) (by omega)
  by_cases h : n < 0
  · rw [if_pos h, hj 0 (by omega), if_neg (by omega)]
    congr 3
    unfold clampN mn mx
    rw [if_pos h]
    rfl
  · rw [if_neg h, hj n (by omega)]
    congr 3
    unfold clampN mn mx
    rw [if_neg h]
theorem seg_at (p q r : List Int) : ((p ++ q ++ r).take (p.length + q.length)).drop p.length = q := by
  rw [show p.length + q.length = (p ++ q).length by simp, List.take_left' rfl, List.drop_left' rfl]
theorem num_back (p q : List Int) (m : Int) (h0 : 0 ≤ m) (h1 : m ≤ 4611686018427387904) (hl : (p ++ nbs m 8 ++ q).length ≤ 100000) :
    fR_Num.f (p ++ nbs m 8 ++ q) (p.length : Int) 0 0 = some (m, ((p.length + 8 : Nat) : Int), 0, 0) := by
  have hlen : (p ++ nbs m 8 ++ q).length = p.length + 8 + q.length := by simp [nbs_len]; omega
  unfold fR_Num.f
  rw [show okR 0 0 = true from rfl, if_pos rfl, hlen]
  have e1 : wrap64 (((p.length + 8 + q.length : Nat) : Int) - (p.length : Int)) = 8 + (q.length : Int) := by unfold wrap64; omega
  rw [e1, if_neg (by omega), if_pos (by omega)]
  have e2 : ((p.length : Int) + 8).toNat = p.length + (nbs m 8).length := by rw [nbs_len]; omega
  rw [e2, Int.toNat_natCast, seg_at, vfold_nbs m h0 h1, if_neg (by omega)]
  have e3 : wrap64 m = m := by unfold wrap64; omega
  rw [e3]
  rfl
theorem text_back (p q : List Int) (s : ByteArray) (most : Int) (hs : (s.size : Int) ≤ most) (hl : (p ++ (nbs (clampN s.size) 8 ++ bytesOf s) ++ q).length ≤ 100000) :
    fR_Text.f (p ++ (nbs (clampN s.size) 8 ++ bytesOf s) ++ q) (p.length : Int) 0 0 most = some (s, ((p.length + 8 + s.size : Nat) : Int), 0, 0) := by
  have hbl : (bytesOf s).length = s.size := bytesOf_length s
  have hlen : (p ++ (nbs (clampN s.size) 8 ++ bytesOf s) ++ q).length = p.length + 8 + s.size + q.length := by simp [nbs_len, hbl]; omega
  rw [hlen] at hl
  have hc : clampN s.size = s.size := by
    unfold clampN mn mx
    rw [if_neg (by omega), if_neg (by omega)]
  have e0 : p ++ (nbs (clampN s.size) 8 ++ bytesOf s) ++ q = p ++ nbs (clampN s.size) 8 ++ (bytesOf s ++ q) := by simp
  have hn := num_back p (bytesOf s ++ q) (clampN s.size) (by omega) (by omega) (by rw [← e0, hlen]; omega)
  unfold fR_Text.f
  rw [e0, hn, bs_]
  dsimp only
  rw [← e0, hlen, show okR 0 0 = true from rfl, if_pos rfl, hc, if_neg (by omega)]
  have e1 : wrap64 (((p.length + 8 + s.size + q.length : Nat) : Int) - ((p.length + 8 : Nat) : Int)) = (s.size : Int) + q.length := by unfold wrap64; omega
  rw [e1, if_neg (by omega), if_pos (by omega)]
  have e2 : (((p.length + 8 : Nat) : Int) + (s.size : Int)).toNat = (p ++ nbs (s.size : Int) 8).length + (bytesOf s).length := by simp [nbs_len, hbl]; omega
  have e3 : (((p.length + 8 : Nat) : Int)).toNat = (p ++ nbs (s.size : Int) 8).length := by rw [Int.toNat_natCast]; simp [nbs_len]
  have e4 : p ++ (nbs (s.size : Int) 8 ++ bytesOf s) ++ q = (p ++ nbs (s.size : Int) 8) ++ bytesOf s ++ q := by simp
  rw [e2, e3, e4, seg_at, strOfNums_bytesOf]
  congr 2
theorem end_back (p : List Int) (k : Nat) (hl : p.length ≤ 100000) : fR_End.f (k + 1) p (p.length : Int) 0 0 = some (true, (p.length : Int), 0, 0) := by
  unfold fR_End.f
  rw [okR_f, bs_]
  dsimp only
  rw [show okR 0 0 = true from rfl, if_pos rfl, leftR_f, bs_]
  dsimp only
  rw [show wrap64 ((p.length : Int) - (p.length : Int)) = 0 by unfold wrap64; omega, fR_End.j0, if_neg (by simp), okR_f, bs_]
  rfl
theorem infoB : (Tryd.prog.info? 5).map (fun i => (i.zero, i.size, i.bytes)) = some (some (.int .u8 0), 1, 1) := by kernel_rfl
def slices_Clone_byte_byte.f (l0 : List Int) : Option (List Int) := if l0.length < 140737488355328 then some l0 else none
theorem slices_Clone_byte_byte.calls (A0 : Option Addr) (c0 : Nat) (l0 : List Int) (r : List Int) (w : World) (hr0 : Kd.C (Kd.int .u8) w A0 l0.length l0) (hc0 : l0.length ≤ c0) (h : slices_Clone_byte_byte.f l0 = some r) :
 Calls Tryd.prog 52 #[.slice A0 l0.length c0] w fun e w' => ∃ v0_ : Value, e = .returned (v0_) ∧ Kd.R (Kd.int .u8) 5 w' w.heap.size (fun _ => True) v0_ r ∧ Below w.heap.size w w' := by
 unfold slices_Clone_byte_byte.f at h
 by_cases hl : l0.length < 140737488355328
 · rw [if_pos hl] at h
   obtain rfl := Option.some.inj h
   clear h
   have hHR := ak_ hr0
   have hHL := ak_ hl
   clear hl
   cases A0 with
   | none =>
    have h0 : l0 = [] := by
     by_cases hn : 0 < l0.length
     · obtain ⟨ad, e, _⟩ := hr0.2.2 hn
       cases e
     · exact List.length_eq_zero_iff.1 (by omega)
    subst h0
    clear hr0 hHR hHL hc0
    have he := fun W => Lib.run_eql_slice_nil (P := Tryd.prog) W 25 5 none 0 c0 0 0 Tryd.underlying25
    go_enter Tryd.func52, Tryd.ntmps52
    go_wp2
    go_ret
    exact ⟨_, rfl, Kd.R_nil _ _ _ _ _, Below.refl _ _⟩
   | some ad =>
    clear hr0 hc0
    have HB := ak_ (Below.refl w.heap.size w)
    have he := fun W => Lib.run_eql_slice_nil (P := Tryd.prog) W 25 5 (some ad) l0.length c0 0 0 Tryd.underlying25
    go_enter Tryd.func52, Tryd.ntmps52
    go_wp2_with (first | ((with_reducible refine gate_dst (N := 5) rfl ?_); refine Kd.R_lit (Kd.int .u8) w.heap.size 5 ?hg (N := 5) ?hd (xs := ([] : List Int)) (inner := []) (ok := fun _ => True) (okp := fun _ => True) ?hr ?hp (fun _ hk => hk) trivial (Below.refl _ _) (Nat.le_refl _) (by simp) ?_; (case hd | hg => rfl); (case hr => first | (go_simp; done) | (go_simp; rfl)); (case hp => exact (Reps.none _ _)); intro v1 w1 ho hb hg_ hnew_; clear hg_ hnew_; have HO := ak_ ho; have HB1 := ak_ hb; clear ho hb) | ((with_reducible refine gate_builtin (b := .append) (xs := #[.tmp 5, .tmp 6]) rfl ?_); at_builtin; refine Kd.R_append_rows (Kd.int .u8) (w0 := w) w.heap.size rfl (.tmp 5) (.tmp 6) 25 5 (.int .u8 0) 1 rfl Tryd.underlying25 infoB rfl (by decide) (by omega) v1 [] l0 _ _ _ (fun _ => True) (fun _ => False) rfl rfl HO.out (Kd.C_below hHR.out HB1.out) (fun _ _ h => h) (fun _ h => h.elim) (fun _ _ => trivial) HB1.out HB1.out.size ?aL ?_; (case aL => have := hHL.out; simp; omega); intro v2 w2 ho hb hg hat; have HO2 := ak_ ho; have HB2 := ak_ hb; clear ho hb hg hat))
    go_ret
    exact ⟨_, rfl, HO2.out, HB2.out⟩
 · rw [if_neg hl] at h
   cases h
theorem writer_Bytes.callsT (T : TypeId) (g : Nat) (v : Value) (xs : List Int) (w0 w : World) (hI : IsWT T w0 w g v xs) (hx : xs.length < 100000000) :
 Calls Tryd.prog 23 #[.pointer (some ⟨g, 0, none⟩)] w fun e w' => ∃ v0_ : Value, e = .returned v0_ ∧ Kd.R (Kd.int .u8) 5 w' w.heap.size (fun _ => True) v0_ xs ∧ IsWT T w0 w' g v xs ∧ Below w.heap.size w w' := by
 obtain ⟨hg, hge, hR⟩ := hI
 obtain ⟨A1, c1, e1⟩ := Kd.R_slice hR
 subst e1
 have HI := ak_ (show IsWT T w0 w g (.slice A1 xs.length c1) xs from ⟨hg, hge, hR⟩)
 have hc := (zc hg 0).trans rfl
 have hc' : w.cell? ⟨g, 0, none⟩ = some (.slice A1 xs.length c1) := (zc hg 0).trans rfl
 have HR := ak_ (Kd.R_reads' hR)
 have hcl := ak_ (show slices_Clone_byte_byte.f xs = some xs from by unfold slices_Clone_byte_byte.f; rw [if_pos (by omega)])
 clear hR hge hg hc
 go_enter Tryd.func23, Tryd.ntmps23
 go_wp2_with (first | (go_at_call 52; refine (slices_Clone_byte_byte.calls _ _ xs xs _ HR.out.2.2 HR.out.2.1 hcl.out).mono ?_; rintro e w1 ⟨v1, rfl, hR, hb⟩; have HO := ak_ hR; have HB1 := ak_ hb; clear hR hb))
 go_ret
 exact ⟨_, rfl, HO.out, ⟨blk_grown HI.out.1 (grown_of_below HB1.out none) (by simp), HI.out.2.1, Kd.R_below HI.out.2.2 HB1.out⟩, HB1.out⟩
def encN (ns : List Int) : List Int := ns.flatMap fun n => nbs (clampN n) 8
theorem encN_succ (ns : List Int) (j : Nat) (h : j < ns.length) : encN (ns.take (j + 1)) = encN (ns.take j) ++ nbs (clampN (rd ns (j : Int))) 8 := by
 have e : rd ns (j : Int) = ns[j] := by
  unfold rd
  rw [Int.toNat_natCast, List.getD_eq_getElem?_getD, List.getElem?_eq_getElem h]
  rfl
 rw [e]
 unfold encN
 rw [List.take_succ_eq_append_getElem h, List.flatMap_append]
 simp
theorem encN_len (ns : List Int) : (encN ns).length = 8 * ns.length := by
 unfold encN
 induction ns with
 | nil => rfl
 | cons a l ih => rw [List.flatMap_cons, List.length_append, ih]; simp [nbs]; omega
def ints (ns : List Int) : Array Value := (ns.map (Value.int .i64)).toArray
theorem writer_nums.calls (T : TypeId) (hT : 5 ≠ T) (hT3 : 3 ≠ T) (g : Nat) (v : Value) (xs : List Int) (b : Nat) (ns : List Int) (w0 w : World) (hI : IsWT T w0 w g v xs) (hB : Below w0.heap.size w0 w) (hb : w.heap[b]? = some (.cells (ints ns) 3 (0, 0)))
 (hn : ∀ n ∈ ns, -9223372036854775808 ≤ n ∧ n ≤ 9223372036854775807) (hx : xs.length + 8 * ns.length < 100000000) :
 Calls Tryd.prog 45 #[.pointer (some ⟨g, 0, none⟩), .slice (some ⟨b, 0, none⟩) ns.length ns.length] w fun e w' => ∃ v', e = .returned (.tuple #[]) ∧ IsWT T w0 w' g v' (xs ++ encN ns) ∧ Below w0.heap.size w0 w' ∧ KeepBut w w' g v.ownBlock ∧ OwnNext w v v' := by
 have HI := ak_ hI
 have HB := ak_ hB
 have HBL := ak_ hb
 have HNS := ak_ hn
 have HX := ak_ hx
 have HNE := ak_ (show b ≠ g from blk_ne hb hI.1 hT3)
 clear hI hB hb hn hx
 go_enter Tryd.func45, Tryd.ntmps45
 go_wp2
 go_loopw [8] (fun v8 W => ∃ (j : Nat) (u : Value), j ≤ ns.length ∧ v8 = .int .i64 (j : Int) ∧ Aside0 (IsWT T w0 W g u (xs ++ encN (ns.take j))) ∧ Aside0 (Below w0.heap.size w0 W) ∧ Aside0 (KeepBut w W g v.ownBlock) ∧ Aside0 (OwnNext w v u)) (fun v8 _ => ns.length - (intOf v8).toNat)
 case atStart => exact ⟨0, v, by omega, rfl, ⟨by have := HI.out; simpa [encN] using this⟩, HB, ⟨KeepBut.refl w g _⟩, ⟨.inl rfl⟩⟩
 case round =>
  have HRN := ak_ (Kd.R_ne HI.out.2.2 HBL.out (by decide))
  clear HI HB
  obtain ⟨j, u, hj, rfl, HI, HB, HK, HN⟩ := hrel
  by_cases hlt : j < ns.length
  · have HBW := ak_ (KeepBut.blk HK.out HBL.out HNE.out HRN.out)
    have HS := ak_ (encN_succ ns j hlt)
    have hc : wr.cell? ⟨b, j, none⟩ = some (.int .i64 (rd ns (j : Int))) := (zc HBW.out j).trans (by
     unfold ints rd
     rw [Int.toNat_natCast, List.getD_eq_getElem?_getD, List.getElem?_eq_getElem hlt]
     simp [hlt])
    have HM := ak_ (show -9223372036854775808 ≤ rd ns (j : Int) ∧ rd ns (j : Int) ≤ 9223372036854775807 from by
     unfold rd
     rw [Int.toNat_natCast, List.getD_eq_getElem?_getD, List.getElem?_eq_getElem hlt]
     exact HNS.out _ (List.getElem_mem hlt))
    have HL := ak_ (show (xs ++ encN (ns.take j)).length < 100000000 by have := HX.out; rw [List.length_append, encN_len, List.length_take]; omega)
    generalize rd ns (j : Int) = m at *
    have HW := ak_ (show wrap64 ((j : Int) + 1) = ((j + 1 : Nat) : Int) by unfold wrap64; have := HX.out; omega)
    obtain ⟨i, hi⟩ : ∃ i : Int, (j : Int) = i := ⟨_, rfl⟩
    have hc : wr.cell? ⟨b, i.toNat, none⟩ = some (.int .i64 m) := by rw [← hi, Int.toNat_natCast]; exact hc
    have HJ := ak_ hi
    have q0 : decide (i < (ns.length : Int)) = true := dt_ (by omega)
    have q1 := eq_true (show (0 : Int) ≤ i by omega)
    have q2 := eq_true (show i < (ns.length : Int) by omega)
    rw [hi] at HW ⊢
    clear hi
    go_wp2_with (first | (go_at_call 49; refine (writer_Num.callsT T hT g u _ m w0 _ HI.out HB.out HM.out HL.out).mono ?_; rintro e w5 ⟨u5, rfl, hi, hb, hk, hn⟩; have HI5 := ak_ hi; have HB5 := ak_ hb; have HK5 := ak_ (KeepBut.trans HK.out hk HN.out); have HN5 := ak_ (own_next HK.out.1 HN.out hn); clear hi hb hk hn))
    go_roundw
    case rel => exact ⟨j + 1, u5, by omega, by rw [HW.out], ⟨by rw [HS.out, ← List.append_assoc]; exact HI5.out⟩, HB5, HK5, HN5⟩
    case measure => have := HJ.out; simp [intOf, HW.out]; omega
  · have hjl : j = ns.length := by omega
    subst hjl
    have q0 : decide ((ns.length : Int) < (ns.length : Int)) = false := df_ (by omega)
    go_wp2
    go_end0
    exact ⟨u, rfl, by have := HI.out; rwa [List.take_length] at this, HB.out, HK.out, HN.out⟩
theorem IsWT.drew_ {T : TypeId} {w0 W : World} {g : Nat} {v : Value} {xs : List Int} (h : IsWT T w0 W g v xs) : IsWT T w0 W.drew g v xs := ⟨h.1, h.2.1, Kd.R_drew h.2.2⟩
theorem IsWT.below_ {T : TypeId} {w0 W W1 : World} {g : Nat} {v : Value} {xs : List Int} (h : IsWT T w0 W g v xs) (hb : Below W.heap.size W W1) : IsWT T w0 W1 g v xs :=
 ⟨blk_grown h.1 (grown_of_below hb none) (by simp), h.2.1, Kd.R_below h.2.2 hb⟩
section
variable {P : Program} {ops : Array Oper} {rest : List Oper} {o : Oper} {a : Act} {Q : Exit → Act → World → Prop}
end
abbrev I64_ (n : Int) : Prop := -9223372036854775808 ≤ n ∧ n ≤ 9223372036854775807
def sagaB (a0_0 : Int) (a0_1 : ByteArray) (a0_2 a0_3 a0_4 a0_5 : Int) (a0_6 : Bool) (a0_7 a0_8 : Int) : List Int :=
 [] ++ nbs (clampN a0_0) 8 ++ nbs (clampN a0_1.size) 8 ++ bytesOf a0_1 ++ encN [a0_2, a0_3, a0_4, a0_5] ++ [flagB a0_6] ++ encN [a0_7, a0_8]
def code_PutSaga.f (a0_0 : Int) (a0_1 : ByteArray) (a0_2 : Int) (a0_3 : Int) (a0_4 : Int) (a0_5 : Int) (a0_6 : Bool) (a0_7 : Int) (a0_8 : Int) : Option (List Int) :=
 if (I64_ a0_0 ∧ I64_ a0_2 ∧ I64_ a0_3 ∧ I64_ a0_4 ∧ I64_ a0_5 ∧ I64_ a0_7 ∧ I64_ a0_8) ∧ a0_1.size < 1000000 then some (sagaB a0_0 a0_1 a0_2 a0_3 a0_4 a0_5 a0_6 a0_7 a0_8) else none
theorem code_PutSaga.calls (a0_0 : Int) (a0_1 : ByteArray) (a0_2 : Int) (a0_3 : Int) (a0_4 : Int) (a0_5 : Int) (a0_6 : Bool) (a0_7 : Int) (a0_8 : Int) (r : List Int) (w : World) (h : code_PutSaga.f a0_0 a0_1 a0_2 a0_3 a0_4 a0_5 a0_6 a0_7 a0_8 = some r) :
 Calls Tryd.prog 21 #[.agg #[.int .i64 a0_0, .string a0_1, .int .i64 a0_2, .int .i64 a0_3, .int .i64 a0_4, .int .i64 a0_5, .bool a0_6, .int .i64 a0_7, .int .i64 a0_8]] w fun e w' => ∃ v0_ : Value, e = .returned (v0_) ∧ Kd.R (Kd.int .u8) 5 w' w.heap.size (fun _ => True) v0_ r ∧ Below w.heap.size w w' := by
 unfold code_PutSaga.f at h
 by_cases hc : (I64_ a0_0 ∧ I64_ a0_2 ∧ I64_ a0_3 ∧ I64_ a0_4 ∧ I64_ a0_5 ∧ I64_ a0_7 ∧ I64_ a0_8) ∧ a0_1.size < 1000000
 · rw [if_pos hc] at h
   obtain rfl := Option.some.inj h
   clear h
   obtain ⟨⟨k0, k2, k3, k4, k5, k7, k8⟩, ksz⟩ := hc
   have K0 := ak_ k0
   have K4 := ak_ (show ∀ n ∈ [a0_2, a0_3, a0_4, a0_5], -9223372036854775808 ≤ n ∧ n ≤ 9223372036854775807 from fun n hn => by
    simp only [List.mem_cons, List.not_mem_nil, or_false] at hn
    rcases hn with h | h | h | h <;> subst h <;> assumption)
   have K2 := ak_ (show ∀ n ∈ [a0_7, a0_8], -9223372036854775808 ≤ n ∧ n ≤ 9223372036854775807 from fun n hn => by
    simp only [List.mem_cons, List.not_mem_nil, or_false] at hn
    rcases hn with h | h <;> subst h <;> assumption)
   have hbl := bytesOf_length a0_1
   have L0 := ak_ (show ([] : List Int).length < 100000000 by simp)
   have L1 := ak_ (show ([] ++ nbs (clampN a0_0) 8 : List Int).length + a0_1.size < 100000000 by simp [nbs]; omega)
   have L2 := ak_ (show ([] ++ nbs (clampN a0_0) 8 ++ nbs (clampN a0_1.size) 8 ++ bytesOf a0_1 : List Int).length + 8 * [a0_2, a0_3, a0_4, a0_5].length < 100000000 by simp [nbs, hbl]; omega)
   have L3 := ak_ (show ([] ++ nbs (clampN a0_0) 8 ++ nbs (clampN a0_1.size) 8 ++ bytesOf a0_1 ++ encN [a0_2, a0_3, a0_4, a0_5] : List Int).length < 100000000 by simp [nbs, hbl, encN_len]; omega)
   have L4 := ak_ (show ([] ++ nbs (clampN a0_0) 8 ++ nbs (clampN a0_1.size) 8 ++ bytesOf a0_1 ++ encN [a0_2, a0_3, a0_4, a0_5] ++ [flagB a0_6] : List Int).length + 8 * [a0_7, a0_8].length < 100000000 by simp [nbs, hbl, encN_len]; omega)
   have L5 := ak_ (show (sagaB a0_0 a0_1 a0_2 a0_3 a0_4 a0_5 a0_6 a0_7 a0_8).length < 100000000 by simp [sagaB, nbs, hbl, encN_len]; omega)
   clear k0 k2 k3 k4 k5 k7 k8 ksz hbl
   have HB := ak_ (Below.refl w.heap.size w)
   go_enter Tryd.func21, Tryd.ntmps21
   go_upto_region 2 with (first | ((with_reducible refine gate_dst (N := 1) rfl ?_); refine box_event ?hg (N := 1) ?hd (cs := #[.int .i64 a0_0, .string a0_1, .int .i64 a0_2, .int .i64 a0_3, .int .i64 a0_4, .int .i64 a0_5, .bool a0_6, .int .i64 a0_7, .int .i64 a0_8]) (t := 57) ?hr ?_; (case hd | hg => rfl); (case hr => first | (go_simp; done) | (go_simp; rfl)); intro gs hg w1 hbox hb; have HB1 := ak_ (below_step HB.out hb); have BK1 := ak_ hbox; clear hb hbox hg) | ((with_reducible refine gate_dst (N := 5) rfl ?_); refine box_event ?hg (N := 5) ?hd (cs := #[.slice none 0 0]) (t := 66) ?hr ?_; (case hd | hg => rfl); (case hr => first | (go_simp; done) | (go_simp; rfl)); intro gw hg w2 hbox hb; have NE := ak_ (show gs ≠ gw by rw [hg]; exact Nat.ne_of_lt (blk_lt BK1.out)); have HB2 := ak_ (below_step HB1.out hb); have BK2 := ak_ (blk_below BK1.out hb); have HI2 := ak_ (show IsWT 66 w w2 gw (.slice none 0 0) [] from ⟨hbox, by rw [hg]; exact HB1.out.size, Kd.R_nil _ _ _ _ _⟩); clear hb hbox hg))
   have HC := ak_ (show w2.drew.cell? ⟨gs, 0, none⟩ = some (.int .i64 a0_0) from (zc BK2.out 0).trans rfl)
   refine start_ (n := 6) (S := fun w' => w'.cell? ⟨gs, 0, none⟩ = some (.int .i64 a0_0)) (ds := []) #[false, false, false, false, false, false] (by kernel_rfl) rfl rfl (HC.out) (fun hHeld => ?_)
   refine pure_ (i := 0) (N := some 6) (v := ?_) (a' := ?_) #[true, false, false, false, false, false] rfl rfl (by kernel_rfl) (fun _ _ _ h => h) (Or.inl ⟨by rfl, ?_⟩) ?_ ?_
   rotate_left
   · intro w'
     go_simp
     with_reducible rfl
   rotate_left
   · simp only [Act.put, sa_, sz_, ss_, i64_w, i32_w]
     rfl
   refine pure_ (i := 1) (N := some 7) (v := ?_) (a' := ?_) #[true, true, false, false, false, false] rfl rfl (by kernel_rfl) (fun _ _ _ h => h) (Or.inl ⟨by rfl, ?_⟩) ?_ ?_
   rotate_left
   · intro w'
     go_simp
     with_reducible rfl
   rotate_left
   · simp only [Act.put, sa_, sz_, ss_, i64_w, i32_w]
     rfl
   refine pure_ (i := 2) (N := some 8) (v := ?_) (a' := ?_) #[true, true, true, false, false, false] rfl rfl (by kernel_rfl) (fun _ _ _ h => h) (Or.inl ⟨by rfl, ?_⟩) ?_ ?_
   rotate_left
   · intro w'
     go_simp
     with_reducible rfl
   rotate_left
   · simp only [Act.put, sa_, sz_, ss_, i64_w, i32_w]
     rfl
   refine pure_ (i := 3) (N := some 9) (v := ?_) (a' := ?_) #[true, true, true, true, false, false] rfl rfl (by kernel_rfl) (fun _ _ _ h => h) (Or.inl ⟨by rfl, ?_⟩) ?_ ?_
   rotate_left
   · intro w'
     go_simp
     with_reducible rfl
   rotate_left
   · simp only [Act.put, sa_, sz_, ss_, i64_w, i32_w]
     rfl
   refine take_ (i := 4) (N := some 10) (v := ?_) (a' := ?_) #[true, true, true, true, true, false] rfl rfl (by kernel_rfl) (fun _ _ _ h => h) (Or.inl ⟨by rfl, ?_⟩) hHeld ?_ ?_
   rotate_left
   · intro w' s0
     go_simp
     with_reducible rfl
   rotate_left
   · simp only [Act.put, sa_, sz_, ss_, i64_w, i32_w]
     rfl
   refine one_ (i := 5) (N := some 11) #[true, true, true, true, true, true] rfl rfl (by kernel_rfl) (by decide) (fun K hK => ?_)
   refine goes_ Tryd.func49 (by kernel_rfl) rfl #[.pointer (some ⟨gw, 0, none⟩), .int .i64 a0_0] (by rfl) rfl rfl (by simp only [mt_, mc_, mn_]; rfl) ?_
   with_reducible refine (writer_Num.callsT 66 (by decide) gw _ [] a0_0 w _ (IsWT.drew_ HI2.out) (below_drew1 HB2.out) K0.out L0.out).mono ?_
   rintro e w3 ⟨u3, rfl, hi, hb, hk, hn⟩
   refine ⟨_, rfl, ?_⟩
   have BK3 := ak_ (KeepBut.blk hk (show w2.drew.heap[gs]? = _ from BK2.out) NE.out (Kd.R_ne (Kd.R_drew HI2.out.2.2) (show w2.drew.heap[gs]? = _ from BK2.out) (by decide)))
   have HI3 := ak_ hi
   have HB3 := ak_ hb
   have HC3 := ak_ (show w3.cell? ⟨gs, 0, none⟩ = some (.int .i64 a0_0) from (zc BK3.out 0).trans rfl)
   clear hi hb hk hn
   refine hK.out _ _ HC3.out (fun hHeld => ?_)
   clear hK K
   refine norm_ (a' := ?_) ?_ ?_
   rotate_left
   · show Act.put _ (some 11) _ = _
     simp only [Act.put, sa_, sz_, ss_, i64_w, i32_w]
     rfl
   refine done_ (by kernel_rfl) ?_
   clear HC
   go_upto_region 3 with (fail)
   have HC := ak_ (show w3.drew.cell? ⟨gs, 1, none⟩ = some (.string a0_1) from (zc BK3.out 1).trans rfl)
   refine start_ (n := 6) (S := fun w' => w'.cell? ⟨gs, 1, none⟩ = some (.string a0_1)) (ds := []) #[false, false, false, false, false, false] (by kernel_rfl) rfl rfl (HC.out) (fun hHeld => ?_)
   refine pure_ (i := 0) (N := some 12) (v := ?_) (a' := ?_) #[true, false, false, false, false, false] rfl rfl (by kernel_rfl) (fun _ _ _ h => h) (Or.inl ⟨by rfl, ?_⟩) ?_ ?_
   rotate_left
   · intro w'
     go_simp
     with_reducible rfl
   rotate_left
   · simp only [Act.put, sa_, sz_, ss_, i64_w, i32_w]
     rfl
   refine pure_ (i := 1) (N := some 13) (v := ?_) (a' := ?_) #[true, true, false, false, false, false] rfl rfl (by kernel_rfl) (fun _ _ _ h => h) (Or.inl ⟨by rfl, ?_⟩) ?_ ?_
   rotate_left
   · intro w'
     go_simp
     with_reducible rfl
   rotate_left
   · simp only [Act.put, sa_, sz_, ss_, i64_w, i32_w]
     rfl
   refine pure_ (i := 2) (N := some 14) (v := ?_) (a' := ?_) #[true, true, true, false, false, false] rfl rfl (by kernel_rfl) (fun _ _ _ h => h) (Or.inl ⟨by rfl, ?_⟩) ?_ ?_
   rotate_left
   · intro w'
     go_simp
     with_reducible rfl
   rotate_left
   · simp only [Act.put, sa_, sz_, ss_, i64_w, i32_w]
     rfl
   refine pure_ (i := 3) (N := some 15) (v := ?_) (a' := ?_) #[true, true, true, true, false, false] rfl rfl (by kernel_rfl) (fun _ _ _ h => h) (Or.inl ⟨by rfl, ?_⟩) ?_ ?_
   rotate_left
   · intro w'
     go_simp
     with_reducible rfl
   rotate_left
   · simp only [Act.put, sa_, sz_, ss_, i64_w, i32_w]
     rfl
   refine take_ (i := 4) (N := some 16) (v := ?_) (a' := ?_) #[true, true, true, true, true, false] rfl rfl (by kernel_rfl) (fun _ _ _ h => h) (Or.inl ⟨by rfl, ?_⟩) hHeld ?_ ?_
   rotate_left
   · intro w' s0
     go_simp
     with_reducible rfl
   rotate_left
   · simp only [Act.put, sa_, sz_, ss_, i64_w, i32_w]
     rfl
   refine one_ (i := 5) (N := some 17) #[true, true, true, true, true, true] rfl rfl (by kernel_rfl) (by decide) (fun K hK => ?_)
   refine goes_ Tryd.func46 (by kernel_rfl) rfl #[.pointer (some ⟨gw, 0, none⟩), .string a0_1] (by rfl) rfl rfl (by simp only [mt_, mc_, mn_]; rfl) ?_
   with_reducible refine (writer_Text.callsT 66 (by decide) gw _ _ a0_1 w _ (IsWT.drew_ HI3.out) (below_drew1 HB3.out) L1.out).mono ?_
   rintro e w4 ⟨u4, rfl, hi, hb, hk, hn⟩
   refine ⟨_, rfl, ?_⟩
   have BK4 := ak_ (KeepBut.blk hk (show w3.drew.heap[gs]? = _ from BK3.out) NE.out (Kd.R_ne (Kd.R_drew HI3.out.2.2) (show w3.drew.heap[gs]? = _ from BK3.out) (by decide)))
   have HI4 := ak_ hi
   have HB4 := ak_ hb
   have HC4 := ak_ (show w4.cell? ⟨gs, 1, none⟩ = some (.string a0_1) from (zc BK4.out 1).trans rfl)
   clear hi hb hk hn
   refine hK.out _ _ HC4.out (fun hHeld => ?_)
   clear hK K
   refine norm_ (a' := ?_) ?_ ?_
   rotate_left
   · show Act.put _ (some 17) _ = _
     simp only [Act.put, sa_, sz_, ss_, i64_w, i32_w]
     rfl
   refine done_ (by kernel_rfl) ?_
   clear HC
   have z4_0 : w4.cell? ⟨gs, 0, none⟩ = some (.int .i64 a0_0) := (zc BK4.out 0).trans rfl
   have z4_1 : w4.cell? ⟨gs, 1, none⟩ = some (.string a0_1) := (zc BK4.out 1).trans rfl
   have z4_2 : w4.cell? ⟨gs, 2, none⟩ = some (.int .i64 a0_2) := (zc BK4.out 2).trans rfl
   have z4_3 : w4.cell? ⟨gs, 3, none⟩ = some (.int .i64 a0_3) := (zc BK4.out 3).trans rfl
   have z4_4 : w4.cell? ⟨gs, 4, none⟩ = some (.int .i64 a0_4) := (zc BK4.out 4).trans rfl
   have z4_5 : w4.cell? ⟨gs, 5, none⟩ = some (.int .i64 a0_5) := (zc BK4.out 5).trans rfl
   have z4_6 : w4.cell? ⟨gs, 6, none⟩ = some (.bool a0_6) := (zc BK4.out 6).trans rfl
   have z4_7 : w4.cell? ⟨gs, 7, none⟩ = some (.int .i64 a0_7) := (zc BK4.out 7).trans rfl
   have z4_8 : w4.cell? ⟨gs, 8, none⟩ = some (.int .i64 a0_8) := (zc BK4.out 8).trans rfl
   go_upto_region 5 with (first | (go_at_call 45; refine (writer_nums.calls 66 (by decide) (by decide) gw _ _ _ [a0_2, a0_3, a0_4, a0_5] w _ (IsWT.below_ HI4.out (below_alloc (Below.refl _ _) _)) (below_alloc HB4.out _) (blk_new _ _) K4.out L2.out).mono ?_; rintro e w5 ⟨u5, rfl, hi, hb, hk, hn⟩; have BK5 := ak_ (KeepBut.blk hk (blk_alloc BK4.out _) NE.out (Kd.R_ne HI4.out.2.2 BK4.out (by decide))); have HI5 := ak_ hi; have HB5 := ak_ hb; clear hi hb hk hn))
   have HC := ak_ (show w5.drew.cell? ⟨gs, 6, none⟩ = some (.bool a0_6) from (zc BK5.out 6).trans rfl)
   refine start_ (n := 6) (S := fun w' => w'.cell? ⟨gs, 6, none⟩ = some (.bool a0_6)) (ds := []) #[false, false, false, false, false, false] (by kernel_rfl) rfl rfl (HC.out) (fun hHeld => ?_)
   refine pure_ (i := 0) (N := some 29) (v := ?_) (a' := ?_) #[true, false, false, false, false, false] rfl rfl (by kernel_rfl) (fun _ _ _ h => h) (Or.inl ⟨by rfl, ?_⟩) ?_ ?_
   rotate_left
   · intro w'
     go_simp
     with_reducible rfl
   rotate_left
   · simp only [Act.put, sa_, sz_, ss_, i64_w, i32_w]
     rfl
   refine pure_ (i := 1) (N := some 30) (v := ?_) (a' := ?_) #[true, true, false, false, false, false] rfl rfl (by kernel_rfl) (fun _ _ _ h => h) (Or.inl ⟨by rfl, ?_⟩) ?_ ?_
   rotate_left
   · intro w'
     go_simp
     with_reducible rfl
   rotate_left
   · simp only [Act.put, sa_, sz_, ss_, i64_w, i32_w]
     rfl
   refine pure_ (i := 2) (N := some 31) (v := ?_) (a' := ?_) #[true, true, true, false, false, false] rfl rfl (by kernel_rfl) (fun _ _ _ h => h) (Or.inl ⟨by rfl, ?_⟩) ?_ ?_
   rotate_left
   · intro w'
     go_simp
     with_reducible rfl
   rotate_left
   · simp only [Act.put, sa_, sz_, ss_, i64_w, i32_w]
     rfl
   refine pure_ (i := 3) (N := some 32) (v := ?_) (a' := ?_) #[true, true, true, true, false, false] rfl rfl (by kernel_rfl) (fun _ _ _ h => h) (Or.inl ⟨by rfl, ?_⟩) ?_ ?_
   rotate_left
   · intro w'
     go_simp
     with_reducible rfl
   rotate_left
   · simp only [Act.put, sa_, sz_, ss_, i64_w, i32_w]
     rfl
   refine take_ (i := 4) (N := some 33) (v := ?_) (a' := ?_) #[true, true, true, true, true, false] rfl rfl (by kernel_rfl) (fun _ _ _ h => h) (Or.inl ⟨by rfl, ?_⟩) hHeld ?_ ?_
   rotate_left
   · intro w' s0
     go_simp
     with_reducible rfl
   rotate_left
   · simp only [Act.put, sa_, sz_, ss_, i64_w, i32_w]
     rfl
   refine one_ (i := 5) (N := some 34) #[true, true, true, true, true, true] rfl rfl (by kernel_rfl) (by decide) (fun K hK => ?_)
   refine goes_ Tryd.func50 (by kernel_rfl) rfl #[.pointer (some ⟨gw, 0, none⟩), .bool a0_6] (by rfl) rfl rfl (by simp only [mt_, mc_, mn_]; rfl) ?_
   with_reducible refine (writer_Flag.callsT 66 (by decide) gw _ _ a0_6 w _ (IsWT.drew_ HI5.out) (below_drew1 HB5.out) L3.out).mono ?_
   rintro e w6 ⟨u6, rfl, hi, hb, hk, hn⟩
   refine ⟨_, rfl, ?_⟩
   have BK6 := ak_ (KeepBut.blk hk (show w5.drew.heap[gs]? = _ from BK5.out) NE.out (Kd.R_ne (Kd.R_drew HI5.out.2.2) (show w5.drew.heap[gs]? = _ from BK5.out) (by decide)))
   have HI6 := ak_ hi
   have HB6 := ak_ hb
   have HC6 := ak_ (show w6.cell? ⟨gs, 6, none⟩ = some (.bool a0_6) from (zc BK6.out 6).trans rfl)
   clear hi hb hk hn
   refine hK.out _ _ HC6.out (fun hHeld => ?_)
   clear hK K
   refine norm_ (a' := ?_) ?_ ?_
   rotate_left
   · show Act.put _ (some 34) _ = _
     simp only [Act.put, sa_, sz_, ss_, i64_w, i32_w]
     rfl
   refine done_ (by kernel_rfl) ?_
   clear HC
   have z6_0 : w6.cell? ⟨gs, 0, none⟩ = some (.int .i64 a0_0) := (zc BK6.out 0).trans rfl
   have z6_1 : w6.cell? ⟨gs, 1, none⟩ = some (.string a0_1) := (zc BK6.out 1).trans rfl
   have z6_2 : w6.cell? ⟨gs, 2, none⟩ = some (.int .i64 a0_2) := (zc BK6.out 2).trans rfl
   have z6_3 : w6.cell? ⟨gs, 3, none⟩ = some (.int .i64 a0_3) := (zc BK6.out 3).trans rfl
   have z6_4 : w6.cell? ⟨gs, 4, none⟩ = some (.int .i64 a0_4) := (zc BK6.out 4).trans rfl
   have z6_5 : w6.cell? ⟨gs, 5, none⟩ = some (.int .i64 a0_5) := (zc BK6.out 5).trans rfl
   have z6_6 : w6.cell? ⟨gs, 6, none⟩ = some (.bool a0_6) := (zc BK6.out 6).trans rfl
   have z6_7 : w6.cell? ⟨gs, 7, none⟩ = some (.int .i64 a0_7) := (zc BK6.out 7).trans rfl
   have z6_8 : w6.cell? ⟨gs, 8, none⟩ = some (.int .i64 a0_8) := (zc BK6.out 8).trans rfl
   go_wp2_with (first | (go_at_call 45; refine (writer_nums.calls 66 (by decide) (by decide) gw _ _ _ [a0_7, a0_8] w _ (IsWT.below_ HI6.out (below_alloc (Below.refl _ _) _)) (below_alloc HB6.out _) (blk_new _ _) K2.out L4.out).mono ?_; rintro e w7 ⟨u7, rfl, hi, hb, hk, hn⟩; have HI7 := ak_ hi; have HB7 := ak_ hb; clear hi hb hk hn) | (go_at_call 23; refine (writer_Bytes.callsT 66 gw _ _ w _ HI7.out L5.out).mono ?_; rintro e w8 ⟨v8, rfl, hR, hi, hb⟩; have HR8 := ak_ (Kd.R_lower hR HB7.out.size); have HB8 := ak_ (below_step HB7.out hb); clear hR hi hb))
   go_ret
   exact ⟨_, rfl, HR8.out, HB8.out⟩
 · rw [if_neg hc] at h
   cases h
end Go.Proofs.YtcgpbakimkhdpaaDoor.Q
