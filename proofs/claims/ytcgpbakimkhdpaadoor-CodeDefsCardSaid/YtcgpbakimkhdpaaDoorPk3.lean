/- Part 3 of a claim's texts. -/
import Derived.Test.YtcgpbakimkhdpaaDoorPk1
import Derived.Test.YtcgpbakimkhdpaaDoorPk2
import Derived.Shelf.Unicode.ValidAny
import Derived.Test.YtcgpbakimkhdpaaDoorProg
import Derived.Lib.MapLaws
import Derived.Lib.ValidLaws
import Derived.Lib.RuneCount
import Derived.Lib.RuneBytes
import Derived.Lib.TrimUEq
import Derived.Lib.TrimAscii
import Derived.WalkKit
import Derived.BigCall
import Derived.Lib.OthersKept
import Derived.Laws.RangeString
import Derived.Laws.RangeAny
namespace Go.Proofs.YtcgpbakimkhdpaaDoor.Q
open Go.RowKit Go.Proofs.YtcgpbakimkhdpaaDoorW.PrintWords Go.Proofs.YtcgpbakimkhdpaaDoorW.PrintLast Go.Proofs.YtcgpbakimkhdpaaDoorW.PrintMore
attribute [local go_sem] max2_int min2_int max_two min_two max_three min_three max_four min_four
set_option linter.unusedVariables false
set_option linter.unusedSimpArgs false
set_option maxHeartbeats 8000000
set_option maxRecDepth 100000
open Go.Proofs.YtcgpbakimkhdpaaDoor.Q.H_
def uR04_TakeN.f (k : Nat) (a0_0 : ByteArray) (a0_1 : Int) (a0_2 : Int) (a0_3 : Int) (a0_4 : Int) (a0_5 : ByteArray) (a0_6 : Bool) : Option (ByteArray × Int × Int × Int × Int × ByteArray × Bool) := (uR04_Take.f k a0_0 a0_1 a0_2 a0_3 a0_4 a0_5 a0_6).bind fun bt187 => (some (bt187.1, bt187.2.1, bt187.2.2.1, bt187.2.2.2.1, bt187.2.2.2.2.2.2.2, bt187.2.2.2.2.2.1, bt187.2.2.2.2.2.2.1))
theorem uR04_TakeN.calls (k : Nat) (a0_0 : ByteArray) (a0_1 : Int) (a0_2 : Int) (a0_3 : Int) (a0_4 : Int) (a0_5 : ByteArray) (a0_6 : Bool) (r1 : ByteArray) (r2 : Int) (r3 : Int) (r4 : Int) (r5 : Int) (r6 : ByteArray) (r7 : Bool) (w : World) (h : uR04_TakeN.f k a0_0 a0_1 a0_2 a0_3 a0_4 a0_5 a0_6 = some (r1, r2, r3, r4, r5, r6, r7)) :
 Calls Tryd.prog 39 #[.agg #[.string a0_0, .int .i64 a0_1, .int .i64 a0_2, .int .i64 a0_3, .int .i64 a0_4, .string a0_5, .bool a0_6]] w fun e w' => e = .returned (.agg #[.string r1, .int .i64 r2, .int .i64 r3, .int .i64 r4, .int .i64 r5, .string r6, .bool r7]) ∧ Below w.heap.size w w' := by
 have hu81 := Tryd.underlying81
 have HB := ak_ (Below.refl w.heap.size w)
 have H : ((uR04_Take.f k a0_0 a0_1 a0_2 a0_3 a0_4 a0_5 a0_6).bind fun bt187 => (some (bt187.1, bt187.2.1, bt187.2.2.1, bt187.2.2.2.1, bt187.2.2.2.2.2.2.2, bt187.2.2.2.2.2.1, bt187.2.2.2.2.2.2.1))) = some (r1, r2, r3, r4, r5, r6, r7) := h
 clear h
 replace H := ob_ H
 obtain ⟨⟨t187, t188, t189, t190, t191, t192, t193, t194⟩, A20, H⟩ := H
 replace H : (some (t187, t188, t189, t190, t194, t192, t193)) = some (r1, r2, r3, r4, r5, r6, r7) := H
 have A2 := ak_ A20
 clear A20
 simp only [Option.some.injEq, Prod.mk.injEq] at H
 obtain ⟨rfl, rfl, rfl, rfl, rfl, rfl, rfl⟩ := H
 go_enter Tryd.func39, Tryd.ntmps39
 go_upto_region 2 with (first | ((with_reducible refine gate_dst (N := 1) rfl ?_); refine box_event ?hg (N := 1) ?hd (cs := #[.string a0_0, .int .i64 a0_1, .int .i64 a0_2, .int .i64 a0_3, .int .i64 a0_4, .string a0_5, .bool a0_6]) (t := 81) ?hr ?_; (case hd | hg => rfl); (case hr => first | (go_simp; done) | (go_simp; rfl)); intro gb185 hg w3 hbox hb; have n0_ := ak_ (ps (by with_reducible repeat first | exact HB.out | apply pa | apply pd | apply pe) hb); have n1_ := ak_ (hbox); have n2_ := ak_ ((by rw [hg]; exact (below_size (by with_reducible repeat first | exact HB.out | apply pa | apply pd | apply pe)) : w.heap.size ≤ gb185)); have n3_ := ak_ ((by rw [hg]; exact (below_size (by with_reducible repeat first | exact HB.out | apply pa | apply pd | apply pe)) : w.heap.size ≤ gb185)); clear HB; have HB := n0_; have BK185 := n1_; have GW185 := n2_; have GE185 := n3_; clear n0_ n1_ n2_ n3_ hb hbox hg) | ((with_reducible refine gate_dst (N := 2) rfl ?_); refine box_event ?hg (N := 2) ?hd (cs := #[.string ⟨#[]⟩, .int .i64 0, .int .i64 0, .int .i64 0, .int .i64 0, .string ⟨#[]⟩, .bool false]) (t := 81) ?hr ?_; (case hd | hg => rfl); (case hr => first | (go_simp; done) | (go_simp; rfl)); intro gb186 hg w4 hbox hb; have n0_ := ak_ (blk_below (g := gb185) (o := .cells #[.string a0_0, .int .i64 a0_1, .int .i64 a0_2, .int .i64 a0_3, .int .i64 a0_4, .string a0_5, .bool a0_6] 81 (0, 0)) (by (with_reducible repeat (first | apply zn | apply zd | apply za)); exact BK185.out) hb); have n1_ := ak_ (ps (by with_reducible repeat first | exact HB.out | apply pa | apply pd | apply pe | refine zs ?_ GE185.out) hb); have n2_ := ak_ (hbox); have n3_ := ak_ ((by rw [hg]; exact (below_size (by with_reducible repeat first | exact HB.out | apply pa | apply pd | apply pe | refine zs ?_ GE185.out)) : w.heap.size ≤ gb186)); have n4_ := ak_ ((by rw [hg]; exact (below_size (by with_reducible repeat first | exact HB.out | apply pa | apply pd | apply pe | refine zs ?_ GE185.out)) : w.heap.size ≤ gb186)); have n5_ := ak_ ((by rw [hg]; exact Nat.ne_of_lt (blk_lt (g := gb185) (by (with_reducible repeat (first | apply zn | apply zd | apply za)); exact BK185.out)) : gb185 ≠ gb186)); have n6_ := ak_ ((by rw [hg]; exact Nat.ne_of_gt (blk_lt (g := gb185) (by (with_reducible repeat (first | apply zn | apply zd | apply za)); exact BK185.out)) : gb186 ≠ gb185)); clear BK185 HB; have BK185 := n0_; have HB := n1_; have BK186 := n2_; have GW186 := n3_; have GE186 := n4_; have NB185_186 := n5_; have NB186_185 := n6_; clear n0_ n1_ n2_ n3_ n4_ n5_ n6_ hb hbox hg; have hnb5 := NB185_186.out; have hnc5 := NB186_185.out; have hcz6_0 : w4.cell? ⟨gb185, 0, none⟩ = some (.string a0_0) := (zc BK185.out 0).trans rfl; have hcz6_1 : w4.cell? ⟨gb185, 1, none⟩ = some (.int .i64 a0_1) := (zc BK185.out 1).trans rfl; have hcz6_2 : w4.cell? ⟨gb185, 2, none⟩ = some (.int .i64 a0_2) := (zc BK185.out 2).trans rfl; have hcz6_3 : w4.cell? ⟨gb185, 3, none⟩ = some (.int .i64 a0_3) := (zc BK185.out 3).trans rfl; have hcz6_4 : w4.cell? ⟨gb185, 4, none⟩ = some (.int .i64 a0_4) := (zc BK185.out 4).trans rfl; have hcz6_5 : w4.cell? ⟨gb185, 5, none⟩ = some (.string a0_5) := (zc BK185.out 5).trans rfl; have hcz6_6 : w4.cell? ⟨gb185, 6, none⟩ = some (.bool a0_6) := (zc BK185.out 6).trans rfl; have hfz6_0 := zf BK185.out 0; have hfz6_1 := zf BK185.out 1; have hfz6_2 := zf BK185.out 2; have hfz6_3 := zf BK185.out 3; have hfz6_4 := zf BK185.out 4; have hfz6_5 := zf BK185.out 5; have hfz6_6 := zf BK185.out 6) | ((with_reducible refine gate_callee (f := 68) rfl ?_); refine goesL_ (some 7) rfl rfl Tryd.func68 (by kernel_rfl) rfl #[.agg #[.string a0_0, .int .i64 a0_1, .int .i64 a0_2, .int .i64 a0_3, .int .i64 a0_4, .string a0_5, .bool a0_6]] rfl (by (try simp only [mt_, mc_, mn_]); first | done | rfl) ?_; (with_reducible refine (uR04_Take.calls k a0_0 a0_1 a0_2 a0_3 a0_4 a0_5 a0_6 t187 t188 t189 t190 t191 t192 t193 t194 _ A2.out).mono ?_); rintro e w7 ⟨rfl, hb⟩; refine ⟨_, rfl, ?_⟩; have n0_ := ak_ (blk_below (g := gb185) (o := .cells #[.string a0_0, .int .i64 a0_1, .int .i64 a0_2, .int .i64 a0_3, .int .i64 a0_4, .string a0_5, .bool a0_6] 81 (0, 0)) (by (with_reducible repeat (first | apply zn | apply zd | apply za)); exact BK185.out) hb); have n1_ := ak_ (blk_below (g := gb186) (o := .cells #[.string ⟨#[]⟩, .int .i64 0, .int .i64 0, .int .i64 0, .int .i64 0, .string ⟨#[]⟩, .bool false] 81 (0, 0)) (by (with_reducible repeat (first | apply zn | apply zd | apply za)); exact BK186.out) hb); have n2_ := ak_ (ps (by with_reducible repeat first | exact HB.out | apply pa | apply pd | apply pe | refine zs ?_ GE185.out | refine zs ?_ GE186.out) hb); clear BK185 BK186 HB; have BK185 := n0_; have BK186 := n1_; have HB := n2_; clear n0_ n1_ n2_) | ((with_reducible refine gate_dst (N := 3) rfl ?_); refine box_event ?hg (N := 3) ?hd (cs := #[.string ⟨#[]⟩, .int .i64 0, .int .i64 0, .int .i64 0, .int .i64 0, .string ⟨#[]⟩, .bool false]) (t := 81) ?hr ?_; (case hd | hg => rfl); (case hr => first | (go_simp; done) | (go_simp; rfl)); intro gb195 hg w8 hbox hb; have n0_ := ak_ (blk_below (g := gb185) (o := .cells #[.string a0_0, .int .i64 a0_1, .int .i64 a0_2, .int .i64 a0_3, .int .i64 a0_4, .string a0_5, .bool a0_6] 81 (0, 0)) (by (with_reducible repeat (first | apply zn | apply zd | apply za)); exact BK185.out) hb); have n1_ := ak_ (blk_below (g := gb186) (o := .cells #[.string ⟨#[]⟩, .int .i64 0, .int .i64 0, .int .i64 0, .int .i64 0, .string ⟨#[]⟩, .bool false] 81 (0, 0)) (by (with_reducible repeat (first | apply zn | apply zd | apply za)); exact BK186.out) hb); have n2_ := ak_ (ps (by with_reducible repeat first | exact HB.out | apply pa | apply pd | apply pe | refine zs ?_ GE185.out | refine zs ?_ GE186.out) hb); have n3_ := ak_ (hbox); have n4_ := ak_ ((by rw [hg]; exact (below_size (by with_reducible repeat first | exact HB.out | apply pa | apply pd | apply pe | refine zs ?_ GE185.out | refine zs ?_ GE186.out)) : w.heap.size ≤ gb195)); have n5_ := ak_ ((by rw [hg]; exact (below_size (by with_reducible repeat first | exact HB.out | apply pa | apply pd | apply pe | refine zs ?_ GE185.out | refine zs ?_ GE186.out)) : w.heap.size ≤ gb195)); have n6_ := ak_ ((by rw [hg]; exact Nat.ne_of_lt (blk_lt (g := gb185) (by (with_reducible repeat (first | apply zn | apply zd | apply za)); exact BK185.out)) : gb185 ≠ gb195)); have n7_ := ak_ ((by rw [hg]; exact Nat.ne_of_gt (blk_lt (g := gb185) (by (with_reducible repeat (first | apply zn | apply zd | apply za)); exact BK185.out)) : gb195 ≠ gb185)); have n8_ := ak_ ((by rw [hg]; exact Nat.ne_of_lt (blk_lt (g := gb186) (by (with_reducible repeat (first | apply zn | apply zd | apply za)); exact BK186.out)) : gb186 ≠ gb195)); have n9_ := ak_ ((by rw [hg]; exact Nat.ne_of_gt (blk_lt (g := gb186) (by (with_reducible repeat (first | apply zn | apply zd | apply za)); exact BK186.out)) : gb195 ≠ gb186)); clear BK185 BK186 HB; have BK185 := n0_; have BK186 := n1_; have HB := n2_; have BK195 := n3_; have GW195 := n4_; have GE195 := n5_; have NB185_195 := n6_; have NB195_185 := n7_; have NB186_195 := n8_; have NB195_186 := n9_; clear n0_ n1_ n2_ n3_ n4_ n5_ n6_ n7_ n8_ n9_ hb hbox hg; have hnb9 := NB195_185.out; have hnc9 := NB185_195.out; have hnb10 := NB195_186.out; have hnc10 := NB186_195.out; have hcz11_0 : w8.cell? ⟨gb195, 0, none⟩ = some (.string ⟨#[]⟩) := (zc BK195.out 0).trans rfl; have hcz11_1 : w8.cell? ⟨gb195, 1, none⟩ = some (.int .i64 0) := (zc BK195.out 1).trans rfl; have hcz11_2 : w8.cell? ⟨gb195, 2, none⟩ = some (.int .i64 0) := (zc BK195.out 2).trans rfl; have hcz11_3 : w8.cell? ⟨gb195, 3, none⟩ = some (.int .i64 0) := (zc BK195.out 3).trans rfl; have hcz11_4 : w8.cell? ⟨gb195, 4, none⟩ = some (.int .i64 0) := (zc BK195.out 4).trans rfl; have hcz11_5 : w8.cell? ⟨gb195, 5, none⟩ = some (.string ⟨#[]⟩) := (zc BK195.out 5).trans rfl; have hcz11_6 : w8.cell? ⟨gb195, 6, none⟩ = some (.bool false) := (zc BK195.out 6).trans rfl; have hfz11_0 := zf BK195.out 0; have hfz11_1 := zf BK195.out 1; have hfz11_2 := zf BK195.out 2; have hfz11_3 := zf BK195.out 3; have hfz11_4 := zf BK195.out 4; have hfz11_5 := zf BK195.out 5; have hfz11_6 := zf BK195.out 6; have hcz12_0 : w8.cell? ⟨gb186, 0, none⟩ = some (.string ⟨#[]⟩) := (zc BK186.out 0).trans rfl; have hcz12_1 : w8.cell? ⟨gb186, 1, none⟩ = some (.int .i64 0) := (zc BK186.out 1).trans rfl; have hcz12_2 : w8.cell? ⟨gb186, 2, none⟩ = some (.int .i64 0) := (zc BK186.out 2).trans rfl; have hcz12_3 : w8.cell? ⟨gb186, 3, none⟩ = some (.int .i64 0) := (zc BK186.out 3).trans rfl; have hcz12_4 : w8.cell? ⟨gb186, 4, none⟩ = some (.int .i64 0) := (zc BK186.out 4).trans rfl; have hcz12_5 : w8.cell? ⟨gb186, 5, none⟩ = some (.string ⟨#[]⟩) := (zc BK186.out 5).trans rfl; have hcz12_6 : w8.cell? ⟨gb186, 6, none⟩ = some (.bool false) := (zc BK186.out 6).trans rfl; have hfz12_0 := zf BK186.out 0; have hfz12_1 := zf BK186.out 1; have hfz12_2 := zf BK186.out 2; have hfz12_3 := zf BK186.out 3; have hfz12_4 := zf BK186.out 4; have hfz12_5 := zf BK186.out 5; have hfz12_6 := zf BK186.out 6))
 have KK1 := (zp (zp (zp (zp (zp (zp (zp BK195.out 0 (.string t187) rfl) 1 (.int .i64 t188) rfl) 2 (.int .i64 t189) rfl) 3 (.int .i64 t190) rfl) 4 (.int .i64 t191) rfl) 5 (.string t192) rfl) 6 (.bool t193) rfl)
 have KK2 := (zr (p := ⟨gb195, 6, none⟩) (zr (p := ⟨gb195, 5, none⟩) (zr (p := ⟨gb195, 4, none⟩) (zr (p := ⟨gb195, 3, none⟩) (zr (p := ⟨gb195, 2, none⟩) (zr (p := ⟨gb195, 1, none⟩) (zr (p := ⟨gb195, 0, none⟩) BK186.out NB186_195.out (.string t187)) NB186_195.out (.int .i64 t188)) NB186_195.out (.int .i64 t189)) NB186_195.out (.int .i64 t190)) NB186_195.out (.int .i64 t191)) NB186_195.out (.string t192)) NB186_195.out (.bool t193))
 have HBW := (zs (g := gb195) (j := 6) (v := .bool t193) (zs (g := gb195) (j := 5) (v := .string t192) (zs (g := gb195) (j := 4) (v := .int .i64 t191) (zs (g := gb195) (j := 3) (v := .int .i64 t190) (zs (g := gb195) (j := 2) (v := .int .i64 t189) (zs (g := gb195) (j := 1) (v := .int .i64 t188) (zs (g := gb195) (j := 0) (v := .string t187) HB.out GE195.out) GE195.out) GE195.out) GE195.out) GE195.out) GE195.out) GE195.out)
 generalize (((((((w8.setCell ⟨gb195, 0, none⟩ (.string t187)).setCell ⟨gb195, 1, none⟩ (.int .i64 t188)).setCell ⟨gb195, 2, none⟩ (.int .i64 t189)).setCell ⟨gb195, 3, none⟩ (.int .i64 t190)).setCell ⟨gb195, 4, none⟩ (.int .i64 t191)).setCell ⟨gb195, 5, none⟩ (.string t192)).setCell ⟨gb195, 6, none⟩ (.bool t193)) = W_ at *
 have hz0 := zc KK1 0
 have hz1 := zc KK1 1
 have hz2 := zc KK1 2
 have hz3 := zc KK1 3
 have hz4 := zc KK1 4
 have hz5 := zc KK1 5
 have hz6 := zc KK1 6
 have hf0 := zf KK1 0
 have hf1 := zf KK1 1
 have hf2 := zf KK1 2
 have hf3 := zf KK1 3
 have hf4 := zf KK1 4
 have hf5 := zf KK1 5
 have hf6 := zf KK1 6
 have gz0 := zc KK2 0
 have gz1 := zc KK2 1
 have gz2 := zc KK2 2
 have gz3 := zc KK2 3
 have gz4 := zc KK2 4
 have gz5 := zc KK2 5
 have gz6 := zc KK2 6
 have gf0 := zf KK2 0
 have gf1 := zf KK2 1
 have gf2 := zf KK2 2
 have gf3 := zf KK2 3
 have gf4 := zf KK2 4
 have gf5 := zf KK2 5
 have gf6 := zf KK2 6
 go_wp2
 refine bodyPost_ret (results_cell_row rfl _ _ gb186 81 #[.string t187, .int .i64 t188, .int .i64 t189, .int .i64 t190, .int .i64 t194, .string t192, .bool t193] (0, 0) _ rfl (by (with_reducible repeat (first | apply zn | apply zd | apply za)); refine zp (cs := #[.string t187, .int .i64 t188, .int .i64 t189, .int .i64 t190, .int .i64 t194, .string t192, .bool false]) ?_ 6 _ rfl; (with_reducible repeat (first | apply zn | apply zd | apply za)); refine zp (cs := #[.string t187, .int .i64 t188, .int .i64 t189, .int .i64 t190, .int .i64 t194, .string ⟨#[]⟩, .bool false]) ?_ 5 _ rfl; (with_reducible repeat (first | apply zn | apply zd | apply za)); refine zp (cs := #[.string t187, .int .i64 t188, .int .i64 t189, .int .i64 t190, .int .i64 0, .string ⟨#[]⟩, .bool false]) ?_ 4 _ rfl; (with_reducible repeat (first | apply zn | apply zd | apply za)); refine zp (cs := #[.string t187, .int .i64 t188, .int .i64 t189, .int .i64 0, .int .i64 0, .string ⟨#[]⟩, .bool false]) ?_ 3 _ rfl; (with_reducible repeat (first | apply zn | apply zd | apply za)); refine zp (cs := #[.string t187, .int .i64 t188, .int .i64 0, .int .i64 0, .int .i64 0, .string ⟨#[]⟩, .bool false]) ?_ 2 _ rfl; (with_reducible repeat (first | apply zn | apply zd | apply za)); refine zp (cs := #[.string t187, .int .i64 0, .int .i64 0, .int .i64 0, .int .i64 0, .string ⟨#[]⟩, .bool false]) ?_ 1 _ rfl; (with_reducible repeat (first | apply zn | apply zd | apply za)); refine zp (cs := #[.string ⟨#[]⟩, .int .i64 0, .int .i64 0, .int .i64 0, .int .i64 0, .string ⟨#[]⟩, .bool false]) ?_ 0 _ rfl; (with_reducible repeat (first | apply zn | apply zd | apply za)); refine zr ?_ NB186_195.out _; exact KK2) Tryd.underlying81 rfl (by kernel_rfl)) rfl ?_
 exact ⟨by first | rfl | simp [*], by repeat (first | (with_reducible first | exact HBW | apply pa | apply pd | apply pe | refine zs ?_ GE185.out | refine zs ?_ GE186.out | refine zs ?_ GE195.out) | exact HBW)⟩
def uR04_TextS.f (k : Nat) (a0_0 : ByteArray) (a0_1 : Int) (a0_2 : Int) (a0_3 : Int) (a0_4 : Int) (a0_5 : ByteArray) (a0_6 : Bool) (a1 : Int) : Option (ByteArray × Int × Int × Int × Int × ByteArray × Bool) := (uR04_Text.f k a0_0 a0_1 a0_2 a0_3 a0_4 a0_5 a0_6 a1).bind fun bt223 => (some (bt223.1, bt223.2.1, bt223.2.2.1, bt223.2.2.2.1, bt223.2.2.2.2.1, bt223.2.2.2.2.2.2.2, bt223.2.2.2.2.2.2.1))
theorem uR04_TextS.calls (k : Nat) (a0_0 : ByteArray) (a0_1 : Int) (a0_2 : Int) (a0_3 : Int) (a0_4 : Int) (a0_5 : ByteArray) (a0_6 : Bool) (a1 : Int) (r1 : ByteArray) (r2 : Int) (r3 : Int) (r4 : Int) (r5 : Int) (r6 : ByteArray) (r7 : Bool) (w : World) (h : uR04_TextS.f k a0_0 a0_1 a0_2 a0_3 a0_4 a0_5 a0_6 a1 = some (r1, r2, r3, r4, r5, r6, r7)) :
 Calls Tryd.prog 40 #[.agg #[.string a0_0, .int .i64 a0_1, .int .i64 a0_2, .int .i64 a0_3, .int .i64 a0_4, .string a0_5, .bool a0_6], .int .i64 a1] w fun e w' => e = .returned (.agg #[.string r1, .int .i64 r2, .int .i64 r3, .int .i64 r4, .int .i64 r5, .string r6, .bool r7]) ∧ Below w.heap.size w w' := by
 have hu81 := Tryd.underlying81
 have HB := ak_ (Below.refl w.heap.size w)
 have H : ((uR04_Text.f k a0_0 a0_1 a0_2 a0_3 a0_4 a0_5 a0_6 a1).bind fun bt223 => (some (bt223.1, bt223.2.1, bt223.2.2.1, bt223.2.2.2.1, bt223.2.2.2.2.1, bt223.2.2.2.2.2.2.2, bt223.2.2.2.2.2.2.1))) = some (r1, r2, r3, r4, r5, r6, r7) := h
 clear h
 replace H := ob_ H
 obtain ⟨⟨t223, t224, t225, t226, t227, t228, t229, t230⟩, A30, H⟩ := H
 replace H : (some (t223, t224, t225, t226, t227, t230, t229)) = some (r1, r2, r3, r4, r5, r6, r7) := H
 have A3 := ak_ A30
 clear A30
 simp only [Option.some.injEq, Prod.mk.injEq] at H
 obtain ⟨rfl, rfl, rfl, rfl, rfl, rfl, rfl⟩ := H
 go_enter Tryd.func40, Tryd.ntmps40
 go_upto_region 2 with (first | ((with_reducible refine gate_dst (N := 2) rfl ?_); refine box_event ?hg (N := 2) ?hd (cs := #[.string a0_0, .int .i64 a0_1, .int .i64 a0_2, .int .i64 a0_3, .int .i64 a0_4, .string a0_5, .bool a0_6]) (t := 81) ?hr ?_; (case hd | hg => rfl); (case hr => first | (go_simp; done) | (go_simp; rfl)); intro gb221 hg w4 hbox hb; have n0_ := ak_ (ps (by with_reducible repeat first | exact HB.out | apply pa | apply pd | apply pe) hb); have n1_ := ak_ (hbox); have n2_ := ak_ ((by rw [hg]; exact (below_size (by with_reducible repeat first | exact HB.out | apply pa | apply pd | apply pe)) : w.heap.size ≤ gb221)); have n3_ := ak_ ((by rw [hg]; exact (below_size (by with_reducible repeat first | exact HB.out | apply pa | apply pd | apply pe)) : w.heap.size ≤ gb221)); clear HB; have HB := n0_; have BK221 := n1_; have GW221 := n2_; have GE221 := n3_; clear n0_ n1_ n2_ n3_ hb hbox hg) | ((with_reducible refine gate_dst (N := 4) rfl ?_); refine box_event ?hg (N := 4) ?hd (cs := #[.string ⟨#[]⟩, .int .i64 0, .int .i64 0, .int .i64 0, .int .i64 0, .string ⟨#[]⟩, .bool false]) (t := 81) ?hr ?_; (case hd | hg => rfl); (case hr => first | (go_simp; done) | (go_simp; rfl)); intro gb222 hg w5 hbox hb; have n0_ := ak_ (blk_below (g := gb221) (o := .cells #[.string a0_0, .int .i64 a0_1, .int .i64 a0_2, .int .i64 a0_3, .int .i64 a0_4, .string a0_5, .bool a0_6] 81 (0, 0)) (by (with_reducible repeat (first | apply zn | apply zd | apply za)); exact BK221.out) hb); have n1_ := ak_ (ps (by with_reducible repeat first | exact HB.out | apply pa | apply pd | apply pe | refine zs ?_ GE221.out) hb); have n2_ := ak_ (hbox); have n3_ := ak_ ((by rw [hg]; exact (below_size (by with_reducible repeat first | exact HB.out | apply pa | apply pd | apply pe | refine zs ?_ GE221.out)) : w.heap.size ≤ gb222)); have n4_ := ak_ ((by rw [hg]; exact (below_size (by with_reducible repeat first | exact HB.out | apply pa | apply pd | apply pe | refine zs ?_ GE221.out)) : w.heap.size ≤ gb222)); have n5_ := ak_ ((by rw [hg]; exact Nat.ne_of_lt (blk_lt (g := gb221) (by (with_reducible repeat (first | apply zn | apply zd | apply za)); exact BK221.out)) : gb221 ≠ gb222)); have n6_ := ak_ ((by rw [hg]; exact Nat.ne_of_gt (blk_lt (g := gb221) (by (with_reducible repeat (first | apply zn | apply zd | apply za)); exact BK221.out)) : gb222 ≠ gb221)); clear BK221 HB; have BK221 := n0_; have HB := n1_; have BK222 := n2_; have GW222 := n3_; have GE222 := n4_; have NB221_222 := n5_; have NB222_221 := n6_; clear n0_ n1_ n2_ n3_ n4_ n5_ n6_ hb hbox hg; have hnb6 := NB221_222.out; have hnc6 := NB222_221.out; have hcz7_0 : w5.cell? ⟨gb221, 0, none⟩ = some (.string a0_0) := (zc BK221.out 0).trans rfl; have hcz7_1 : w5.cell? ⟨gb221, 1, none⟩ = some (.int .i64 a0_1) := (zc BK221.out 1).trans rfl; have hcz7_2 : w5.cell? ⟨gb221, 2, none⟩ = some (.int .i64 a0_2) := (zc BK221.out 2).trans rfl; have hcz7_3 : w5.cell? ⟨gb221, 3, none⟩ = some (.int .i64 a0_3) := (zc BK221.out 3).trans rfl; have hcz7_4 : w5.cell? ⟨gb221, 4, none⟩ = some (.int .i64 a0_4) := (zc BK221.out 4).trans rfl; have hcz7_5 : w5.cell? ⟨gb221, 5, none⟩ = some (.string a0_5) := (zc BK221.out 5).trans rfl; have hcz7_6 : w5.cell? ⟨gb221, 6, none⟩ = some (.bool a0_6) := (zc BK221.out 6).trans rfl; have hfz7_0 := zf BK221.out 0; have hfz7_1 := zf BK221.out 1; have hfz7_2 := zf BK221.out 2; have hfz7_3 := zf BK221.out 3; have hfz7_4 := zf BK221.out 4; have hfz7_5 := zf BK221.out 5; have hfz7_6 := zf BK221.out 6) | ((with_reducible refine gate_callee (f := 69) rfl ?_); refine goesL_ (some 10) rfl rfl Tryd.func69 (by kernel_rfl) rfl #[.agg #[.string a0_0, .int .i64 a0_1, .int .i64 a0_2, .int .i64 a0_3, .int .i64 a0_4, .string a0_5, .bool a0_6], .int .i64 a1] rfl (by (try simp only [mt_, mc_, mn_]); first | done | rfl) ?_; (with_reducible refine (uR04_Text.calls k a0_0 a0_1 a0_2 a0_3 a0_4 a0_5 a0_6 a1 t223 t224 t225 t226 t227 t228 t229 t230 _ A3.out).mono ?_); rintro e w8 ⟨rfl, hb⟩; refine ⟨_, rfl, ?_⟩; have n0_ := ak_ (blk_below (g := gb221) (o := .cells #[.string a0_0, .int .i64 a0_1, .int .i64 a0_2, .int .i64 a0_3, .int .i64 a0_4, .string a0_5, .bool a0_6] 81 (0, 0)) (by (with_reducible repeat (first | apply zn | apply zd | apply za)); exact BK221.out) hb); have n1_ := ak_ (blk_below (g := gb222) (o := .cells #[.string ⟨#[]⟩, .int .i64 0, .int .i64 0, .int .i64 0, .int .i64 0, .string ⟨#[]⟩, .bool false] 81 (0, 0)) (by (with_reducible repeat (first | apply zn | apply zd | apply za)); exact BK222.out) hb); have n2_ := ak_ (ps (by with_reducible repeat first | exact HB.out | apply pa | apply pd | apply pe | refine zs ?_ GE221.out | refine zs ?_ GE222.out) hb); clear BK221 BK222 HB; have BK221 := n0_; have BK222 := n1_; have HB := n2_; clear n0_ n1_ n2_) | ((with_reducible refine gate_dst (N := 5) rfl ?_); refine box_event ?hg (N := 5) ?hd (cs := #[.string ⟨#[]⟩, .int .i64 0, .int .i64 0, .int .i64 0, .int .i64 0, .string ⟨#[]⟩, .bool false]) (t := 81) ?hr ?_; (case hd | hg => rfl); (case hr => first | (go_simp; done) | (go_simp; rfl)); intro gb231 hg w9 hbox hb; have n0_ := ak_ (blk_below (g := gb221) (o := .cells #[.string a0_0, .int .i64 a0_1, .int .i64 a0_2, .int .i64 a0_3, .int .i64 a0_4, .string a0_5, .bool a0_6] 81 (0, 0)) (by (with_reducible repeat (first | apply zn | apply zd | apply za)); exact BK221.out) hb); have n1_ := ak_ (blk_below (g := gb222) (o := .cells #[.string ⟨#[]⟩, .int .i64 0, .int .i64 0, .int .i64 0, .int .i64 0, .string ⟨#[]⟩, .bool false] 81 (0, 0)) (by (with_reducible repeat (first | apply zn | apply zd | apply za)); exact BK222.out) hb); have n2_ := ak_ (ps (by with_reducible repeat first | exact HB.out | apply pa | apply pd | apply pe | refine zs ?_ GE221.out | refine zs ?_ GE222.out) hb); have n3_ := ak_ (hbox); have n4_ := ak_ ((by rw [hg]; exact (below_size (by with_reducible repeat first | exact HB.out | apply pa | apply pd | apply pe | refine zs ?_ GE221.out | refine zs ?_ GE222.out)) : w.heap.size ≤ gb231)); have n5_ := ak_ ((by rw [hg]; exact (below_size (by with_reducible repeat first | exact HB.out | apply pa | apply pd | apply pe | refine zs ?_ GE221.out | refine zs ?_ GE222.out)) : w.heap.size ≤ gb231)); have n6_ := ak_ ((by rw [hg]; exact Nat.ne_of_lt (blk_lt (g := gb221) (by (with_reducible repeat (first | apply zn | apply zd | apply za)); exact BK221.out)) : gb221 ≠ gb231)); have n7_ := ak_ ((by rw [hg]; exact Nat.ne_of_gt (blk_lt (g := gb221) (by (with_reducible repeat (first | apply zn | apply zd | apply za)); exact BK221.out)) : gb231 ≠ gb221)); have n8_ := ak_ ((by rw [hg]; exact Nat.ne_of_lt (blk_lt (g := gb222) (by (with_reducible repeat (first | apply zn | apply zd | apply za)); exact BK222.out)) : gb222 ≠ gb231)); have n9_ := ak_ ((by rw [hg]; exact Nat.ne_of_gt (blk_lt (g := gb222) (by (with_reducible repeat (first | apply zn | apply zd | apply za)); exact BK222.out)) : gb231 ≠ gb222)); clear BK221 BK222 HB; have BK221 := n0_; have BK222 := n1_; have HB := n2_; have BK231 := n3_; have GW231 := n4_; have GE231 := n5_; have NB221_231 := n6_; have NB231_221 := n7_; have NB222_231 := n8_; have NB231_222 := n9_; clear n0_ n1_ n2_ n3_ n4_ n5_ n6_ n7_ n8_ n9_ hb hbox hg; have hnb10 := NB231_221.out; have hnc10 := NB221_231.out; have hnb11 := NB231_222.out; have hnc11 := NB222_231.out; have hcz12_0 : w9.cell? ⟨gb231, 0, none⟩ = some (.string ⟨#[]⟩) := (zc BK231.out 0).trans rfl; have hcz12_1 : w9.cell? ⟨gb231, 1, none⟩ = some (.int .i64 0) := (zc BK231.out 1).trans rfl; have hcz12_2 : w9.cell? ⟨gb231, 2, none⟩ = some (.int .i64 0) := (zc BK231.out 2).trans rfl; have hcz12_3 : w9.cell? ⟨gb231, 3, none⟩ = some (.int .i64 0) := (zc BK231.out 3).trans rfl; have hcz12_4 : w9.cell? ⟨gb231, 4, none⟩ = some (.int .i64 0) := (zc BK231.out 4).trans rfl; have hcz12_5 : w9.cell? ⟨gb231, 5, none⟩ = some (.string ⟨#[]⟩) := (zc BK231.out 5).trans rfl; have hcz12_6 : w9.cell? ⟨gb231, 6, none⟩ = some (.bool false) := (zc BK231.out 6).trans rfl; have hfz12_0 := zf BK231.out 0; have hfz12_1 := zf BK231.out 1; have hfz12_2 := zf BK231.out 2; have hfz12_3 := zf BK231.out 3; have hfz12_4 := zf BK231.out 4; have hfz12_5 := zf BK231.out 5; have hfz12_6 := zf BK231.out 6; have hcz13_0 : w9.cell? ⟨gb222, 0, none⟩ = some (.string ⟨#[]⟩) := (zc BK222.out 0).trans rfl; have hcz13_1 : w9.cell? ⟨gb222, 1, none⟩ = some (.int .i64 0) := (zc BK222.out 1).trans rfl; have hcz13_2 : w9.cell? ⟨gb222, 2, none⟩ = some (.int .i64 0) := (zc BK222.out 2).trans rfl; have hcz13_3 : w9.cell? ⟨gb222, 3, none⟩ = some (.int .i64 0) := (zc BK222.out 3).trans rfl; have hcz13_4 : w9.cell? ⟨gb222, 4, none⟩ = some (.int .i64 0) := (zc BK222.out 4).trans rfl; have hcz13_5 : w9.cell? ⟨gb222, 5, none⟩ = some (.string ⟨#[]⟩) := (zc BK222.out 5).trans rfl; have hcz13_6 : w9.cell? ⟨gb222, 6, none⟩ = some (.bool false) := (zc BK222.out 6).trans rfl; have hfz13_0 := zf BK222.out 0; have hfz13_1 := zf BK222.out 1; have hfz13_2 := zf BK222.out 2; have hfz13_3 := zf BK222.out 3; have hfz13_4 := zf BK222.out 4; have hfz13_5 := zf BK222.out 5; have hfz13_6 := zf BK222.out 6))
 have KK1 := (zp (zp (zp (zp (zp (zp (zp BK231.out 0 (.string t223) rfl) 1 (.int .i64 t224) rfl) 2 (.int .i64 t225) rfl) 3 (.int .i64 t226) rfl) 4 (.int .i64 t227) rfl) 5 (.string t228) rfl) 6 (.bool t229) rfl)
 have KK2 := (zr (p := ⟨gb231, 6, none⟩) (zr (p := ⟨gb231, 5, none⟩) (zr (p := ⟨gb231, 4, none⟩) (zr (p := ⟨gb231, 3, none⟩) (zr (p := ⟨gb231, 2, none⟩) (zr (p := ⟨gb231, 1, none⟩) (zr (p := ⟨gb231, 0, none⟩) BK222.out NB222_231.out (.string t223)) NB222_231.out (.int .i64 t224)) NB222_231.out (.int .i64 t225)) NB222_231.out (.int .i64 t226)) NB222_231.out (.int .i64 t227)) NB222_231.out (.string t228)) NB222_231.out (.bool t229))
 have HBW := (zs (g := gb231) (j := 6) (v := .bool t229) (zs (g := gb231) (j := 5) (v := .string t228) (zs (g := gb231) (j := 4) (v := .int .i64 t227) (zs (g := gb231) (j := 3) (v := .int .i64 t226) (zs (g := gb231) (j := 2) (v := .int .i64 t225) (zs (g := gb231) (j := 1) (v := .int .i64 t224) (zs (g := gb231) (j := 0) (v := .string t223) HB.out GE231.out) GE231.out) GE231.out) GE231.out) GE231.out) GE231.out) GE231.out)
 generalize (((((((w9.setCell ⟨gb231, 0, none⟩ (.string t223)).setCell ⟨gb231, 1, none⟩ (.int .i64 t224)).setCell ⟨gb231, 2, none⟩ (.int .i64 t225)).setCell ⟨gb231, 3, none⟩ (.int .i64 t226)).setCell ⟨gb231, 4, none⟩ (.int .i64 t227)).setCell ⟨gb231, 5, none⟩ (.string t228)).setCell ⟨gb231, 6, none⟩ (.bool t229)) = W_ at *
 have hz0 := zc KK1 0
 have hz1 := zc KK1 1
 have hz2 := zc KK1 2
 have hz3 := zc KK1 3
 have hz4 := zc KK1 4
 have hz5 := zc KK1 5
 have hz6 := zc KK1 6
 have hf0 := zf KK1 0
 have hf1 := zf KK1 1
 have hf2 := zf KK1 2
 have hf3 := zf KK1 3
 have hf4 := zf KK1 4
 have hf5 := zf KK1 5
 have hf6 := zf KK1 6
 have gz0 := zc KK2 0
 have gz1 := zc KK2 1
 have gz2 := zc KK2 2
 have gz3 := zc KK2 3
 have gz4 := zc KK2 4
 have gz5 := zc KK2 5
 have gz6 := zc KK2 6
 have gf0 := zf KK2 0
 have gf1 := zf KK2 1
 have gf2 := zf KK2 2
 have gf3 := zf KK2 3
 have gf4 := zf KK2 4
 have gf5 := zf KK2 5
 have gf6 := zf KK2 6
 go_wp2
 refine bodyPost_ret (results_cell_row rfl _ _ gb222 81 #[.string t223, .int .i64 t224, .int .i64 t225, .int .i64 t226, .int .i64 t227, .string t230, .bool t229] (0, 0) _ rfl (by (with_reducible repeat (first | apply zn | apply zd | apply za)); refine zp (cs := #[.string t223, .int .i64 t224, .int .i64 t225, .int .i64 t226, .int .i64 t227, .string t230, .bool false]) ?_ 6 _ rfl; (with_reducible repeat (first | apply zn | apply zd | apply za)); refine zp (cs := #[.string t223, .int .i64 t224, .int .i64 t225, .int .i64 t226, .int .i64 t227, .string ⟨#[]⟩, .bool false]) ?_ 5 _ rfl; (with_reducible repeat (first | apply zn | apply zd | apply za)); refine zp (cs := #[.string t223, .int .i64 t224, .int .i64 t225, .int .i64 t226, .int .i64 0, .string ⟨#[]⟩, .bool false]) ?_ 4 _ rfl; (with_reducible repeat (first | apply zn | apply zd | apply za)); refine zp (cs := #[.string t223, .int .i64 t224, .int .i64 t225, .int .i64 0, .int .i64 0, .string ⟨#[]⟩, .bool false]) ?_ 3 _ rfl; (with_reducible repeat (first | apply zn | apply zd | apply za)); refine zp (cs := #[.string t223, .int .i64 t224, .int .i64 0, .int .i64 0, .int .i64 0, .string ⟨#[]⟩, .bool false]) ?_ 2 _ rfl; (with_reducible repeat (first | apply zn | apply zd | apply za)); refine zp (cs := #[.string t223, .int .i64 0, .int .i64 0, .int .i64 0, .int .i64 0, .string ⟨#[]⟩, .bool false]) ?_ 1 _ rfl; (with_reducible repeat (first | apply zn | apply zd | apply za)); refine zp (cs := #[.string ⟨#[]⟩, .int .i64 0, .int .i64 0, .int .i64 0, .int .i64 0, .string ⟨#[]⟩, .bool false]) ?_ 0 _ rfl; (with_reducible repeat (first | apply zn | apply zd | apply za)); refine zr ?_ NB222_231.out _; exact KK2) Tryd.underlying81 rfl (by kernel_rfl)) rfl ?_
 exact ⟨by first | rfl | simp [*], by repeat (first | (with_reducible first | exact HBW | apply pa | apply pd | apply pe | refine zs ?_ GE221.out | refine zs ?_ GE222.out | refine zs ?_ GE231.out) | exact HBW)⟩
def uR04_FlagY.f (a0_0 : ByteArray) (a0_1 : Int) (a0_2 : Int) (a0_3 : Int) (a0_4 : Int) (a0_5 : ByteArray) (a0_6 : Bool) : Option (ByteArray × Int × Int × Int × Int × ByteArray × Bool) := (uR04_Flag.f a0_0 a0_1 a0_2 a0_3 a0_4 a0_5 a0_6).bind fun bt366 => (some (bt366.1, bt366.2.1, bt366.2.2.1, bt366.2.2.2.1, bt366.2.2.2.2.1, bt366.2.2.2.2.2.1, bt366.2.2.2.2.2.2.2))
structure Over (b : List Int) (a fa fe : Int) (s : List Int) : Prop where
  rd : Rd b a fa fe
  sofar : fe = 0 → b.take a.toNat = s
theorem nbs_vfold8 (c0 c1 c2 c3 c4 c5 c6 c7 : Int) (h0 : 0 ≤ c0 ∧ c0 ≤ 255) (h1 : 0 ≤ c1 ∧ c1 ≤ 255) (h2 : 0 ≤ c2 ∧ c2 ≤ 255) (h3 : 0 ≤ c3 ∧ c3 ≤ 255) (h4 : 0 ≤ c4 ∧ c4 ≤ 255) (h5 : 0 ≤ c5 ∧ c5 ≤ 255) (h6 : 0 ≤ c6 ∧ c6 ≤ 255) (h7 : 0 ≤ c7 ∧ c7 ≤ 255) :
    nbs (vfold [c0, c1, c2, c3, c4, c5, c6, c7]) 8 = [c0, c1, c2, c3, c4, c5, c6, c7] := by
  rw [vfold8 _ _ _ _ _ _ _ _ h0 h1 h2 h3 h4 h5 h6 h7, nbs8]
  have d : ∀ x c : Int, 0 ≤ c → c ≤ 255 → (256 * x + c) / 256 = x := fun x c a b => by omega
  have m : ∀ x c : Int, 0 ≤ c → c ≤ 255 → (256 * x + c) % 256 = c := fun x c a b => by omega
  rw [d _ c7 h7.1 h7.2, d _ c6 h6.1 h6.2, d _ c5 h5.1 h5.2, d _ c4 h4.1 h4.2, d _ c3 h3.1 h3.2, d _ c2 h2.1 h2.2, d _ c1 h1.1 h1.2]
  rw [m _ c7 h7.1 h7.2, m _ c6 h6.1 h6.2, m _ c5 h5.1 h5.2, m _ c4 h4.1 h4.2, m _ c3 h3.1 h3.2, m _ c2 h2.1 h2.2, m _ c1 h1.1 h1.2, m _ c0 h0.1 h0.2]
theorem clampN_id {r : Int} (h0 : 0 ≤ r) (h1 : r ≤ 4611686018427387904) : clampN r = r := by
  unfold clampN mn mx
  rw [if_neg (by omega), if_neg (by omega)]
theorem num_over {b : List Int} {a fa fe : Int} {s : List Int} (hB : BB b) (h : Over b a fa fe s) (k : Nat) (N : Int) (S : ByteArray) (Y : Bool) : ∃ r a' f' e', fR_Num.f b a fa fe = some (r, a', f', e') ∧ uR04_TakeN.f (k + 10) (strOfNums b) a fe fa N S Y = some (strOfNums b, a', e', f', r, S, Y) ∧ Over b a' f' e' (s ++ nbs (clampN r) 8) ∧ 0 ≤ r ∧ r ≤ 4611686018427387904 ∧ (fe ≠ 0 → e' ≠ 0) := by
  obtain ⟨r, a', f', e', hn, hr, ht, hz, q0, q1⟩ := take_eq hB h.rd k N S Y
  refine ⟨r, a', f', e', hn, by unfold uR04_TakeN.f; rw [ht]; rfl, ⟨hr, fun he => ?_⟩, q0, q1, hz⟩
  have hfe : fe = 0 := by
    by_cases hf : fe = 0
    · exact hf
    · exact absurd he (hz hf)
  have hl := h.rd.len; have h0 := h.rd.a0; have h1 := h.rd.a1
  rw [clampN_id q0 q1, ← h.sofar hfe]
  unfold fR_Num.f at hn
  rw [h.rd.ok, if_pos (dt_ hfe)] at hn
  obtain ⟨n, rfl⟩ := Int.eq_ofNat_of_zero_le h0
  have w1 : wrap64 ((b.length : Int) - n) = (b.length : Int) - n := by unfold wrap64; omega
  rw [w1] at hn
  by_cases hsh : (b.length : Int) - n < 8
  · rw [if_pos hsh] at hn
    simp only [Option.some.injEq, Prod.mk.injEq] at hn
    omega
  · rw [if_neg hsh, if_pos ⟨h0, by omega⟩, show ((n : Int) + 8).toNat = n + 8 by omega, Int.toNat_natCast] at hn
    have hlen : n + 8 ≤ b.length := by omega
    have hs := seg8 b n hlen
    have hv := nbs_vfold8 _ _ _ _ _ _ _ _ (rd_BB hB n) (rd_BB hB (n + 1 : Nat)) (rd_BB hB (n + 2 : Nat)) (rd_BB hB (n + 3 : Nat)) (rd_BB hB (n + 4 : Nat)) (rd_BB hB (n + 5 : Nat)) (rd_BB hB (n + 6 : Nat)) (rd_BB hB (n + 7 : Nat))
    rw [← hs] at hv
    have hv0 := vfold_lo ((b.take (n + 8)).drop n)
    by_cases hv1 : vfold ((b.take (n + 8)).drop n) > 4611686018427387904
    · rw [if_pos hv1] at hn
      simp only [Option.some.injEq, Prod.mk.injEq] at hn
      omega
    · rw [if_neg hv1] at hn
      simp only [Option.some.injEq, Prod.mk.injEq] at hn
      obtain ⟨hr1, ha, _, _⟩ := hn
      have e2 : wrap64 (vfold ((b.take (n + 8)).drop n)) = vfold ((b.take (n + 8)).drop n) := by unfold wrap64; omega
      rw [e2] at hr1
      rw [← ha, ← hr1, hv, show ((n : Int) + 8).toNat = n + 8 by omega, Int.toNat_natCast]
      have := List.take_append_drop n (b.take (n + 8))
      rw [List.take_take, show min n (n + 8) = n by omega] at this
      exact this.symm
theorem bytesOf_strOfNums {l : List Int} (h : BB l) : bytesOf (strOfNums l) = l := by
  unfold bytesOf strOfNums
  simp only [List.map_map]
  conv => rhs; rw [← List.map_id l]
  apply List.map_congr_left
  intro c hc
  have := h c hc
  simp only [Function.comp, UInt8.toNat_ofNat', id]
  omega
theorem text_over {b : List Int} {a fa fe : Int} {s : List Int} (hB : BB b) (h : Over b a fa fe s) (k : Nat) (N : Int) (S : ByteArray) (Y : Bool) (m : Int) (hm : m ≤ 100000) : ∃ r a' f' e', fR_Text.f b a fa fe m = some (r, a', f', e') ∧ uR04_TextS.f (k + 10) (strOfNums b) a fe fa N S Y m = some (strOfNums b, a', e', f', N, r, Y) ∧ Over b a' f' e' (s ++ nbs (clampN r.size) 8 ++ bytesOf r) ∧ r.size ≤ 100000 ∧ (fe ≠ 0 → e' ≠ 0) := by
  obtain ⟨n, a1, f1, e1, hn, _, ho, n0, n1, hz⟩ := num_over hB h k N S Y
  obtain ⟨r, a', f', e', ht, hr, hx⟩ := text_eq hB h.rd k N S Y m
  have hr1 := ho.rd
  have hl := hr1.len; have h0 := hr1.a0; have h1 := hr1.a1
  have ht' := ht
  unfold fR_Text.f at ht'
  rw [hn, bs_] at ht'
  dsimp only at ht'
  rw [hr1.ok] at ht'
  have hsz : (⟨#[]⟩ : ByteArray).size ≤ 100000 := by decide
  have key : r.size ≤ 100000 ∧ (fe ≠ 0 → e' ≠ 0) ∧ (e' = 0 → b.take a'.toNat = s ++ nbs (clampN r.size) 8 ++ bytesOf r) := by
    by_cases he : e1 = 0
    · rw [if_pos (dt_ he)] at ht'
      have hfe : fe = 0 := by
        by_cases hf : fe = 0
        · exact hf
        · exact absurd he (hz hf)
      by_cases hq : n > m
      · rw [if_pos hq] at ht'
        simp only [Option.some.injEq, Prod.mk.injEq] at ht'
        obtain ⟨rfl, _, _, rfl⟩ := ht'
        exact ⟨hsz, fun _ => by omega, fun he => absurd he (by omega)⟩
      · rw [if_neg hq] at ht'
        have e2 : wrap64 ((b.length : Int) - a1) = (b.length : Int) - a1 := by unfold wrap64; omega
        rw [e2] at ht'
        by_cases hsh : n > (b.length : Int) - a1
        · rw [if_pos hsh] at ht'
          simp only [Option.some.injEq, Prod.mk.injEq] at ht'
          obtain ⟨rfl, _, _, rfl⟩ := ht'
          exact ⟨hsz, fun _ => by omega, fun he => absurd he (by omega)⟩
        · rw [if_neg hsh, if_pos ⟨h0, n0, by omega⟩] at ht'
          simp only [Option.some.injEq, Prod.mk.injEq] at ht'
          obtain ⟨rfl, rfl, _, rfl⟩ := ht'
          obtain ⟨p, rfl⟩ := Int.eq_ofNat_of_zero_le h0
          obtain ⟨q, rfl⟩ := Int.eq_ofNat_of_zero_le n0
          have e3 : ((p : Int) + (q : Int)).toNat = p + q := by omega
          rw [e3, Int.toNat_natCast, strOfNums_len]
          have e4 : ((b.take (p + q)).drop p).length = q := by rw [List.length_drop, List.length_take]; omega
          have hBs : BB ((b.take (p + q)).drop p) := fun x hx => hB x (List.mem_of_mem_take (List.mem_of_mem_drop hx))
          rw [e4, bytesOf_strOfNums hBs, ← ho.sofar he, Int.toNat_natCast]
          refine ⟨by omega, fun hf => absurd hfe hf, fun _ => ?_⟩
          have := List.take_append_drop p (b.take (p + q))
          rw [List.take_take, show min p (p + q) = p by omega] at this
          exact this.symm
    · rw [if_neg (by rw [df_ he]; decide)] at ht'
      simp only [Option.some.injEq, Prod.mk.injEq] at ht'
      obtain ⟨rfl, _, _, rfl⟩ := ht'
      exact ⟨hsz, fun _ => he, fun h => absurd h he⟩
  exact ⟨r, a', f', e', ht, by unfold uR04_TextS.f; rw [hx]; rfl, ⟨hr, key.2.2⟩, key.1, key.2.1⟩
theorem end_over {b : List Int} {a fa fe : Int} {s : List Int} (h : Over b a fa fe s) (k : Nat) (N : Int) (S : ByteArray) (Y : Bool) : ∃ r a' f' e', fR_End.f (k + 1) b a fa fe = some (r, a', f', e') ∧ uR04_End.f (strOfNums b) a fe fa N S Y = some (strOfNums b, a', e', f', N, S, Y) ∧ r = decide (e' = 0) ∧ (e' = 0 → b = s) ∧ (fe ≠ 0 → e' ≠ 0) := by
  obtain ⟨r, a', f', e', hn, hr, hx, hd⟩ := end_eq h.rd k N S Y
  have hl := h.rd.len; have h0 := h.rd.a0; have h1 := h.rd.a1
  have hs : ((strOfNums b).size : Int) = b.length := by simp [strOfNums, ByteArray.size]
  have hx' := hx
  unfold uR04_End.f at hx'
  rw [hs] at hx'
  refine ⟨r, a', f', e', hn, hx, hd, fun he => ?_, fun hf => ?_⟩
  · by_cases hfe : fe = 0
    · rw [if_pos hfe] at hx'
      by_cases hp : a < (b.length : Int)
      · rw [if_pos hp] at hx'
        unfold uR04_fail.f at hx'
        simp only [bs_, Option.some.injEq, Prod.mk.injEq] at hx'
        omega
      · have := h.sofar hfe
        rw [List.take_of_length_le (by omega)] at this
        exact this
    · rw [if_neg hfe] at hx'
      simp only [Option.some.injEq, Prod.mk.injEq] at hx'
      omega
  · rw [if_neg hf] at hx'
    simp only [Option.some.injEq, Prod.mk.injEq] at hx'
    omega
def fR_Count.f (s0_0 : List Int) (s0_1 : Int) (s0_2 : Int) (s0_3 : Int) (a1 : Int) (a2 : Int) : Option (Int × Int × Int × Int) := (fR_Num.f s0_0 s0_1 s0_2 s0_3).bind fun bt529 => ((fR_ok.f s0_0 bt529.2.1 bt529.2.2.1 bt529.2.2.2).bind fun bt533 => (if bt533.1 = true then (if bt529.1 > a1 then ((fR_fail.f s0_0 bt533.2.1 bt533.2.2.1 bt533.2.2.2 s0_1 4).bind fun bt537 => (some (0, bt537.1, bt537.2.1, bt537.2.2))) else ((fR_left.f s0_0 bt533.2.1 bt533.2.2.1 bt533.2.2.2).bind fun bt540 => (if (mx a2 1) = 0 then (none) else (if bt529.1 > (wrap64 (Int.tdiv bt540.1 (mx a2 1))) then ((fR_fail.f s0_0 bt540.2.1 bt540.2.2.1 bt540.2.2.2 s0_1 2).bind fun bt544 => (some (0, bt544.1, bt544.2.1, bt544.2.2))) else (some (bt529.1, bt540.2.1, bt540.2.2.1, bt540.2.2.2)))))) else (some (0, bt533.2.1, bt533.2.2.1, bt533.2.2.2))))
namespace fR_Count
abbrev i108a_ := @IsS108.alloc
abbrev i108n_ := @IsS108.drewN
abbrev i108d_ := @IsS108.drew
end fR_Count
open fR_Count in
theorem fR_Count.calls (g : Nat) (s0_0 : List Int) (s0_1 : Int) (s0_2 : Int) (s0_3 : Int) (a1 : Int) (a2 : Int) (r1 : Int) (r2 : Int) (r3 : Int) (r4 : Int) (w0 w : World) (hI : IsS108 w0 w g s0_0 s0_1 s0_2 s0_3) (hB : Below w0.heap.size w0 w) (h : fR_Count.f s0_0 s0_1 s0_2 s0_3 a1 a2 = some (r1, r2, r3, r4)) :
 Calls Tryd.prog 54 #[.pointer (some ⟨g, 0, none⟩), .int .i64 a1, .int .i64 a2] w fun e w' => e = .returned (.int .i64 r1) ∧ IsS108 w0 w' g s0_0 r2 r3 r4 ∧ Below w0.heap.size w0 w' ∧ KeepBut w w' g none := by
 have HI0 := ak_ hI
 have HK := ak_ (KeepBut.refl w g none)
 have HL := ak_ hB.size
 clear hI
 have HW0 := ak_ hB.size
 have HB := ak_ hB
 clear hB
 have H : ((fR_Num.f s0_0 s0_1 s0_2 s0_3).bind fun bt529 => ((fR_ok.f s0_0 bt529.2.1 bt529.2.2.1 bt529.2.2.2).bind fun bt533 => (if bt533.1 = true then (if bt529.1 > a1 then ((fR_fail.f s0_0 bt533.2.1 bt533.2.2.1 bt533.2.2.2 s0_1 4).bind fun bt537 => (some (0, bt537.1, bt537.2.1, bt537.2.2))) else ((fR_left.f s0_0 bt533.2.1 bt533.2.2.1 bt533.2.2.2).bind fun bt540 => (if (mx a2 1) = 0 then (none) else (if bt529.1 > (wrap64 (Int.tdiv bt540.1 (mx a2 1))) then ((fR_fail.f s0_0 bt540.2.1 bt540.2.2.1 bt540.2.2.2 s0_1 2).bind fun bt544 => (some (0, bt544.1, bt544.2.1, bt544.2.2))) else (some (bt529.1, bt540.2.1, bt540.2.2.1, bt540.2.2.2)))))) else (some (0, bt533.2.1, bt533.2.2.1, bt533.2.2.2))))) = some (r1, r2, r3, r4) := h
 clear h
 replace H := ob_ H
 obtain ⟨⟨t529, t530, t531, t532⟩, A40, H⟩ := H
 replace H : ((fR_ok.f s0_0 t530 t531 t532).bind fun bt533 => (if bt533.1 = true then (if t529 > a1 then ((fR_fail.f s0_0 bt533.2.1 bt533.2.2.1 bt533.2.2.2 s0_1 4).bind fun bt537 => (some (0, bt537.1, bt537.2.1, bt537.2.2))) else ((fR_left.f s0_0 bt533.2.1 bt533.2.2.1 bt533.2.2.2).bind fun bt540 => (if (mx a2 1) = 0 then (none) else (if t529 > (wrap64 (Int.tdiv bt540.1 (mx a2 1))) then ((fR_fail.f s0_0 bt540.2.1 bt540.2.2.1 bt540.2.2.2 s0_1 2).bind fun bt544 => (some (0, bt544.1, bt544.2.1, bt544.2.2))) else (some (t529, bt540.2.1, bt540.2.2.1, bt540.2.2.2)))))) else (some (0, bt533.2.1, bt533.2.2.1, bt533.2.2.2)))) = some (r1, r2, r3, r4) := H
 have A4 := ak_ A40
 clear A40
 replace H := ob_ H
 obtain ⟨⟨t533, t534, t535, t536⟩, A50, H⟩ := H
 replace H : (if t533 = true then (if t529 > a1 then ((fR_fail.f s0_0 t534 t535 t536 s0_1 4).bind fun bt537 => (some (0, bt537.1, bt537.2.1, bt537.2.2))) else ((fR_left.f s0_0 t534 t535 t536).bind fun bt540 => (if (mx a2 1) = 0 then (none) else (if t529 > (wrap64 (Int.tdiv bt540.1 (mx a2 1))) then ((fR_fail.f s0_0 bt540.2.1 bt540.2.2.1 bt540.2.2.2 s0_1 2).bind fun bt544 => (some (0, bt544.1, bt544.2.1, bt544.2.2))) else (some (t529, bt540.2.1, bt540.2.2.1, bt540.2.2.2)))))) else (some (0, t534, t535, t536))) = some (r1, r2, r3, r4) := H
 have A5 := ak_ A50
 clear A50
 have HF6 := ak_ H
 clear H
 obtain ⟨ASz7_0, cSz7_0, HGz7, hgz7, ⟨HSz7_0, _⟩⟩ := HI0.out
 have hcz7_0 := cellS108_0 HGz7
 have hcz7_1 := cellS108_1 HGz7
 have hcz7_2 := cellS108_2 HGz7
 have hcz7_3 := cellS108_3 HGz7
 have hfz7_1 := zf HGz7 1
 have hfz7_2 := zf HGz7 2
 have hfz7_3 := zf HGz7 3
 clear HGz7 hgz7
 go_enter Tryd.func54, Tryd.ntmps54
 go_upto_if 15 with (first | ((with_reducible refine gate_callee (f := 36) rfl ?_); refine goesL_ (some 14) rfl rfl Tryd.func36 (by kernel_rfl) rfl #[.pointer (some ⟨g, 0, none⟩)] rfl (by simp only [mt_, mc_, mn_] <;> rfl) ?_; (with_reducible refine (fR_Num.calls g s0_0 s0_1 s0_2 s0_3 t529 t530 t531 t532 w0 _ ?side1 ?side2 A4.out).mono ?_); (case side1 => repeat (first | (with_reducible first | exact HI0.out | apply i108a_ | apply i108n_ | apply i108d_ | apply IsS108.set_1 | apply IsS108.set_2 | apply IsS108.set_3) | exact HI0.out)); (case side2 => repeat (first | (with_reducible first | exact HB.out | apply pa | apply pd | apply pe | refine zs ?_ (IsS108.ge HI0.out)) | exact HB.out)); rintro e w8 ⟨rfl, hi, hb, hk⟩; refine ⟨_, rfl, ?_⟩; have n0_ := ak_ (KeepBut.trans (by with_reducible repeat first | exact HK.out | apply KeepBut.set_ | apply keep_drewN | apply keep_drew | apply keep_alloc) hk (.inl rfl)); have n1_ := ak_ (hb); have n2_ := ak_ (hi); clear HK HB HI0; have HK := n0_; have HB := n1_; have HI0 := n2_; clear n0_ n1_ n2_) | ((with_reducible refine gate_callee (f := 56) rfl ?_); refine goesL_ (some 17) rfl rfl Tryd.func56 (by kernel_rfl) rfl #[.pointer (some ⟨g, 0, none⟩)] rfl (by simp only [mt_, mc_, mn_] <;> rfl) ?_; (with_reducible refine (fR_ok.calls g s0_0 t530 t531 t532 t533 t534 t535 t536 w0 _ ?side1 ?side2 A5.out).mono ?_); (case side1 => repeat (first | (with_reducible first | exact HI0.out | apply i108a_ | apply i108n_ | apply i108d_ | apply IsS108.set_1 | apply IsS108.set_2 | apply IsS108.set_3) | exact HI0.out)); (case side2 => repeat (first | (with_reducible first | exact HB.out | apply pa | apply pd | apply pe | refine zs ?_ (IsS108.ge HI0.out)) | exact HB.out)); rintro e w9 ⟨rfl, hi, hb, hk⟩; refine ⟨_, rfl, ?_⟩; have n0_ := ak_ (KeepBut.trans (by with_reducible repeat first | exact HK.out | apply KeepBut.set_ | apply keep_drewN | apply keep_drew | apply keep_alloc) hk (.inl rfl)); have n1_ := ak_ (hb); have n2_ := ak_ (hi); clear HK HB HI0; have HK := n0_; have HB := n1_; have HI0 := n2_; clear n0_ n1_ n2_))
 (try simp only [Act.put, sa_, sz_, ss_])
 have H := HF6.out
 clear HF6
 by_cases c10 : t533 = true
 · subst c10
   have H1 : (if t529 > a1 then ((fR_fail.f s0_0 t534 t535 t536 s0_1 4).bind fun bt537 => (some (0, bt537.1, bt537.2.1, bt537.2.2))) else ((fR_left.f s0_0 t534 t535 t536).bind fun bt540 => (if (mx a2 1) = 0 then (none) else (if t529 > (wrap64 (Int.tdiv bt540.1 (mx a2 1))) then ((fR_fail.f s0_0 bt540.2.1 bt540.2.2.1 bt540.2.2.2 s0_1 2).bind fun bt544 => (some (0, bt544.1, bt544.2.1, bt544.2.2))) else (some (t529, bt540.2.1, bt540.2.2.1, bt540.2.2.2)))))) = some (r1, r2, r3, r4) := by rw [if_pos rfl] at H; exact H
   clear H
   have H := H1
   clear H1
   have HF11 := ak_ H
   clear H
   go_upto_if 19 with (fail)
   have H := HF11.out
   clear HF11
   by_cases c12 : t529 > a1
   · rw [if_pos c12] at H
     have c12b0 : decide (a1 < t529) = true := dt_ c12
     clear c12
     (first | rw [c12b0] | (simp only [i64_w, i32_w]; rw [c12b0]) | skip)
     replace H := ob_ H
     obtain ⟨⟨t537, t538, t539⟩, A130, H⟩ := H
     replace H : (some (0, t537, t538, t539)) = some (r1, r2, r3, r4) := H
     have A13 := ak_ A130
     clear A130
     simp only [Option.some.injEq, Prod.mk.injEq] at H
     obtain ⟨rfl, rfl, rfl, rfl⟩ := H
     go_wp2_with (first | ((with_reducible refine gate_callee (f := 58) rfl ?_); refine goesL_ (some 25) rfl rfl Tryd.func58 (by kernel_rfl) rfl #[.pointer (some ⟨g, 0, none⟩), .int .i64 s0_1, .int .i64 4] rfl (by simp only [mt_, mc_, mn_] <;> rfl) ?_; (with_reducible refine (fR_fail.calls g s0_0 t534 t535 t536 s0_1 4 t537 t538 t539 w0 _ ?side1 ?side2 A13.out).mono ?_); (case side1 => repeat (first | (with_reducible first | exact HI0.out | apply i108a_ | apply i108n_ | apply i108d_ | apply IsS108.set_1 | apply IsS108.set_2 | apply IsS108.set_3) | exact HI0.out)); (case side2 => repeat (first | (with_reducible first | exact HB.out | apply pa | apply pd | apply pe | refine zs ?_ (IsS108.ge HI0.out)) | exact HB.out)); rintro e w14 ⟨rfl, hi, hb, hk⟩; refine ⟨_, rfl, ?_⟩; have n0_ := ak_ (KeepBut.trans (by with_reducible repeat first | exact HK.out | apply KeepBut.set_ | apply keep_drewN | apply keep_drew | apply keep_alloc) hk (.inl rfl)); have n1_ := ak_ (hb); have n2_ := ak_ (hi); clear HK HB HI0; have HK := n0_; have HB := n1_; have HI0 := n2_; clear n0_ n1_ n2_))
     go_ret
     exact ⟨by first | rfl | simp [*], by repeat (first | (with_reducible first | exact HI0.out | apply i108a_ | apply i108n_ | apply i108d_ | apply IsS108.set_1 | apply IsS108.set_2 | apply IsS108.set_3) | exact HI0.out), by repeat (first | (with_reducible first | exact HB.out | apply pa | apply pd | apply pe | refine zs ?_ (IsS108.ge HI0.out)) | exact HB.out), by repeat (first | (with_reducible first | exact HK.out | apply KeepBut.set_ | apply keep_drewN | apply keep_drew | apply keep_alloc) | exact HK.out)⟩
   rw [if_neg c12] at H
   have c12b0 : decide (a1 < t529) = false := df_ c12
   clear c12
   (first | rw [c12b0] | (simp only [i64_w, i32_w]; rw [c12b0]) | skip)
   replace H := ob_ H
   obtain ⟨⟨t540, t541, t542, t543⟩, A150, H⟩ := H
   replace H : (if (mx a2 1) = 0 then (none) else (if t529 > (wrap64 (Int.tdiv t540 (mx a2 1))) then ((fR_fail.f s0_0 t541 t542 t543 s0_1 2).bind fun bt544 => (some (0, bt544.1, bt544.2.1, bt544.2.2))) else (some (t529, t541, t542, t543)))) = some (r1, r2, r3, r4) := H
   have A15 := ak_ A150
   clear A150
   obtain ⟨ji16, hji16⟩ : ∃ j_ : Int, (mx a2 1) = j_ := ⟨_, rfl⟩
   replace H : (if (ji16) = 0 then (none) else (if t529 > (wrap64 (Int.tdiv t540 (ji16))) then ((fR_fail.f s0_0 t541 t542 t543 s0_1 2).bind fun bt544 => (some (0, bt544.1, bt544.2.1, bt544.2.2))) else (some (t529, t541, t542, t543)))) = some (r1, r2, r3, r4) := by first | (rw [hji16] at H; exact H) | (simp only [hji16] at H ⊢; exact H)
   (try rw [hji16] at A15)
   (try (have hji16l : 1 ≤ ji16 := by (rw [← hji16]; unfold mx; (repeat' split) <;> omega)))
   (try (have hji16m : 0 ≤ ji16 := by omega))
   have hji16_ : (if a2 < 1 then 1 else a2) = ji16 := hji16
   by_cases c17 : (ji16) = 0
   · rw [if_pos c17] at H
     exact absurd H (by simp)
   rw [if_neg c17] at H
   have c17b0 : ((ji16) == 0) = false := beq_eq_false_iff_ne.mpr c17
   have c17b1 : ((ji16) != 0) = true := bne_iff_ne.mpr c17
   have HF18 := ak_ H
   clear H
   go_upto_if 26 with (first | ((with_reducible refine gate_callee (f := 57) rfl ?_); refine goesL_ (some 29) rfl rfl Tryd.func57 (by kernel_rfl) rfl #[.pointer (some ⟨g, 0, none⟩)] rfl (by simp only [mt_, mc_, mn_] <;> rfl) ?_; (with_reducible refine (fR_left.calls g s0_0 t534 t535 t536 t540 t541 t542 t543 w0 _ ?side1 ?side2 A15.out).mono ?_); (case side1 => repeat (first | (with_reducible first | exact HI0.out | apply i108a_ | apply i108n_ | apply i108d_ | apply IsS108.set_1 | apply IsS108.set_2 | apply IsS108.set_3) | exact HI0.out)); (case side2 => repeat (first | (with_reducible first | exact HB.out | apply pa | apply pd | apply pe | refine zs ?_ (IsS108.ge HI0.out)) | exact HB.out)); rintro e w19 ⟨rfl, hi, hb, hk⟩; refine ⟨_, rfl, ?_⟩; have n0_ := ak_ (KeepBut.trans (by with_reducible repeat first | exact HK.out | apply KeepBut.set_ | apply keep_drewN | apply keep_drew | apply keep_alloc) hk (.inl rfl)); have n1_ := ak_ (hb); have n2_ := ak_ (hi); clear HK HB HI0; have HK := n0_; have HB := n1_; have HI0 := n2_; clear n0_ n1_ n2_))
   (try simp only [Act.put, sa_, sz_, ss_])
   have H := HF18.out
   clear HF18
   by_cases c20 : t529 > (wrap64 (Int.tdiv t540 (ji16)))
   · rw [if_pos c20] at H
     have c20b0 : decide ((wrap64 (Int.tdiv t540 (ji16))) < t529) = true := dt_ c20
     clear c20
     (first | rw [c20b0] | (simp only [i64_w, i32_w]; rw [c20b0]) | skip)
     replace H := ob_ H
     obtain ⟨⟨t544, t545, t546⟩, A210, H⟩ := H
     replace H : (some (0, t544, t545, t546)) = some (r1, r2, r3, r4) := H
     have A21 := ak_ A210
     clear A210
     simp only [Option.some.injEq, Prod.mk.injEq] at H
     obtain ⟨rfl, rfl, rfl, rfl⟩ := H
     go_wp2_with (first | ((with_reducible refine gate_callee (f := 58) rfl ?_); refine goesL_ (some 36) rfl rfl Tryd.func58 (by kernel_rfl) rfl #[.pointer (some ⟨g, 0, none⟩), .int .i64 s0_1, .int .i64 2] rfl (by simp only [mt_, mc_, mn_] <;> rfl) ?_; (with_reducible refine (fR_fail.calls g s0_0 t541 t542 t543 s0_1 2 t544 t545 t546 w0 _ ?side1 ?side2 A21.out).mono ?_); (case side1 => repeat (first | (with_reducible first | exact HI0.out | apply i108a_ | apply i108n_ | apply i108d_ | apply IsS108.set_1 | apply IsS108.set_2 | apply IsS108.set_3) | exact HI0.out)); (case side2 => repeat (first | (with_reducible first | exact HB.out | apply pa | apply pd | apply pe | refine zs ?_ (IsS108.ge HI0.out)) | exact HB.out)); rintro e w22 ⟨rfl, hi, hb, hk⟩; refine ⟨_, rfl, ?_⟩; have n0_ := ak_ (KeepBut.trans (by with_reducible repeat first | exact HK.out | apply KeepBut.set_ | apply keep_drewN | apply keep_drew | apply keep_alloc) hk (.inl rfl)); have n1_ := ak_ (hb); have n2_ := ak_ (hi); clear HK HB HI0; have HK := n0_; have HB := n1_; have HI0 := n2_; clear n0_ n1_ n2_))
     go_ret
     exact ⟨by first | rfl | (simp [errW_none, errW_some] <;> rfl) | (simp only [← hji16]; first | rfl | (simp [errW_none, errW_some] <;> rfl)) | (simp [*, errW_none, errW_some] <;> rfl), by repeat (first | (with_reducible first | exact HI0.out | apply i108a_ | apply i108n_ | apply i108d_ | apply IsS108.set_1 | apply IsS108.set_2 | apply IsS108.set_3) | exact HI0.out), by repeat (first | (with_reducible first | exact HB.out | apply pa | apply pd | apply pe | refine zs ?_ (IsS108.ge HI0.out)) | exact HB.out), by repeat (first | (with_reducible first | exact HK.out | apply KeepBut.set_ | apply keep_drewN | apply keep_drew | apply keep_alloc) | exact HK.out)⟩
   rw [if_neg c20] at H
   have c20b0 : decide ((wrap64 (Int.tdiv t540 (ji16))) < t529) = false := df_ c20
   clear c20
   (first | rw [c20b0] | (simp only [i64_w, i32_w]; rw [c20b0]) | skip)
   simp only [Option.some.injEq, Prod.mk.injEq] at H
   obtain ⟨rfl, rfl, rfl, rfl⟩ := H
   go_wp2
   go_ret
   exact ⟨by first | rfl | (simp [errW_none, errW_some] <;> rfl) | (simp only [← hji16]; first | rfl | (simp [errW_none, errW_some] <;> rfl)) | (simp [*, errW_none, errW_some] <;> rfl), by repeat (first | (with_reducible first | exact HI0.out | apply i108a_ | apply i108n_ | apply i108d_ | apply IsS108.set_1 | apply IsS108.set_2 | apply IsS108.set_3) | exact HI0.out), by repeat (first | (with_reducible first | exact HB.out | apply pa | apply pd | apply pe | refine zs ?_ (IsS108.ge HI0.out)) | exact HB.out), by repeat (first | (with_reducible first | exact HK.out | apply KeepBut.set_ | apply keep_drewN | apply keep_drew | apply keep_alloc) | exact HK.out)⟩
 replace c10 := Bool.eq_false_iff.mpr c10
 subst c10
 have H1 : (some (0, t534, t535, t536)) = some (r1, r2, r3, r4) := by rw [if_neg (show ¬ (false = true) by decide)] at H; exact H
 clear H
 have H := H1
 clear H1
 simp only [Option.some.injEq, Prod.mk.injEq] at H
 obtain ⟨rfl, rfl, rfl, rfl⟩ := H
 go_wp2
 go_ret
 exact ⟨by first | rfl | simp [*], by repeat (first | (with_reducible first | exact HI0.out | apply i108a_ | apply i108n_ | apply i108d_ | apply IsS108.set_1 | apply IsS108.set_2 | apply IsS108.set_3) | exact HI0.out), by repeat (first | (with_reducible first | exact HB.out | apply pa | apply pd | apply pe | refine zs ?_ (IsS108.ge HI0.out)) | exact HB.out), by repeat (first | (with_reducible first | exact HK.out | apply KeepBut.set_ | apply keep_drewN | apply keep_drew | apply keep_alloc) | exact HK.out)⟩

def uR04_Count.j0 : Nat → Int → Int → ByteArray → Int → Int → Int → Int → ByteArray → Bool → ByteArray → Int → Int → Int → Int → ByteArray → Bool → Option (ByteArray × Int × Int × Int × Int × ByteArray × Bool × Int)
 | 0, _, _, _, _, _, _, _, _, _, _, _, _, _, _, _, _ => none
 | k + 1, x2, x9, x233000, x233001, x233002, x233003, x233004, x233005, x233006, x243000, x243001, x243002, x243003, x243004, x243005, x243006 => if x2 = 0 then (none) else (if x9 > (wrap64 (Int.tdiv (wrap64 ((x243000.size : Int) - x243001)) x2)) then ((uR04_fail.f x233000 x233001 x233002 x233003 x233004 x233005 x233006 x233001 2).bind fun bt250 => (some (bt250.1, bt250.2.1, bt250.2.2.1, bt250.2.2.2.1, bt250.2.2.2.2.1, bt250.2.2.2.2.2.1, bt250.2.2.2.2.2.2, 0))) else (some (x243000, x243001, x243002, x243003, x243004, x243005, x243006, x9)))
def uR04_Count.f (k : Nat) (a0_0 : ByteArray) (a0_1 : Int) (a0_2 : Int) (a0_3 : Int) (a0_4 : Int) (a0_5 : ByteArray) (a0_6 : Bool) (a1 : Int) (a2 : Int) : Option (ByteArray × Int × Int × Int × Int × ByteArray × Bool × Int) := (uR04_Take.f k a0_0 a0_1 a0_2 a0_3 a0_4 a0_5 a0_6).bind fun bt234 => (if bt234.2.2.1 = 0 then (if bt234.2.2.2.2.2.2.2 > a1 then ((uR04_fail.f a0_0 a0_1 a0_2 a0_3 a0_4 a0_5 a0_6 a0_1 4).bind fun bt243 => (some (bt243.1, bt243.2.1, bt243.2.2.1, bt243.2.2.2.1, bt243.2.2.2.2.1, bt243.2.2.2.2.2.1, bt243.2.2.2.2.2.2, 0))) else (if a2 < 1 then (uR04_Count.j0 k 1 bt234.2.2.2.2.2.2.2 a0_0 a0_1 a0_2 a0_3 a0_4 a0_5 a0_6 bt234.1 bt234.2.1 bt234.2.2.1 bt234.2.2.2.1 bt234.2.2.2.2.1 bt234.2.2.2.2.2.1 bt234.2.2.2.2.2.2.1) else (uR04_Count.j0 k a2 bt234.2.2.2.2.2.2.2 a0_0 a0_1 a0_2 a0_3 a0_4 a0_5 a0_6 bt234.1 bt234.2.1 bt234.2.2.1 bt234.2.2.2.1 bt234.2.2.2.2.1 bt234.2.2.2.2.2.1 bt234.2.2.2.2.2.2.1))) else (some (bt234.1, bt234.2.1, bt234.2.2.1, bt234.2.2.2.1, bt234.2.2.2.2.1, bt234.2.2.2.2.2.1, bt234.2.2.2.2.2.2.1, 0)))
theorem uR04_Count.calls (k : Nat) (a0_0 : ByteArray) (a0_1 : Int) (a0_2 : Int) (a0_3 : Int) (a0_4 : Int) (a0_5 : ByteArray) (a0_6 : Bool) (a1 : Int) (a2 : Int) (r1 : ByteArray) (r2 : Int) (r3 : Int) (r4 : Int) (r5 : Int) (r6 : ByteArray) (r7 : Bool) (r8 : Int) (w : World) (h : uR04_Count.f k a0_0 a0_1 a0_2 a0_3 a0_4 a0_5 a0_6 a1 a2 = some (r1, r2, r3, r4, r5, r6, r7, r8)) :
 Calls Tryd.prog 60 #[.agg #[.string a0_0, .int .i64 a0_1, .int .i64 a0_2, .int .i64 a0_3, .int .i64 a0_4, .string a0_5, .bool a0_6], .int .i64 a1, .int .i64 a2] w fun e w' => e = .returned (.tuple #[.agg #[.string r1, .int .i64 r2, .int .i64 r3, .int .i64 r4, .int .i64 r5, .string r6, .bool r7], .int .i64 r8]) ∧ Below w.heap.size w w' := by
 have hu81 := Tryd.underlying81
 have HB := ak_ (Below.refl w.heap.size w)
 have H : ((uR04_Take.f k a0_0 a0_1 a0_2 a0_3 a0_4 a0_5 a0_6).bind fun bt234 => (if bt234.2.2.1 = 0 then (if bt234.2.2.2.2.2.2.2 > a1 then ((uR04_fail.f a0_0 a0_1 a0_2 a0_3 a0_4 a0_5 a0_6 a0_1 4).bind fun bt243 => (some (bt243.1, bt243.2.1, bt243.2.2.1, bt243.2.2.2.1, bt243.2.2.2.2.1, bt243.2.2.2.2.2.1, bt243.2.2.2.2.2.2, 0))) else (if a2 < 1 then (uR04_Count.j0 k 1 bt234.2.2.2.2.2.2.2 a0_0 a0_1 a0_2 a0_3 a0_4 a0_5 a0_6 bt234.1 bt234.2.1 bt234.2.2.1 bt234.2.2.2.1 bt234.2.2.2.2.1 bt234.2.2.2.2.2.1 bt234.2.2.2.2.2.2.1) else (uR04_Count.j0 k a2 bt234.2.2.2.2.2.2.2 a0_0 a0_1 a0_2 a0_3 a0_4 a0_5 a0_6 bt234.1 bt234.2.1 bt234.2.2.1 bt234.2.2.2.1 bt234.2.2.2.2.1 bt234.2.2.2.2.2.1 bt234.2.2.2.2.2.2.1))) else (some (bt234.1, bt234.2.1, bt234.2.2.1, bt234.2.2.2.1, bt234.2.2.2.2.1, bt234.2.2.2.2.2.1, bt234.2.2.2.2.2.2.1, 0)))) = some (r1, r2, r3, r4, r5, r6, r7, r8) := h
 clear h
 replace H := ob_ H
 obtain ⟨⟨t234, t235, t236, t237, t238, t239, t240, t241⟩, A40, H⟩ := H
 replace H : (if t236 = 0 then (if t241 > a1 then ((uR04_fail.f a0_0 a0_1 a0_2 a0_3 a0_4 a0_5 a0_6 a0_1 4).bind fun bt243 => (some (bt243.1, bt243.2.1, bt243.2.2.1, bt243.2.2.2.1, bt243.2.2.2.2.1, bt243.2.2.2.2.2.1, bt243.2.2.2.2.2.2, 0))) else (if a2 < 1 then (uR04_Count.j0 k 1 t241 a0_0 a0_1 a0_2 a0_3 a0_4 a0_5 a0_6 t234 t235 t236 t237 t238 t239 t240) else (uR04_Count.j0 k a2 t241 a0_0 a0_1 a0_2 a0_3 a0_4 a0_5 a0_6 t234 t235 t236 t237 t238 t239 t240))) else (some (t234, t235, t236, t237, t238, t239, t240, 0))) = some (r1, r2, r3, r4, r5, r6, r7, r8) := H
 have A4 := ak_ A40
 clear A40
 have HF5 := ak_ H
 clear H
 go_enter Tryd.func60, Tryd.ntmps60
 go_upto_if 17 with (first | ((with_reducible refine gate_dst (N := 3) rfl ?_); refine box_event ?hg (N := 3) ?hd (cs := #[.string a0_0, .int .i64 a0_1, .int .i64 a0_2, .int .i64 a0_3, .int .i64 a0_4, .string a0_5, .bool a0_6]) (t := 81) ?hr ?_; (case hd | hg => rfl); (case hr => first | (go_simp; done) | (go_simp; rfl)); intro gb232 hg w6 hbox hb; have n0_ := ak_ (ps (by with_reducible repeat first | exact HB.out | apply pa | apply pd | apply pe) hb); have n1_ := ak_ (hbox); have n2_ := ak_ ((by rw [hg]; exact (below_size (by with_reducible repeat first | exact HB.out | apply pa | apply pd | apply pe)) : w.heap.size ≤ gb232)); have n3_ := ak_ ((by rw [hg]; exact (below_size (by with_reducible repeat first | exact HB.out | apply pa | apply pd | apply pe)) : w.heap.size ≤ gb232)); clear HB; have HB := n0_; have BK232 := n1_; have GW232 := n2_; have GE232 := n3_; clear n0_ n1_ n2_ n3_ hb hbox hg) | ((with_reducible refine gate_dst (N := 6) rfl ?_); refine box_event ?hg (N := 6) ?hd (cs := #[.string ⟨#[]⟩, .int .i64 0, .int .i64 0, .int .i64 0, .int .i64 0, .string ⟨#[]⟩, .bool false]) (t := 81) ?hr ?_; (case hd | hg => rfl); (case hr => first | (go_simp; done) | (go_simp; rfl)); intro gb233 hg w7 hbox hb; have n0_ := ak_ (blk_below (g := gb232) (o := .cells #[.string a0_0, .int .i64 a0_1, .int .i64 a0_2, .int .i64 a0_3, .int .i64 a0_4, .string a0_5, .bool a0_6] 81 (0, 0)) (by (with_reducible repeat (first | apply zn | apply zd | apply za)); exact BK232.out) hb); have n1_ := ak_ (ps (by with_reducible repeat first | exact HB.out | apply pa | apply pd | apply pe | refine zs ?_ GE232.out) hb); have n2_ := ak_ (hbox); have n3_ := ak_ ((by rw [hg]; exact (below_size (by with_reducible repeat first | exact HB.out | apply pa | apply pd | apply pe | refine zs ?_ GE232.out)) : w.heap.size ≤ gb233)); have n4_ := ak_ ((by rw [hg]; exact (below_size (by with_reducible repeat first | exact HB.out | apply pa | apply pd | apply pe | refine zs ?_ GE232.out)) : w.heap.size ≤ gb233)); have n5_ := ak_ ((by rw [hg]; exact Nat.ne_of_lt (blk_lt (g := gb232) (by (with_reducible repeat (first | apply zn | apply zd | apply za)); exact BK232.out)) : gb232 ≠ gb233)); have n6_ := ak_ ((by rw [hg]; exact Nat.ne_of_gt (blk_lt (g := gb232) (by (with_reducible repeat (first | apply zn | apply zd | apply za)); exact BK232.out)) : gb233 ≠ gb232)); clear BK232 HB; have BK232 := n0_; have HB := n1_; have BK233 := n2_; have GW233 := n3_; have GE233 := n4_; have NB232_233 := n5_; have NB233_232 := n6_; clear n0_ n1_ n2_ n3_ n4_ n5_ n6_ hb hbox hg; have hnb8 := NB232_233.out; have hnc8 := NB233_232.out; have hcz9_0 : w7.cell? ⟨gb232, 0, none⟩ = some (.string a0_0) := (zc BK232.out 0).trans rfl; have hcz9_1 : w7.cell? ⟨gb232, 1, none⟩ = some (.int .i64 a0_1) := (zc BK232.out 1).trans rfl; have hcz9_2 : w7.cell? ⟨gb232, 2, none⟩ = some (.int .i64 a0_2) := (zc BK232.out 2).trans rfl; have hcz9_3 : w7.cell? ⟨gb232, 3, none⟩ = some (.int .i64 a0_3) := (zc BK232.out 3).trans rfl; have hcz9_4 : w7.cell? ⟨gb232, 4, none⟩ = some (.int .i64 a0_4) := (zc BK232.out 4).trans rfl; have hcz9_5 : w7.cell? ⟨gb232, 5, none⟩ = some (.string a0_5) := (zc BK232.out 5).trans rfl; have hcz9_6 : w7.cell? ⟨gb232, 6, none⟩ = some (.bool a0_6) := (zc BK232.out 6).trans rfl; have hfz9_0 := zf BK232.out 0; have hfz9_1 := zf BK232.out 1; have hfz9_2 := zf BK232.out 2; have hfz9_3 := zf BK232.out 3; have hfz9_4 := zf BK232.out 4; have hfz9_5 := zf BK232.out 5; have hfz9_6 := zf BK232.out 6) | ((with_reducible refine gate_callee (f := 68) rfl ?_); refine goesL_ (some 12) rfl rfl Tryd.func68 (by kernel_rfl) rfl #[.agg #[.string a0_0, .int .i64 a0_1, .int .i64 a0_2, .int .i64 a0_3, .int .i64 a0_4, .string a0_5, .bool a0_6]] rfl (by (try simp only [mt_, mc_, mn_]); first | done | rfl) ?_; (with_reducible refine (uR04_Take.calls k a0_0 a0_1 a0_2 a0_3 a0_4 a0_5 a0_6 t234 t235 t236 t237 t238 t239 t240 t241 _ A4.out).mono ?_); rintro e w10 ⟨rfl, hb⟩; refine ⟨_, rfl, ?_⟩; have n0_ := ak_ (blk_below (g := gb232) (o := .cells #[.string a0_0, .int .i64 a0_1, .int .i64 a0_2, .int .i64 a0_3, .int .i64 a0_4, .string a0_5, .bool a0_6] 81 (0, 0)) (by (with_reducible repeat (first | apply zn | apply zd | apply za)); exact BK232.out) hb); have n1_ := ak_ (blk_below (g := gb233) (o := .cells #[.string ⟨#[]⟩, .int .i64 0, .int .i64 0, .int .i64 0, .int .i64 0, .string ⟨#[]⟩, .bool false] 81 (0, 0)) (by (with_reducible repeat (first | apply zn | apply zd | apply za)); exact BK233.out) hb); have n2_ := ak_ (ps (by with_reducible repeat first | exact HB.out | apply pa | apply pd | apply pe | refine zs ?_ GE232.out | refine zs ?_ GE233.out) hb); clear BK232 BK233 HB; have BK232 := n0_; have BK233 := n1_; have HB := n2_; clear n0_ n1_ n2_) | ((with_reducible refine gate_dst (N := 8) rfl ?_); refine box_event ?hg (N := 8) ?hd (cs := #[.string ⟨#[]⟩, .int .i64 0, .int .i64 0, .int .i64 0, .int .i64 0, .string ⟨#[]⟩, .bool false]) (t := 81) ?hr ?_; (case hd | hg => rfl); (case hr => first | (go_simp; done) | (go_simp; rfl)); intro gb242 hg w11 hbox hb; have n0_ := ak_ (blk_below (g := gb232) (o := .cells #[.string a0_0, .int .i64 a0_1, .int .i64 a0_2, .int .i64 a0_3, .int .i64 a0_4, .string a0_5, .bool a0_6] 81 (0, 0)) (by (with_reducible repeat (first | apply zn | apply zd | apply za)); exact BK232.out) hb); have n1_ := ak_ (blk_below (g := gb233) (o := .cells #[.string ⟨#[]⟩, .int .i64 0, .int .i64 0, .int .i64 0, .int .i64 0, .string ⟨#[]⟩, .bool false] 81 (0, 0)) (by (with_reducible repeat (first | apply zn | apply zd | apply za)); exact BK233.out) hb); have n2_ := ak_ (ps (by with_reducible repeat first | exact HB.out | apply pa | apply pd | apply pe | refine zs ?_ GE232.out | refine zs ?_ GE233.out) hb); have n3_ := ak_ (hbox); have n4_ := ak_ ((by rw [hg]; exact (below_size (by with_reducible repeat first | exact HB.out | apply pa | apply pd | apply pe | refine zs ?_ GE232.out | refine zs ?_ GE233.out)) : w.heap.size ≤ gb242)); have n5_ := ak_ ((by rw [hg]; exact (below_size (by with_reducible repeat first | exact HB.out | apply pa | apply pd | apply pe | refine zs ?_ GE232.out | refine zs ?_ GE233.out)) : w.heap.size ≤ gb242)); have n6_ := ak_ ((by rw [hg]; exact Nat.ne_of_lt (blk_lt (g := gb232) (by (with_reducible repeat (first | apply zn | apply zd | apply za)); exact BK232.out)) : gb232 ≠ gb242)); have n7_ := ak_ ((by rw [hg]; exact Nat.ne_of_gt (blk_lt (g := gb232) (by (with_reducible repeat (first | apply zn | apply zd | apply za)); exact BK232.out)) : gb242 ≠ gb232)); have n8_ := ak_ ((by rw [hg]; exact Nat.ne_of_lt (blk_lt (g := gb233) (by (with_reducible repeat (first | apply zn | apply zd | apply za)); exact BK233.out)) : gb233 ≠ gb242)); have n9_ := ak_ ((by rw [hg]; exact Nat.ne_of_gt (blk_lt (g := gb233) (by (with_reducible repeat (first | apply zn | apply zd | apply za)); exact BK233.out)) : gb242 ≠ gb233)); clear BK232 BK233 HB; have BK232 := n0_; have BK233 := n1_; have HB := n2_; have BK242 := n3_; have GW242 := n4_; have GE242 := n5_; have NB232_242 := n6_; have NB242_232 := n7_; have NB233_242 := n8_; have NB242_233 := n9_; clear n0_ n1_ n2_ n3_ n4_ n5_ n6_ n7_ n8_ n9_ hb hbox hg; have hnb12 := NB242_232.out; have hnc12 := NB232_242.out; have hnb13 := NB242_233.out; have hnc13 := NB233_242.out; have hcz14_0 : w11.cell? ⟨gb242, 0, none⟩ = some (.string ⟨#[]⟩) := (zc BK242.out 0).trans rfl; have hcz14_1 : w11.cell? ⟨gb242, 1, none⟩ = some (.int .i64 0) := (zc BK242.out 1).trans rfl; have hcz14_2 : w11.cell? ⟨gb242, 2, none⟩ = some (.int .i64 0) := (zc BK242.out 2).trans rfl; have hcz14_3 : w11.cell? ⟨gb242, 3, none⟩ = some (.int .i64 0) := (zc BK242.out 3).trans rfl; have hcz14_4 : w11.cell? ⟨gb242, 4, none⟩ = some (.int .i64 0) := (zc BK242.out 4).trans rfl; have hcz14_5 : w11.cell? ⟨gb242, 5, none⟩ = some (.string ⟨#[]⟩) := (zc BK242.out 5).trans rfl; have hcz14_6 : w11.cell? ⟨gb242, 6, none⟩ = some (.bool false) := (zc BK242.out 6).trans rfl; have hfz14_0 := zf BK242.out 0; have hfz14_1 := zf BK242.out 1; have hfz14_2 := zf BK242.out 2; have hfz14_3 := zf BK242.out 3; have hfz14_4 := zf BK242.out 4; have hfz14_5 := zf BK242.out 5; have hfz14_6 := zf BK242.out 6))
 (try simp only [Act.put, sa_, sz_, ss_])
 have H := HF5.out
 clear HF5
 by_cases c15 : t236 = 0
 · rw [if_pos c15] at H
   have c15b0 : (t236 == 0) = true := beq_iff_eq.mpr c15
   have c15b1 : (t236 != 0) = false := bne_eq_false_iff_eq.mpr c15
   clear c15
   (first | rw [c15b0] | (simp only [i64_w, i32_w]; rw [c15b0]) | skip)
   have HF16 := ak_ H
   clear H
   go_upto_if 21 with (fail)
   have H := HF16.out
   clear HF16
   by_cases c17 : t241 > a1
   · rw [if_pos c17] at H
     have c17b0 : decide (a1 < t241) = true := dt_ c17
     clear c17
     (first | rw [c17b0] | (simp only [i64_w, i32_w]; rw [c17b0]) | skip)
     replace H := ob_ H
     obtain ⟨⟨t243, t244, t245, t246, t247, t248, t249⟩, A180, H⟩ := H
     replace H : (some (t243, t244, t245, t246, t247, t248, t249, 0)) = some (r1, r2, r3, r4, r5, r6, r7, r8) := H
     have A18 := ak_ A180
     clear A180
     simp only [Option.some.injEq, Prod.mk.injEq] at H
     obtain ⟨rfl, rfl, rfl, rfl, rfl, rfl, rfl, rfl⟩ := H
     have hnb19 := NB232_233.out
     have hnc19 := NB233_232.out
     have hnb20 := NB232_242.out
     have hnc20 := NB242_232.out
     have hcz21_0 : w11.cell? ⟨gb232, 0, none⟩ = some (.string a0_0) := (zc BK232.out 0).trans rfl
     have hcz21_1 : w11.cell? ⟨gb232, 1, none⟩ = some (.int .i64 a0_1) := (zc BK232.out 1).trans rfl
     have hcz21_2 : w11.cell? ⟨gb232, 2, none⟩ = some (.int .i64 a0_2) := (zc BK232.out 2).trans rfl
     have hcz21_3 : w11.cell? ⟨gb232, 3, none⟩ = some (.int .i64 a0_3) := (zc BK232.out 3).trans rfl
     have hcz21_4 : w11.cell? ⟨gb232, 4, none⟩ = some (.int .i64 a0_4) := (zc BK232.out 4).trans rfl
     have hcz21_5 : w11.cell? ⟨gb232, 5, none⟩ = some (.string a0_5) := (zc BK232.out 5).trans rfl
     have hcz21_6 : w11.cell? ⟨gb232, 6, none⟩ = some (.bool a0_6) := (zc BK232.out 6).trans rfl
     have hfz21_0 := zf BK232.out 0
     have hfz21_1 := zf BK232.out 1
     have hfz21_2 := zf BK232.out 2
     have hfz21_3 := zf BK232.out 3
     have hfz21_4 := zf BK232.out 4
     have hfz21_5 := zf BK232.out 5
     have hfz21_6 := zf BK232.out 6
     go_wp2_with (first | ((with_reducible refine gate_callee (f := 62) rfl ?_); refine goesL_ (some 25) rfl rfl Tryd.func62 (by kernel_rfl) rfl #[.agg #[.string a0_0, .int .i64 a0_1, .int .i64 a0_2, .int .i64 a0_3, .int .i64 a0_4, .string a0_5, .bool a0_6], .int .i64 a0_1, .int .i64 4] rfl (by (try simp only [mt_, mc_, mn_]); first | done | rfl) ?_; (with_reducible refine (uR04_fail.calls a0_0 a0_1 a0_2 a0_3 a0_4 a0_5 a0_6 a0_1 4 t243 t244 t245 t246 t247 t248 t249 _ A18.out).mono ?_); rintro e w22 ⟨rfl, hb⟩; refine ⟨_, rfl, ?_⟩; have n0_ := ak_ (blk_below (g := gb232) (o := .cells #[.string a0_0, .int .i64 a0_1, .int .i64 a0_2, .int .i64 a0_3, .int .i64 a0_4, .string a0_5, .bool a0_6] 81 (0, 0)) (by (repeat (first | (with_reducible first | apply zn | apply zd | apply za) | refine zr ?_ NB232_242.out _)); (with_reducible repeat (first | apply zn | apply zd | apply za)); exact BK232.out) hb); have n1_ := ak_ (blk_below (g := gb233) (o := .cells #[.string ⟨#[]⟩, .int .i64 0, .int .i64 0, .int .i64 0, .int .i64 0, .string ⟨#[]⟩, .bool false] 81 (0, 0)) (by (repeat (first | (with_reducible first | apply zn | apply zd | apply za) | refine zr ?_ NB233_242.out _)); (with_reducible repeat (first | apply zn | apply zd | apply za)); exact BK233.out) hb); have n2_ := ak_ (blk_below (g := gb242) (o := .cells #[.string t234, .int .i64 t235, .int .i64 t236, .int .i64 t237, .int .i64 t238, .string t239, .bool t240] 81 (0, 0)) (by (with_reducible repeat (first | apply zn | apply zd | apply za)); refine zp (cs := #[.string t234, .int .i64 t235, .int .i64 t236, .int .i64 t237, .int .i64 t238, .string t239, .bool false]) ?_ 6 _ rfl; (with_reducible repeat (first | apply zn | apply zd | apply za)); refine zp (cs := #[.string t234, .int .i64 t235, .int .i64 t236, .int .i64 t237, .int .i64 t238, .string ⟨#[]⟩, .bool false]) ?_ 5 _ rfl; (with_reducible repeat (first | apply zn | apply zd | apply za)); refine zp (cs := #[.string t234, .int .i64 t235, .int .i64 t236, .int .i64 t237, .int .i64 0, .string ⟨#[]⟩, .bool false]) ?_ 4 _ rfl; (with_reducible repeat (first | apply zn | apply zd | apply za)); refine zp (cs := #[.string t234, .int .i64 t235, .int .i64 t236, .int .i64 0, .int .i64 0, .string ⟨#[]⟩, .bool false]) ?_ 3 _ rfl; (with_reducible repeat (first | apply zn | apply zd | apply za)); refine zp (cs := #[.string t234, .int .i64 t235, .int .i64 0, .int .i64 0, .int .i64 0, .string ⟨#[]⟩, .bool false]) ?_ 2 _ rfl; (with_reducible repeat (first | apply zn | apply zd | apply za)); refine zp (cs := #[.string t234, .int .i64 0, .int .i64 0, .int .i64 0, .int .i64 0, .string ⟨#[]⟩, .bool false]) ?_ 1 _ rfl; (with_reducible repeat (first | apply zn | apply zd | apply za)); refine zp (cs := #[.string ⟨#[]⟩, .int .i64 0, .int .i64 0, .int .i64 0, .int .i64 0, .string ⟨#[]⟩, .bool false]) ?_ 0 _ rfl; (with_reducible repeat (first | apply zn | apply zd | apply za)); exact BK242.out) hb); have n3_ := ak_ (ps (by with_reducible repeat first | exact HB.out | apply pa | apply pd | apply pe | refine zs ?_ GE232.out | refine zs ?_ GE233.out | refine zs ?_ GE242.out) hb); clear BK232 BK233 BK242 HB; have BK232 := n0_; have BK233 := n1_; have BK242 := n2_; have HB := n3_; clear n0_ n1_ n2_ n3_; have hnb23 := NB233_242.out; have hnc23 := NB242_233.out; have hcz24_0 : w22.cell? ⟨gb233, 0, none⟩ = some (.string ⟨#[]⟩) := (zc BK233.out 0).trans rfl; have hcz24_1 : w22.cell? ⟨gb233, 1, none⟩ = some (.int .i64 0) := (zc BK233.out 1).trans rfl; have hcz24_2 : w22.cell? ⟨gb233, 2, none⟩ = some (.int .i64 0) := (zc BK233.out 2).trans rfl; have hcz24_3 : w22.cell? ⟨gb233, 3, none⟩ = some (.int .i64 0) := (zc BK233.out 3).trans rfl; have hcz24_4 : w22.cell? ⟨gb233, 4, none⟩ = some (.int .i64 0) := (zc BK233.out 4).trans rfl; have hcz24_5 : w22.cell? ⟨gb233, 5, none⟩ = some (.string ⟨#[]⟩) := (zc BK233.out 5).trans rfl; have hcz24_6 : w22.cell? ⟨gb233, 6, none⟩ = some (.bool false) := (zc BK233.out 6).trans rfl; have hfz24_0 := zf BK233.out 0; have hfz24_1 := zf BK233.out 1; have hfz24_2 := zf BK233.out 2; have hfz24_3 := zf BK233.out 3; have hfz24_4 := zf BK233.out 4; have hfz24_5 := zf BK233.out 5; have hfz24_6 := zf BK233.out 6))
     refine bodyPost_ret (results_ct rfl _ _ gb233 81 #[.string t243, .int .i64 t244, .int .i64 t245, .int .i64 t246, .int .i64 t247, .string t248, .bool t249] (0, 0) _ rfl (by (with_reducible repeat (first | apply zn | apply zd | apply za)); refine zp (cs := #[.string t243, .int .i64 t244, .int .i64 t245, .int .i64 t246, .int .i64 t247, .string t248, .bool false]) ?_ 6 _ rfl; (with_reducible repeat (first | apply zn | apply zd | apply za)); refine zp (cs := #[.string t243, .int .i64 t244, .int .i64 t245, .int .i64 t246, .int .i64 t247, .string ⟨#[]⟩, .bool false]) ?_ 5 _ rfl; (with_reducible repeat (first | apply zn | apply zd | apply za)); refine zp (cs := #[.string t243, .int .i64 t244, .int .i64 t245, .int .i64 t246, .int .i64 0, .string ⟨#[]⟩, .bool false]) ?_ 4 _ rfl; (with_reducible repeat (first | apply zn | apply zd | apply za)); refine zp (cs := #[.string t243, .int .i64 t244, .int .i64 t245, .int .i64 0, .int .i64 0, .string ⟨#[]⟩, .bool false]) ?_ 3 _ rfl; (with_reducible repeat (first | apply zn | apply zd | apply za)); refine zp (cs := #[.string t243, .int .i64 t244, .int .i64 0, .int .i64 0, .int .i64 0, .string ⟨#[]⟩, .bool false]) ?_ 2 _ rfl; (with_reducible repeat (first | apply zn | apply zd | apply za)); refine zp (cs := #[.string t243, .int .i64 0, .int .i64 0, .int .i64 0, .int .i64 0, .string ⟨#[]⟩, .bool false]) ?_ 1 _ rfl; (with_reducible repeat (first | apply zn | apply zd | apply za)); refine zp (cs := #[.string ⟨#[]⟩, .int .i64 0, .int .i64 0, .int .i64 0, .int .i64 0, .string ⟨#[]⟩, .bool false]) ?_ 0 _ rfl; (with_reducible repeat (first | apply zn | apply zd | apply za)); exact BK233.out) Tryd.underlying81 rfl (by kernel_rfl)) rfl ?_
     exact ⟨by first | rfl | simp [*], by repeat (first | (with_reducible first | exact HB.out | apply pa | apply pd | apply pe | refine zs ?_ GE232.out | refine zs ?_ GE233.out | refine zs ?_ GE242.out) | exact HB.out)⟩
   rw [if_neg c17] at H
   have c17b0 : decide (a1 < t241) = false := df_ c17
   clear c17
   (first | rw [c17b0] | (simp only [i64_w, i32_w]; rw [c17b0]) | skip)
   have HC25 := ak_ H
   clear H
   go_upto_if 27 with (fail)
   go_cut [2] (fun v2 wc => ∃ (kq : Nat) (x2_24 : Int), v2 = .int .i64 x2_24 ∧ Aside0 (uR04_Count.j0 kq x2_24 t241 a0_0 a0_1 a0_2 a0_3 a0_4 a0_5 a0_6 t234 t235 t236 t237 t238 t239 t240 = some (r1, r2, r3, r4, r5, r6, r7, r8)) ∧ Aside0 (kq ≤ k) ∧ Aside0 (wc.heap[gb232]? = some (.cells #[.string a0_0, .int .i64 a0_1, .int .i64 a0_2, .int .i64 a0_3, .int .i64 a0_4, .string a0_5, .bool a0_6] 81 (0, 0))) ∧ Aside0 (wc.heap[gb233]? = some (.cells #[.string ⟨#[]⟩, .int .i64 0, .int .i64 0, .int .i64 0, .int .i64 0, .string ⟨#[]⟩, .bool false] 81 (0, 0))) ∧ Aside0 (wc.heap[gb242]? = some (.cells #[.string t234, .int .i64 t235, .int .i64 t236, .int .i64 t237, .int .i64 t238, .string t239, .bool t240] 81 (0, 0))) ∧ Aside0 (Below w.heap.size w wc))
   case first =>
    have H := HC25.out
    clear HC25
    by_cases c26 : a2 < 1
    · rw [if_pos c26] at H
      have c26b0 : decide (a2 < 1) = true := dt_ c26
      clear c26
      (first | rw [c26b0] | (simp only [i64_w, i32_w]; rw [c26b0]) | skip)
      have H' := ak_ H
      clear H
      go_wp2
      go_meet
      case rel => exact ⟨_, (1), (by first | rfl | simp [*]), H', ⟨by first | omega | exact Nat.le_refl _⟩, ⟨by (repeat (first | (with_reducible first | apply zn | apply zd | apply za) | refine zr ?_ NB232_242.out _)); (with_reducible repeat (first | apply zn | apply zd | apply za)); exact BK232.out⟩, ⟨by (repeat (first | (with_reducible first | apply zn | apply zd | apply za) | refine zr ?_ NB233_242.out _)); (with_reducible repeat (first | apply zn | apply zd | apply za)); exact BK233.out⟩, ⟨by (with_reducible repeat (first | apply zn | apply zd | apply za)); refine zp (cs := #[.string t234, .int .i64 t235, .int .i64 t236, .int .i64 t237, .int .i64 t238, .string t239, .bool false]) ?_ 6 _ rfl; (with_reducible repeat (first | apply zn | apply zd | apply za)); refine zp (cs := #[.string t234, .int .i64 t235, .int .i64 t236, .int .i64 t237, .int .i64 t238, .string ⟨#[]⟩, .bool false]) ?_ 5 _ rfl; (with_reducible repeat (first | apply zn | apply zd | apply za)); refine zp (cs := #[.string t234, .int .i64 t235, .int .i64 t236, .int .i64 t237, .int .i64 0, .string ⟨#[]⟩, .bool false]) ?_ 4 _ rfl; (with_reducible repeat (first | apply zn | apply zd | apply za)); refine zp (cs := #[.string t234, .int .i64 t235, .int .i64 t236, .int .i64 0, .int .i64 0, .string ⟨#[]⟩, .bool false]) ?_ 3 _ rfl; (with_reducible repeat (first | apply zn | apply zd | apply za)); refine zp (cs := #[.string t234, .int .i64 t235, .int .i64 0, .int .i64 0, .int .i64 0, .string ⟨#[]⟩, .bool false]) ?_ 2 _ rfl; (with_reducible repeat (first | apply zn | apply zd | apply za)); refine zp (cs := #[.string t234, .int .i64 0, .int .i64 0, .int .i64 0, .int .i64 0, .string ⟨#[]⟩, .bool false]) ?_ 1 _ rfl; (with_reducible repeat (first | apply zn | apply zd | apply za)); refine zp (cs := #[.string ⟨#[]⟩, .int .i64 0, .int .i64 0, .int .i64 0, .int .i64 0, .string ⟨#[]⟩, .bool false]) ?_ 0 _ rfl; (with_reducible repeat (first | apply zn | apply zd | apply za)); exact BK242.out⟩, ⟨by repeat (first | (with_reducible first | exact HB.out | apply pa | apply pd | apply pe | refine zs ?_ GE232.out | refine zs ?_ GE233.out | refine zs ?_ GE242.out) | exact HB.out)⟩⟩
    rw [if_neg c26] at H
    have c26b0 : decide (a2 < 1) = false := df_ c26
    clear c26
    (first | rw [c26b0] | (simp only [i64_w, i32_w]; rw [c26b0]) | skip)
    have H' := ak_ H
    clear H
    go_wp2
    go_meet
    case rel => exact ⟨_, (a2), (by first | rfl | simp [*]), H', ⟨by first | omega | exact Nat.le_refl _⟩, ⟨by (repeat (first | (with_reducible first | apply zn | apply zd | apply za) | refine zr ?_ NB232_242.out _)); (with_reducible repeat (first | apply zn | apply zd | apply za)); exact BK232.out⟩, ⟨by (repeat (first | (with_reducible first | apply zn | apply zd | apply za) | refine zr ?_ NB233_242.out _)); (with_reducible repeat (first | apply zn | apply zd | apply za)); exact BK233.out⟩, ⟨by (with_reducible repeat (first | apply zn | apply zd | apply za)); refine zp (cs := #[.string t234, .int .i64 t235, .int .i64 t236, .int .i64 t237, .int .i64 t238, .string t239, .bool false]) ?_ 6 _ rfl; (with_reducible repeat (first | apply zn | apply zd | apply za)); refine zp (cs := #[.string t234, .int .i64 t235, .int .i64 t236, .int .i64 t237, .int .i64 t238, .string ⟨#[]⟩, .bool false]) ?_ 5 _ rfl; (with_reducible repeat (first | apply zn | apply zd | apply za)); refine zp (cs := #[.string t234, .int .i64 t235, .int .i64 t236, .int .i64 t237, .int .i64 0, .string ⟨#[]⟩, .bool false]) ?_ 4 _ rfl; (with_reducible repeat (first | apply zn | apply zd | apply za)); refine zp (cs := #[.string t234, .int .i64 t235, .int .i64 t236, .int .i64 0, .int .i64 0, .string ⟨#[]⟩, .bool false]) ?_ 3 _ rfl; (with_reducible repeat (first | apply zn | apply zd | apply za)); refine zp (cs := #[.string t234, .int .i64 t235, .int .i64 0, .int .i64 0, .int .i64 0, .string ⟨#[]⟩, .bool false]) ?_ 2 _ rfl; (with_reducible repeat (first | apply zn | apply zd | apply za)); refine zp (cs := #[.string t234, .int .i64 0, .int .i64 0, .int .i64 0, .int .i64 0, .string ⟨#[]⟩, .bool false]) ?_ 1 _ rfl; (with_reducible repeat (first | apply zn | apply zd | apply za)); refine zp (cs := #[.string ⟨#[]⟩, .int .i64 0, .int .i64 0, .int .i64 0, .int .i64 0, .string ⟨#[]⟩, .bool false]) ?_ 0 _ rfl; (with_reducible repeat (first | apply zn | apply zd | apply za)); exact BK242.out⟩, ⟨by repeat (first | (with_reducible first | exact HB.out | apply pa | apply pd | apply pe | refine zs ?_ GE232.out | refine zs ?_ GE233.out | refine zs ?_ GE242.out) | exact HB.out)⟩⟩
   case rest =>
    clear HC25
    try clear c1
    try clear c2
    try clear p2
    try clear c6
    try clear c8
    try clear c12
    try clear c13
    try clear c15
    try clear c15b0
    try clear c15b1
    try clear c17
    try clear c17b0
    try clear c19
    try clear c20
    try clear c23
    try clear c26
    try clear c26b0
    try clear hcz14_0
    try clear hcz14_1
    try clear hcz14_2
    try clear hcz14_3
    try clear hcz14_4
    try clear hcz14_5
    try clear hcz14_6
    try clear hcz21_0
    try clear hcz21_1
    try clear hcz21_2
    try clear hcz21_3
    try clear hcz21_4
    try clear hcz21_5
    try clear hcz21_6
    try clear hcz24_0
    try clear hcz24_1
    try clear hcz24_2
    try clear hcz24_3
    try clear hcz24_4
    try clear hcz24_5
    try clear hcz24_6
    try clear hcz9_0
    try clear hcz9_1
    try clear hcz9_2
    try clear hcz9_3
    try clear hcz9_4
    try clear hcz9_5
    try clear hcz9_6
    try clear hfz14_0
    try clear hfz14_1
    try clear hfz14_2
    try clear hfz14_3
    try clear hfz14_4
    try clear hfz14_5
    try clear hfz14_6
    try clear hfz21_0
    try clear hfz21_1
    try clear hfz21_2
    try clear hfz21_3
    try clear hfz21_4
    try clear hfz21_5
    try clear hfz21_6
    try clear hfz24_0
    try clear hfz24_1
    try clear hfz24_2
    try clear hfz24_3
    try clear hfz24_4
    try clear hfz24_5
    try clear hfz24_6
    try clear hfz9_0
    try clear hfz9_1
    try clear hfz9_2
    try clear hfz9_3
    try clear hfz9_4
    try clear hfz9_5
    try clear hfz9_6
    obtain ⟨kq, x2_24, rfl, HA, HJ24, BK232, BK233, BK242, HB⟩ := hcut
    cases kq with
    | zero => exact absurd HA.out (by simp [uR04_Count.j0])
    | succ kj24 =>
     have H := HA.out
     clear HA
     simp only [uR04_Count.j0] at H
     by_cases c27 : x2_24 = 0
     · rw [if_pos c27] at H
       exact absurd H (by simp)
     rw [if_neg c27] at H
     have c27b0 : (x2_24 == 0) = false := beq_eq_false_iff_ne.mpr c27
     have c27b1 : (x2_24 != 0) = true := bne_iff_ne.mpr c27
     have HF28 := ak_ H
     clear H
     have hnb29 := NB242_232.out
     have hnc29 := NB232_242.out
     have hnb30 := NB242_233.out
     have hnc30 := NB233_242.out
     have hcz31_0 : wc.cell? ⟨gb242, 0, none⟩ = some (.string t234) := (zc BK242.out 0).trans rfl
     have hcz31_1 : wc.cell? ⟨gb242, 1, none⟩ = some (.int .i64 t235) := (zc BK242.out 1).trans rfl
     have hcz31_2 : wc.cell? ⟨gb242, 2, none⟩ = some (.int .i64 t236) := (zc BK242.out 2).trans rfl
     have hcz31_3 : wc.cell? ⟨gb242, 3, none⟩ = some (.int .i64 t237) := (zc BK242.out 3).trans rfl
     have hcz31_4 : wc.cell? ⟨gb242, 4, none⟩ = some (.int .i64 t238) := (zc BK242.out 4).trans rfl
     have hcz31_5 : wc.cell? ⟨gb242, 5, none⟩ = some (.string t239) := (zc BK242.out 5).trans rfl
     have hcz31_6 : wc.cell? ⟨gb242, 6, none⟩ = some (.bool t240) := (zc BK242.out 6).trans rfl
     have hfz31_0 := zf BK242.out 0
     have hfz31_1 := zf BK242.out 1
     have hfz31_2 := zf BK242.out 2
     have hfz31_3 := zf BK242.out 3
     have hfz31_4 := zf BK242.out 4
     have hfz31_5 := zf BK242.out 5
     have hfz31_6 := zf BK242.out 6
     go_upto_if 37 with (fail)
     have H := HF28.out
     clear HF28
     by_cases c32 : t241 > (wrap64 (Int.tdiv (wrap64 ((t234.size : Int) - t235)) x2_24))
     · rw [if_pos c32] at H
       have c32b0 : decide ((wrap64 (Int.tdiv (wrap64 ((t234.size : Int) - t235)) x2_24)) < t241) = true := dt_ c32
       clear c32
       (first | rw [c32b0] | (simp only [i64_w, i32_w]; rw [c32b0]) | skip)
       replace H := ob_ H
       obtain ⟨⟨t250, t251, t252, t253, t254, t255, t256⟩, A330, H⟩ := H
       replace H : (some (t250, t251, t252, t253, t254, t255, t256, 0)) = some (r1, r2, r3, r4, r5, r6, r7, r8) := H
       have A33 := ak_ A330
       clear A330
       simp only [Option.some.injEq, Prod.mk.injEq] at H
       obtain ⟨rfl, rfl, rfl, rfl, rfl, rfl, rfl, rfl⟩ := H
       have hnb34 := NB232_233.out
       have hnc34 := NB233_232.out
       have hnb35 := NB232_242.out
       have hnc35 := NB242_232.out
       have hcz36_0 : wc.cell? ⟨gb232, 0, none⟩ = some (.string a0_0) := (zc BK232.out 0).trans rfl
       have hcz36_1 : wc.cell? ⟨gb232, 1, none⟩ = some (.int .i64 a0_1) := (zc BK232.out 1).trans rfl
       have hcz36_2 : wc.cell? ⟨gb232, 2, none⟩ = some (.int .i64 a0_2) := (zc BK232.out 2).trans rfl
       have hcz36_3 : wc.cell? ⟨gb232, 3, none⟩ = some (.int .i64 a0_3) := (zc BK232.out 3).trans rfl
       have hcz36_4 : wc.cell? ⟨gb232, 4, none⟩ = some (.int .i64 a0_4) := (zc BK232.out 4).trans rfl
       have hcz36_5 : wc.cell? ⟨gb232, 5, none⟩ = some (.string a0_5) := (zc BK232.out 5).trans rfl
       have hcz36_6 : wc.cell? ⟨gb232, 6, none⟩ = some (.bool a0_6) := (zc BK232.out 6).trans rfl
       have hfz36_0 := zf BK232.out 0
       have hfz36_1 := zf BK232.out 1
       have hfz36_2 := zf BK232.out 2
       have hfz36_3 := zf BK232.out 3
       have hfz36_4 := zf BK232.out 4
       have hfz36_5 := zf BK232.out 5
       have hfz36_6 := zf BK232.out 6
       go_wp2_with (first | ((with_reducible refine gate_callee (f := 62) rfl ?_); refine goesL_ (some 41) rfl rfl Tryd.func62 (by kernel_rfl) rfl #[.agg #[.string a0_0, .int .i64 a0_1, .int .i64 a0_2, .int .i64 a0_3, .int .i64 a0_4, .string a0_5, .bool a0_6], .int .i64 a0_1, .int .i64 2] rfl (by (try simp only [mt_, mc_, mn_]); first | done | rfl) ?_; (with_reducible refine (uR04_fail.calls a0_0 a0_1 a0_2 a0_3 a0_4 a0_5 a0_6 a0_1 2 t250 t251 t252 t253 t254 t255 t256 _ A33.out).mono ?_); rintro e w37 ⟨rfl, hb⟩; refine ⟨_, rfl, ?_⟩; have n0_ := ak_ (blk_below (g := gb232) (o := .cells #[.string a0_0, .int .i64 a0_1, .int .i64 a0_2, .int .i64 a0_3, .int .i64 a0_4, .string a0_5, .bool a0_6] 81 (0, 0)) (by (with_reducible repeat (first | apply zn | apply zd | apply za)); exact BK232.out) hb); have n1_ := ak_ (blk_below (g := gb233) (o := .cells #[.string ⟨#[]⟩, .int .i64 0, .int .i64 0, .int .i64 0, .int .i64 0, .string ⟨#[]⟩, .bool false] 81 (0, 0)) (by (with_reducible repeat (first | apply zn | apply zd | apply za)); exact BK233.out) hb); have n2_ := ak_ (blk_below (g := gb242) (o := .cells #[.string t234, .int .i64 t235, .int .i64 t236, .int .i64 t237, .int .i64 t238, .string t239, .bool t240] 81 (0, 0)) (by (with_reducible repeat (first | apply zn | apply zd | apply za)); exact BK242.out) hb); have n3_ := ak_ (ps (by with_reducible repeat first | exact HB.out | apply pa | apply pd | apply pe | refine zs ?_ GE232.out | refine zs ?_ GE233.out | refine zs ?_ GE242.out) hb); clear BK232 BK233 BK242 HB; have BK232 := n0_; have BK233 := n1_; have BK242 := n2_; have HB := n3_; clear n0_ n1_ n2_ n3_; have hnb38 := NB233_242.out; have hnc38 := NB242_233.out; have hcz39_0 : w37.cell? ⟨gb233, 0, none⟩ = some (.string ⟨#[]⟩) := (zc BK233.out 0).trans rfl; have hcz39_1 : w37.cell? ⟨gb233, 1, none⟩ = some (.int .i64 0) := (zc BK233.out 1).trans rfl; have hcz39_2 : w37.cell? ⟨gb233, 2, none⟩ = some (.int .i64 0) := (zc BK233.out 2).trans rfl; have hcz39_3 : w37.cell? ⟨gb233, 3, none⟩ = some (.int .i64 0) := (zc BK233.out 3).trans rfl; have hcz39_4 : w37.cell? ⟨gb233, 4, none⟩ = some (.int .i64 0) := (zc BK233.out 4).trans rfl; have hcz39_5 : w37.cell? ⟨gb233, 5, none⟩ = some (.string ⟨#[]⟩) := (zc BK233.out 5).trans rfl; have hcz39_6 : w37.cell? ⟨gb233, 6, none⟩ = some (.bool false) := (zc BK233.out 6).trans rfl; have hfz39_0 := zf BK233.out 0; have hfz39_1 := zf BK233.out 1; have hfz39_2 := zf BK233.out 2; have hfz39_3 := zf BK233.out 3; have hfz39_4 := zf BK233.out 4; have hfz39_5 := zf BK233.out 5; have hfz39_6 := zf BK233.out 6))
       refine bodyPost_ret (results_ct rfl _ _ gb233 81 #[.string t250, .int .i64 t251, .int .i64 t252, .int .i64 t253, .int .i64 t254, .string t255, .bool t256] (0, 0) _ rfl (by (with_reducible repeat (first | apply zn | apply zd | apply za)); refine zp (cs := #[.string t250, .int .i64 t251, .int .i64 t252, .int .i64 t253, .int .i64 t254, .string t255, .bool false]) ?_ 6 _ rfl; (with_reducible repeat (first | apply zn | apply zd | apply za)); refine zp (cs := #[.string t250, .int .i64 t251, .int .i64 t252, .int .i64 t253, .int .i64 t254, .string ⟨#[]⟩, .bool false]) ?_ 5 _ rfl; (with_reducible repeat (first | apply zn | apply zd | apply za)); refine zp (cs := #[.string t250, .int .i64 t251, .int .i64 t252, .int .i64 t253, .int .i64 0, .string ⟨#[]⟩, .bool false]) ?_ 4 _ rfl; (with_reducible repeat (first | apply zn | apply zd | apply za)); refine zp (cs := #[.string t250, .int .i64 t251, .int .i64 t252, .int .i64 0, .int .i64 0, .string ⟨#[]⟩, .bool false]) ?_ 3 _ rfl; (with_reducible repeat (first | apply zn | apply zd | apply za)); refine zp (cs := #[.string t250, .int .i64 t251, .int .i64 0, .int .i64 0, .int .i64 0, .string ⟨#[]⟩, .bool false]) ?_ 2 _ rfl; (with_reducible repeat (first | apply zn | apply zd | apply za)); refine zp (cs := #[.string t250, .int .i64 0, .int .i64 0, .int .i64 0, .int .i64 0, .string ⟨#[]⟩, .bool false]) ?_ 1 _ rfl; (with_reducible repeat (first | apply zn | apply zd | apply za)); refine zp (cs := #[.string ⟨#[]⟩, .int .i64 0, .int .i64 0, .int .i64 0, .int .i64 0, .string ⟨#[]⟩, .bool false]) ?_ 0 _ rfl; (with_reducible repeat (first | apply zn | apply zd | apply za)); exact BK233.out) Tryd.underlying81 rfl (by kernel_rfl)) rfl ?_
       exact ⟨by first | rfl | simp [*], by repeat (first | (with_reducible first | exact HB.out | apply pa | apply pd | apply pe | refine zs ?_ GE232.out | refine zs ?_ GE233.out | refine zs ?_ GE242.out) | exact HB.out)⟩
     rw [if_neg c32] at H
     have c32b0 : decide ((wrap64 (Int.tdiv (wrap64 ((t234.size : Int) - t235)) x2_24)) < t241) = false := df_ c32
     clear c32
     (first | rw [c32b0] | (simp only [i64_w, i32_w]; rw [c32b0]) | skip)
     simp only [Option.some.injEq, Prod.mk.injEq] at H
     obtain ⟨rfl, rfl, rfl, rfl, rfl, rfl, rfl, rfl⟩ := H
     have hnb40 := NB242_232.out
     have hnc40 := NB232_242.out
     have hnb41 := NB242_233.out
     have hnc41 := NB233_242.out
     have hcz42_0 : wc.cell? ⟨gb242, 0, none⟩ = some (.string t234) := (zc BK242.out 0).trans rfl
     have hcz42_1 : wc.cell? ⟨gb242, 1, none⟩ = some (.int .i64 t235) := (zc BK242.out 1).trans rfl
     have hcz42_2 : wc.cell? ⟨gb242, 2, none⟩ = some (.int .i64 t236) := (zc BK242.out 2).trans rfl
     have hcz42_3 : wc.cell? ⟨gb242, 3, none⟩ = some (.int .i64 t237) := (zc BK242.out 3).trans rfl
     have hcz42_4 : wc.cell? ⟨gb242, 4, none⟩ = some (.int .i64 t238) := (zc BK242.out 4).trans rfl
     have hcz42_5 : wc.cell? ⟨gb242, 5, none⟩ = some (.string t239) := (zc BK242.out 5).trans rfl
     have hcz42_6 : wc.cell? ⟨gb242, 6, none⟩ = some (.bool t240) := (zc BK242.out 6).trans rfl
     have hfz42_0 := zf BK242.out 0
     have hfz42_1 := zf BK242.out 1
     have hfz42_2 := zf BK242.out 2
     have hfz42_3 := zf BK242.out 3
     have hfz42_4 := zf BK242.out 4
     have hfz42_5 := zf BK242.out 5
     have hfz42_6 := zf BK242.out 6
     have hnb43 := NB233_232.out
     have hnc43 := NB232_233.out
     have hcz44_0 : wc.cell? ⟨gb233, 0, none⟩ = some (.string ⟨#[]⟩) := (zc BK233.out 0).trans rfl
     have hcz44_1 : wc.cell? ⟨gb233, 1, none⟩ = some (.int .i64 0) := (zc BK233.out 1).trans rfl
     have hcz44_2 : wc.cell? ⟨gb233, 2, none⟩ = some (.int .i64 0) := (zc BK233.out 2).trans rfl
     have hcz44_3 : wc.cell? ⟨gb233, 3, none⟩ = some (.int .i64 0) := (zc BK233.out 3).trans rfl
     have hcz44_4 : wc.cell? ⟨gb233, 4, none⟩ = some (.int .i64 0) := (zc BK233.out 4).trans rfl
     have hcz44_5 : wc.cell? ⟨gb233, 5, none⟩ = some (.string ⟨#[]⟩) := (zc BK233.out 5).trans rfl
     have hcz44_6 : wc.cell? ⟨gb233, 6, none⟩ = some (.bool false) := (zc BK233.out 6).trans rfl
     have hfz44_0 := zf BK233.out 0
     have hfz44_1 := zf BK233.out 1
     have hfz44_2 := zf BK233.out 2
     have hfz44_3 := zf BK233.out 3
     have hfz44_4 := zf BK233.out 4
     have hfz44_5 := zf BK233.out 5
     have hfz44_6 := zf BK233.out 6
     go_wp2
     refine bodyPost_ret (results_ct rfl _ _ gb233 81 #[.string t234, .int .i64 t235, .int .i64 t236, .int .i64 t237, .int .i64 t238, .string t239, .bool t240] (0, 0) _ rfl (by (with_reducible repeat (first | apply zn | apply zd | apply za)); refine zp (cs := #[.string t234, .int .i64 t235, .int .i64 t236, .int .i64 t237, .int .i64 t238, .string t239, .bool false]) ?_ 6 _ rfl; (with_reducible repeat (first | apply zn | apply zd | apply za)); refine zp (cs := #[.string t234, .int .i64 t235, .int .i64 t236, .int .i64 t237, .int .i64 t238, .string ⟨#[]⟩, .bool false]) ?_ 5 _ rfl; (with_reducible repeat (first | apply zn | apply zd | apply za)); refine zp (cs := #[.string t234, .int .i64 t235, .int .i64 t236, .int .i64 t237, .int .i64 0, .string ⟨#[]⟩, .bool false]) ?_ 4 _ rfl; (with_reducible repeat (first | apply zn | apply zd | apply za)); refine zp (cs := #[.string t234, .int .i64 t235, .int .i64 t236, .int .i64 0, .int .i64 0, .string ⟨#[]⟩, .bool false]) ?_ 3 _ rfl; (with_reducible repeat (first | apply zn | apply zd | apply za)); refine zp (cs := #[.string t234, .int .i64 t235, .int .i64 0, .int .i64 0, .int .i64 0, .string ⟨#[]⟩, .bool false]) ?_ 2 _ rfl; (with_reducible repeat (first | apply zn | apply zd | apply za)); refine zp (cs := #[.string t234, .int .i64 0, .int .i64 0, .int .i64 0, .int .i64 0, .string ⟨#[]⟩, .bool false]) ?_ 1 _ rfl; (with_reducible repeat (first | apply zn | apply zd | apply za)); refine zp (cs := #[.string ⟨#[]⟩, .int .i64 0, .int .i64 0, .int .i64 0, .int .i64 0, .string ⟨#[]⟩, .bool false]) ?_ 0 _ rfl; (with_reducible repeat (first | apply zn | apply zd | apply za)); exact BK233.out) Tryd.underlying81 rfl (by kernel_rfl)) rfl ?_
     exact ⟨by first | rfl | simp [*], by repeat (first | (with_reducible first | exact HB.out | apply pa | apply pd | apply pe | refine zs ?_ GE232.out | refine zs ?_ GE233.out | refine zs ?_ GE242.out) | exact HB.out)⟩
 rw [if_neg c15] at H
 have c15b0 : (t236 == 0) = false := beq_eq_false_iff_ne.mpr c15
 have c15b1 : (t236 != 0) = true := bne_iff_ne.mpr c15
 (first | rw [c15b0] | (simp only [i64_w, i32_w]; rw [c15b0]) | skip)
 simp only [Option.some.injEq, Prod.mk.injEq] at H
 obtain ⟨rfl, rfl, rfl, rfl, rfl, rfl, rfl, rfl⟩ := H
 have hnb45 := NB242_232.out
 have hnc45 := NB232_242.out
 have hnb46 := NB242_233.out
 have hnc46 := NB233_242.out
 have hcz47_0 : w11.cell? ⟨gb242, 0, none⟩ = some (.string ⟨#[]⟩) := (zc BK242.out 0).trans rfl
 have hcz47_1 : w11.cell? ⟨gb242, 1, none⟩ = some (.int .i64 0) := (zc BK242.out 1).trans rfl
 have hcz47_2 : w11.cell? ⟨gb242, 2, none⟩ = some (.int .i64 0) := (zc BK242.out 2).trans rfl
 have hcz47_3 : w11.cell? ⟨gb242, 3, none⟩ = some (.int .i64 0) := (zc BK242.out 3).trans rfl
 have hcz47_4 : w11.cell? ⟨gb242, 4, none⟩ = some (.int .i64 0) := (zc BK242.out 4).trans rfl
 have hcz47_5 : w11.cell? ⟨gb242, 5, none⟩ = some (.string ⟨#[]⟩) := (zc BK242.out 5).trans rfl
 have hcz47_6 : w11.cell? ⟨gb242, 6, none⟩ = some (.bool false) := (zc BK242.out 6).trans rfl
 have hfz47_0 := zf BK242.out 0
 have hfz47_1 := zf BK242.out 1
 have hfz47_2 := zf BK242.out 2
 have hfz47_3 := zf BK242.out 3
 have hfz47_4 := zf BK242.out 4
 have hfz47_5 := zf BK242.out 5
 have hfz47_6 := zf BK242.out 6
 have hnb48 := NB233_232.out
 have hnc48 := NB232_233.out
 have hcz49_0 : w11.cell? ⟨gb233, 0, none⟩ = some (.string ⟨#[]⟩) := (zc BK233.out 0).trans rfl
 have hcz49_1 : w11.cell? ⟨gb233, 1, none⟩ = some (.int .i64 0) := (zc BK233.out 1).trans rfl
 have hcz49_2 : w11.cell? ⟨gb233, 2, none⟩ = some (.int .i64 0) := (zc BK233.out 2).trans rfl
 have hcz49_3 : w11.cell? ⟨gb233, 3, none⟩ = some (.int .i64 0) := (zc BK233.out 3).trans rfl
 have hcz49_4 : w11.cell? ⟨gb233, 4, none⟩ = some (.int .i64 0) := (zc BK233.out 4).trans rfl
 have hcz49_5 : w11.cell? ⟨gb233, 5, none⟩ = some (.string ⟨#[]⟩) := (zc BK233.out 5).trans rfl
 have hcz49_6 : w11.cell? ⟨gb233, 6, none⟩ = some (.bool false) := (zc BK233.out 6).trans rfl
 have hfz49_0 := zf BK233.out 0
 have hfz49_1 := zf BK233.out 1
 have hfz49_2 := zf BK233.out 2
 have hfz49_3 := zf BK233.out 3
 have hfz49_4 := zf BK233.out 4
 have hfz49_5 := zf BK233.out 5
 have hfz49_6 := zf BK233.out 6
 go_wp2
 refine bodyPost_ret (results_ct rfl _ _ gb233 81 #[.string t234, .int .i64 t235, .int .i64 t236, .int .i64 t237, .int .i64 t238, .string t239, .bool t240] (0, 0) _ rfl (by (with_reducible repeat (first | apply zn | apply zd | apply za)); refine zp (cs := #[.string t234, .int .i64 t235, .int .i64 t236, .int .i64 t237, .int .i64 t238, .string t239, .bool false]) ?_ 6 _ rfl; (with_reducible repeat (first | apply zn | apply zd | apply za)); refine zp (cs := #[.string t234, .int .i64 t235, .int .i64 t236, .int .i64 t237, .int .i64 t238, .string ⟨#[]⟩, .bool false]) ?_ 5 _ rfl; (with_reducible repeat (first | apply zn | apply zd | apply za)); refine zp (cs := #[.string t234, .int .i64 t235, .int .i64 t236, .int .i64 t237, .int .i64 0, .string ⟨#[]⟩, .bool false]) ?_ 4 _ rfl; (with_reducible repeat (first | apply zn | apply zd | apply za)); refine zp (cs := #[.string t234, .int .i64 t235, .int .i64 t236, .int .i64 0, .int .i64 0, .string ⟨#[]⟩, .bool false]) ?_ 3 _ rfl; (with_reducible repeat (first | apply zn | apply zd | apply za)); refine zp (cs := #[.string t234, .int .i64 t235, .int .i64 0, .int .i64 0, .int .i64 0, .string ⟨#[]⟩, .bool false]) ?_ 2 _ rfl; (with_reducible repeat (first | apply zn | apply zd | apply za)); refine zp (cs := #[.string t234, .int .i64 0, .int .i64 0, .int .i64 0, .int .i64 0, .string ⟨#[]⟩, .bool false]) ?_ 1 _ rfl; (with_reducible repeat (first | apply zn | apply zd | apply za)); refine zp (cs := #[.string ⟨#[]⟩, .int .i64 0, .int .i64 0, .int .i64 0, .int .i64 0, .string ⟨#[]⟩, .bool false]) ?_ 0 _ rfl; (repeat (first | (with_reducible first | apply zn | apply zd | apply za) | refine zr ?_ NB233_242.out _)); (with_reducible repeat (first | apply zn | apply zd | apply za)); exact BK233.out) Tryd.underlying81 rfl (by kernel_rfl)) rfl ?_
 exact ⟨by first | rfl | simp [*], by repeat (first | (with_reducible first | exact HB.out | apply pa | apply pd | apply pe | refine zs ?_ GE232.out | refine zs ?_ GE233.out | refine zs ?_ GE242.out) | exact HB.out)⟩
theorem count_eq {b : List Int} {a fa fe : Int} (hB : BB b) (h : Rd b a fa fe) (k : Nat) (N : Int) (S : ByteArray) (Y : Bool) (m least : Int) : ∃ r a' f' e', fR_Count.f b a fa fe m least = some (r, a', f', e') ∧ Rd b a' f' e' ∧ uR04_Count.f (k + 10) (strOfNums b) a fe fa N S Y m least = some (strOfNums b, a', e', f', N, S, Y, r) := by
  obtain ⟨n, a1, f1, e1, hn, hr, ht, hz, n0, n1⟩ := take_eq hB h k N S Y
  unfold fR_Count.f uR04_Count.f
  rw [hn, ht, bs_, bs_]
  dsimp only
  rw [okR_f, bs_]
  dsimp only
  have hl := hr.len; have h0 := hr.a0; have h1 := hr.a1
  have hk := hr.ok
  have hs : ((strOfNums b).size : Int) = b.length := by simp [strOfNums, ByteArray.size]
  by_cases he : e1 = 0
  · rw [dt_ he] at hk
    rw [if_pos hk, if_pos he]
    by_cases hm : n > m
    · rw [if_pos hm, if_pos hm, fail_ok hk, bs_]
      exact ⟨_, _, _, _, rfl, ⟨h.len, h.a0, h.a1, fun h => by simp at h⟩, rfl⟩
    · rw [if_neg hm, if_neg hm, leftR_f, bs_]
      dsimp only
      have hx : mx least 1 = if least < 1 then 1 else least := by unfold mx; split <;> first | rfl | (split <;> omega) | omega
      have hx1 : 1 ≤ mx least 1 := by unfold mx; split <;> omega
      have hj : (if least < 1 then uR04_Count.j0 (k + 10) 1 n (strOfNums b) a fe fa N S Y (strOfNums b) a1 e1 f1 N S Y else uR04_Count.j0 (k + 10) least n (strOfNums b) a fe fa N S Y (strOfNums b) a1 e1 f1 N S Y) = uR04_Count.j0 (k + 10) (mx least 1) n (strOfNums b) a fe fa N S Y (strOfNums b) a1 e1 f1 N S Y := by
        rw [hx]
        split <;> rfl
      rw [hj]
      rw [uR04_Count.j0]
      clear hx hj
      generalize mx least 1 = x at *
      rw [if_neg (show ¬ x = 0 by omega), if_neg (show ¬ x = 0 by omega), hs]
      split
      · rw [fail_ok hk, bs_]
        exact ⟨_, _, _, _, rfl, ⟨h.len, h.a0, h.a1, fun h => by simp at h⟩, rfl⟩
      · exact ⟨_, _, _, _, rfl, hr, rfl⟩
  · rw [df_ he] at hk
    rw [if_neg (by rw [hk]; decide), if_neg he]
    exact ⟨_, _, _, _, rfl, hr, rfl⟩
end Go.Proofs.YtcgpbakimkhdpaaDoor.Q
section
namespace Go.Proofs
open Go.Shelf
def Tryd.lays196_ren : Go.Shelf.Ren := ⟨fun | 196 => 71 | 259 => 80 | n => n, fun | 9 => 9 | 4 => 4 | 3 => 3 | 5 => 5 | 12 => 12 | 119 => 132 | 0 => 0 | 46 => 120 | 139 => 135 | 138 => 134 | 53 => 119 | 20 => 20 | n => n, fun | 3 => 0 | 4 => 1 | n => n⟩
theorem Tryd.lays196 : Go.Proofs.Lays.n196 Tryd.prog Tryd.lays196_ren := {
 mixed := by kernel_rfl
 f196 := Tryd.func71.trans (congrArg some (by kernel_rfl))
 f259 := Tryd.func80.trans (congrArg some (by kernel_rfl))
 t0 := Tryd.underlying0
 a0 := Tryd.isAgg0
 z0 := Tryd.sizeOf0
 v0 := Tryd.zeroValue0
 t3 := Tryd.underlying3
 a3 := Tryd.isAgg3
 z3 := Tryd.sizeOf3
 v3 := Tryd.zeroValue3
 t4 := Tryd.underlying4
 a4 := Tryd.isAgg4
 z4 := Tryd.sizeOf4
 v4 := Tryd.zeroValue4
 t5 := Tryd.underlying5
 a5 := Tryd.isAgg5
 z5 := Tryd.sizeOf5
 v5 := Tryd.zeroValue5
 t9 := Tryd.underlying9
 a9 := Tryd.isAgg9
 z9 := Tryd.sizeOf9
 v9 := Tryd.zeroValue9
 t12 := Tryd.underlying12
 a12 := Tryd.isAgg12
 z12 := Tryd.sizeOf12
 v12 := Tryd.zeroValue12
 t46 := Tryd.underlying120
 a46 := Tryd.isAgg120
 z46 := Tryd.sizeOf120
 v46 := Tryd.zeroValue120
 t53 := Tryd.underlying119
 a53 := Tryd.isAgg119
 z53 := Tryd.sizeOf119
 v53 := Tryd.zeroValue119
 t119 := Tryd.underlying132
 a119 := Tryd.isAgg132
 z119 := Tryd.sizeOf132
 t138 := Tryd.underlying134
 a138 := Tryd.isAgg134
 z138 := Tryd.sizeOf134
 v138 := Tryd.zeroValue134
 t139 := Tryd.underlying135
 a139 := Tryd.isAgg135
 z139 := Tryd.sizeOf135
 v139 := Tryd.zeroValue135
 g3 := by kernel_rfl
 g4 := by kernel_rfl }
end Go.Proofs
end
section
namespace Go.Proofs.YtcgpbakimkhdpaaDoor.Utf
open Go.Lib
set_option linter.unusedVariables false
set_option linter.unusedSimpArgs false
def letterP (c : Int) : Bool := decide ((97 ≤ c ∧ c ≤ 122) ∨ (65 ≤ c ∧ c ≤ 90) ∨ 128 ≤ c)
def mayP (c : Int) : Bool := decide ((97 ≤ c ∧ c ≤ 122) ∨ (65 ≤ c ∧ c ≤ 90) ∨ 128 ≤ c ∨ (48 ≤ c ∧ c ≤ 57) ∨ c = 45 ∨ c = 95)
def Bad (l : List UInt8) : Prop := (decodeL l).1 = 65533 ∧ (decodeL l).2 = 1
instance (l : List UInt8) : Decidable (Bad l) := inferInstanceAs (Decidable (_ ∧ _))
def first (l : List UInt8) : Option Nat := if Bad l then none else some (decodeL l).1
def runesGo : Nat → List UInt8 → List (Option Nat)
  | 0, _ => []
  | n + 1, l => if l = [] then [] else first l :: runesGo n (l.drop (decodeL l).2)
def runes (l : List UInt8) : List (Option Nat) := runesGo l.length l
theorem runesGo_nil : ∀ n, runesGo n [] = []
  | 0 => rfl
  | n + 1 => by simp [runesGo]
theorem runesGo_fuel : ∀ (n m : Nat) (l : List UInt8), l.length ≤ n → l.length ≤ m → runesGo n l = runesGo m l
  | 0, m, l, h, _ => by
    have : l = [] := List.eq_nil_of_length_eq_zero (by omega)
    subst this
    rw [runesGo_nil, runesGo_nil]
  | n + 1, 0, l, _, h => by
    have : l = [] := List.eq_nil_of_length_eq_zero (by omega)
    subst this
    rw [runesGo_nil, runesGo_nil]
  | n + 1, m + 1, l, h, h' => by
    unfold runesGo
    by_cases hne : l = []
    · simp [hne]
    · have hw := decodeL_width l
      have hl : 0 < l.length := List.length_pos_iff.2 hne
      rw [if_neg hne, if_neg hne, runesGo_fuel n m (l.drop (decodeL l).2) (by rw [List.length_drop]; omega) (by rw [List.length_drop]; omega)]
theorem runes_step (l : List UInt8) (hne : l ≠ []) : runes l = first l :: runes (l.drop (decodeL l).2) := by
  have hw := decodeL_width l
  have hl : 0 < l.length := List.length_pos_iff.2 hne
  obtain ⟨n, hn⟩ : ∃ n, l.length = n + 1 := ⟨l.length - 1, by omega⟩
  unfold runes
  rw [hn]
  show (if l = [] then [] else _) = _
  rw [if_neg hne, runesGo_fuel n (l.drop (decodeL l).2).length _ (by rw [List.length_drop]; omega) (Nat.le_refl _)]
theorem runes_ind {p : List UInt8 → Prop} (h0 : p []) (h1 : ∀ l, l ≠ [] → p (l.drop (decodeL l).2) → p l) : ∀ l, p l := by
  have : ∀ n l, l.length ≤ n → p l := by
    intro n
    induction n with
    | zero => intro l hl; rw [List.eq_nil_of_length_eq_zero (by omega : l.length = 0)]; exact h0
    | succ n ih =>
      intro l hl
      by_cases hne : l = []
      · rw [hne]; exact h0
      · have hw := decodeL_width l
        have hp : 0 < l.length := List.length_pos_iff.2 hne
        exact h1 l hne (ih _ (by rw [List.length_drop]; omega))
  exact fun l => this l.length l (Nat.le_refl _)
theorem validD_runes (l : List UInt8) : validD l = (runes l).all Option.isSome := by
  refine runes_ind (p := fun l => validD l = (runes l).all Option.isSome) rfl ?_ l
  intro l hne ih
  rw [validD_step l hne, runes_step l hne]
  by_cases hb : Bad l
  · rw [if_pos (show (decodeL l).1 = 65533 ∧ (decodeL l).2 = 1 from hb)]
    simp [first, hb]
  · rw [if_neg (show ¬ ((decodeL l).1 = 65533 ∧ (decodeL l).2 = 1) from hb), ih]
    simp [first, hb]
def mo (o : Option Nat) : Nat := match o with
  | some c => if mayP c = true then c else 95
  | none => 95
def maskD (l : List UInt8) : List UInt8 := (runes l).flatMap fun o => encodeRune (mo o : Int)
def okRune (o : Option Nat) : Bool := match o with
  | some c => mayP c
  | none => false
def goodD (l : List UInt8) : Bool := (runes l).all okRune && (match (runes l).head? with
  | some (some c) => letterP c
  | _ => false) && decide ((runes l).length ≤ 64)
theorem all_ok_some (l : List UInt8) (h : (runes l).all okRune = true) : (runes l).all Option.isSome = true := by
  rw [List.all_eq_true] at h ⊢
  intro o ho
  have := h o ho
  cases o with
  | none => cases this
  | some c => rfl
theorem good_ok (l : List UInt8) (h : goodD l = true) : (runes l).all okRune = true := by
  unfold goodD at h
  rw [Bool.and_eq_true, Bool.and_eq_true] at h
  exact h.1.1
end Go.Proofs.YtcgpbakimkhdpaaDoor.Utf
end
namespace Go.Proofs.YtcgpbakimkhdpaaDoor.Q
open Go.RowKit Go.Proofs.YtcgpbakimkhdpaaDoorW.PrintWords Go.Proofs.YtcgpbakimkhdpaaDoorW.PrintLast Go.Proofs.YtcgpbakimkhdpaaDoorW.PrintMore
attribute [local go_sem] max2_int min2_int max_two min_two max_three min_three max_four min_four
set_option linter.unusedVariables false
set_option linter.unusedSimpArgs false
set_option maxHeartbeats 8000000
set_option maxRecDepth 100000
open Go.Proofs.YtcgpbakimkhdpaaDoor.Q.H_
def Tabs_ (w : World) : Prop := Lib.Utf8Tabs (Tryd.lays196_ren.g 3) (Tryd.lays196_ren.g 4) w
theorem Tabs_.utf {w : World} (h : Tabs_ w) : Lib.Utf8Tabs (Tryd.lays196_ren.g 3) (Tryd.lays196_ren.g 4) w := h
theorem Tabs_.below {w W : World} (h : Tabs_ w) (hb : Below w.heap.size w W) : Tabs_ W := by
 refine ⟨fun c hc => ?_, fun i hi => ⟨?_, ?_⟩⟩
 · have e := h.1 c hc
   rw [hb.cell (World.block_lt_of_cell? _ _ e)]
   exact e
 · have e := (h.2 i hi).1
   rw [hb.cell (World.block_lt_of_cell? _ _ e)]
   exact e
 · have e := (h.2 i hi).2
   rw [hb.cell (World.block_lt_of_cell? _ _ e)]
   exact e
theorem Tabs_.drew {w : World} (h : Tabs_ w) : Tabs_ w.drew := h
theorem Tabs_.drewN {w : World} (h : Tabs_ w) (n : Nat) : Tabs_ (w.drewN n) := h.below (pw_below_drewN (Below.refl _ _) n)
theorem Tabs_.alloc {w : World} (h : Tabs_ w) (o : Obj) : Tabs_ (w.alloc o) := h.below ((Below.refl _ _).alloc (Nat.le_refl _) o)
theorem drop_size (s : ByteArray) : s.data.toList.length = s.size := (Lib.size_eq s).symm
theorem runes_at (s : ByteArray) (pos : Nat) (h : pos < s.size) : Utf.runes (s.data.toList.drop pos) = Utf.first (s.data.toList.drop pos) :: Utf.runes (s.data.toList.drop (pos + (Utf8.decode s pos).2)) := by
 have hne : s.data.toList.drop pos ≠ [] := by
  intro e
  have := congrArg List.length e
  rw [List.length_drop, drop_size] at this
  simp at this
  omega
 rw [Utf.runes_step _ hne, Lib.decodeL_drop, List.drop_drop]
theorem runes_end (s : ByteArray) (pos : Nat) (h : ¬ pos < s.size) : Utf.runes (s.data.toList.drop pos) = [] := by
 rw [List.drop_eq_nil_of_le (by rw [drop_size]; omega)]
 rfl
theorem first_at (s : ByteArray) (pos : Nat) : Utf.first (s.data.toList.drop pos) = if (Utf8.decode s pos).1 = 65533 ∧ (Utf8.decode s pos).2 = 1 then none else some (Utf8.decode s pos).1 := by
 have e := Lib.decodeL_drop s pos
 unfold Utf.first
 by_cases hb : Utf.Bad (s.data.toList.drop pos)
 · rw [if_pos hb]
   unfold Utf.Bad at hb
   rw [e] at hb
   rw [if_pos hb]
 · rw [if_neg hb, e]
   unfold Utf.Bad at hb
   rw [e] at hb
   rw [if_neg hb]
def label_Runes.f (a0 : ByteArray) : Option (Int) := if a0.size < 9223372036854775807 then some ((Utf.runes a0.data.toList).length : Int) else none
theorem label_Runes.calls (a0 : ByteArray) (r : Int) (w : World) (h : label_Runes.f a0 = some r) :
 Calls Tryd.prog 72 #[.string a0] w fun e w' => e = .returned (.int .i64 r) ∧ Below w.heap.size w w' := by
 unfold label_Runes.f at h
 by_cases hs : a0.size < 9223372036854775807
 · rw [if_pos hs] at h
   obtain rfl := Option.some.inj h
   clear h
   go_enter Tryd.func72, Tryd.ntmps72
   go_wp2
   go_loopw [3] (fun n w' => ∃ (pos acc : Nat), w' = w.iter a0 pos ∧ n = .int .i64 acc ∧ acc + (Utf.runes (a0.data.toList.drop pos)).length = (Utf.runes a0.data.toList).length ∧ acc ≤ pos) (fun _ w' => a0.size - w'.iterPos w.heap.size)
   case atStart => exact ⟨0, 0, rfl, rfl, by simp, Nat.le_refl _⟩
   case round =>
    obtain ⟨pos, acc, rfl, rfl, hc, ha⟩ := hrel
    by_cases hp : pos < a0.size
    · have hnx : ∀ ty, (Instr.next (.pointer (some ⟨w.heap.size, 0, none⟩)) true ty).run Tryd.prog (w.iter a0 pos) = _ := fun ty => run_next_any w a0 pos ty hp
      have hwd := Lib.decode_width_pos a0 pos hp
      go_wp2
      go_roundw
      case rel =>
       refine ⟨pos + (Utf8.decode a0 pos).2, acc + 1, rfl, by go_num, ?_, by omega⟩
       rw [← hc, runes_at a0 pos hp]
       simp
       omega
      case measure =>
       simp
       omega
    · have hnx : ∀ ty, (Instr.next (.pointer (some ⟨w.heap.size, 0, none⟩)) true ty).run Tryd.prog (w.iter a0 pos) = _ := fun ty => run_next_end w a0 pos ty hp
      go_wp2
      go_ret
      rw [runes_end a0 pos hp, List.length_nil, Nat.add_zero] at hc
      subst hc
      exact ⟨rfl, below_alloc (Below.refl _ _) _⟩
 · rw [if_neg hs] at h
   cases h
def label_letter.f (a0 : Int) : Option (Bool) := if a0 ≥ 97 then (if a0 ≤ 122 then (some true) else (if a0 ≥ 65 then (if a0 ≤ 90 then (some true) else (some (decide (a0 ≥ 128)))) else (some (decide (a0 ≥ 128))))) else (if a0 ≥ 65 then (if a0 ≤ 90 then (some true) else (some (decide (a0 ≥ 128)))) else (some (decide (a0 ≥ 128))))
theorem label_letter.calls (a0 : Int) (r : Bool) (w : World) (h : label_letter.f a0 = some r) :
 Calls Tryd.prog 74 #[.int .i32 a0] w fun e w' => e = .returned (.bool r) ∧ Drawn0 w w' := by
 have H : (if a0 ≥ 97 then (if a0 ≤ 122 then (some true) else (if a0 ≥ 65 then (if a0 ≤ 90 then (some true) else (some (decide (a0 ≥ 128)))) else (some (decide (a0 ≥ 128))))) else (if a0 ≥ 65 then (if a0 ≤ 90 then (some true) else (some (decide (a0 ≥ 128)))) else (some (decide (a0 ≥ 128))))) = some r := h
 clear h
 by_cases c2 : a0 ≥ 97
 · rw [if_pos c2] at H
   have c2b0 : decide (97 ≤ a0) = true := dt_ c2
   clear c2
   by_cases c3 : a0 ≤ 122
   · rw [if_pos c3] at H
     have c3b0 : decide (a0 ≤ 122) = true := dt_ c3
     clear c3
     obtain rfl := Option.some.inj H
     go_enter Tryd.func74, Tryd.ntmps74
     go_wp2
     go_ret
     exact ⟨by first | rfl | simp [*], by repeat (first | exact Drawn0.refl _ | apply Drawn0.step)⟩
   · rw [if_neg c3] at H
     have c3b0 : decide (a0 ≤ 122) = false := df_ c3
     clear c3
     by_cases c4 : a0 ≥ 65
     · rw [if_pos c4] at H
       have c4b0 : decide (65 ≤ a0) = true := dt_ c4
       clear c4
       by_cases c5 : a0 ≤ 90
       · rw [if_pos c5] at H
         have c5b0 : decide (a0 ≤ 90) = true := dt_ c5
         clear c5
         obtain rfl := Option.some.inj H
         go_enter Tryd.func74, Tryd.ntmps74
         go_wp2
         go_ret
         exact ⟨by first | rfl | simp [*], by repeat (first | exact Drawn0.refl _ | apply Drawn0.step)⟩
       · rw [if_neg c5] at H
         have c5b0 : decide (a0 ≤ 90) = false := df_ c5
         clear c5
         obtain rfl := Option.some.inj H
         go_enter Tryd.func74, Tryd.ntmps74
         go_wp2
         go_ret
         exact ⟨by first | rfl | simp [*], by repeat (first | exact Drawn0.refl _ | apply Drawn0.step)⟩
     · rw [if_neg c4] at H
       have c4b0 : decide (65 ≤ a0) = false := df_ c4
       clear c4
       obtain rfl := Option.some.inj H
       go_enter Tryd.func74, Tryd.ntmps74
       go_wp2
       go_ret
       exact ⟨by first | rfl | simp [*], by repeat (first | exact Drawn0.refl _ | apply Drawn0.step)⟩
 · rw [if_neg c2] at H
   have c2b0 : decide (97 ≤ a0) = false := df_ c2
   clear c2
   by_cases c6 : a0 ≥ 65
   · rw [if_pos c6] at H
     have c6b0 : decide (65 ≤ a0) = true := dt_ c6
     clear c6
     by_cases c7 : a0 ≤ 90
     · rw [if_pos c7] at H
       have c7b0 : decide (a0 ≤ 90) = true := dt_ c7
       clear c7
       obtain rfl := Option.some.inj H
       go_enter Tryd.func74, Tryd.ntmps74
       go_wp2
       go_ret
       exact ⟨by first | rfl | simp [*], by repeat (first | exact Drawn0.refl _ | apply Drawn0.step)⟩
     · rw [if_neg c7] at H
       have c7b0 : decide (a0 ≤ 90) = false := df_ c7
       clear c7
       obtain rfl := Option.some.inj H
       go_enter Tryd.func74, Tryd.ntmps74
       go_wp2
       go_ret
       exact ⟨by first | rfl | simp [*], by repeat (first | exact Drawn0.refl _ | apply Drawn0.step)⟩
   · rw [if_neg c6] at H
     have c6b0 : decide (65 ≤ a0) = false := df_ c6
     clear c6
     obtain rfl := Option.some.inj H
     go_enter Tryd.func74, Tryd.ntmps74
     go_wp2
     go_ret
     exact ⟨by first | rfl | simp [*], by repeat (first | exact Drawn0.refl _ | apply Drawn0.step)⟩
def label_letter.Pure : Prop := ∀ (a0 : Int), (Lit.int .i32 a0).wf = true → label_letter.f a0 = some true
def label_may.f (a0 : Int) : Option (Bool) := (label_letter.f a0).bind fun t143 => (if t143 = true then (some true) else (if a0 ≥ 48 then (if a0 ≤ 57 then (some true) else (if a0 = 45 then (some true) else (some (a0 == 95)))) else (if a0 = 45 then (some true) else (some (a0 == 95)))))
theorem label_may.calls (a0 : Int) (r : Bool) (w : World) (h : label_may.f a0 = some r) :
 Calls Tryd.prog 73 #[.int .i32 a0] w fun e w' => e = .returned (.bool r) ∧ Drawn0 w w' := by
 have H : ((label_letter.f a0).bind fun t143 => (if t143 = true then (some true) else (if a0 ≥ 48 then (if a0 ≤ 57 then (some true) else (if a0 = 45 then (some true) else (some (a0 == 95)))) else (if a0 = 45 then (some true) else (some (a0 == 95)))))) = some r := h
 clear h
 replace H := ob_ H
 obtain ⟨t143, A20, H⟩ := H
 replace H : (if t143 = true then (some true) else (if a0 ≥ 48 then (if a0 ≤ 57 then (some true) else (if a0 = 45 then (some true) else (some (a0 == 95)))) else (if a0 = 45 then (some true) else (some (a0 == 95))))) = some r := H
 have A2 := ak_ A20
 clear A20
 by_cases c3 : t143 = true
 · subst c3
   have H1 : (some true) = some r := by rw [if_pos rfl] at H; exact H
   clear H
   have H := H1
   clear H1
   obtain rfl := Option.some.inj H
   go_enter Tryd.func73, Tryd.ntmps73
   go_wp2_with (first | ((with_reducible refine gate_callee (f := 74) rfl ?_); refine goesL_ (some 4) rfl rfl Tryd.func74 (by kernel_rfl) rfl #[.int .i32 a0] rfl (by (try simp only [mt_, mc_, mn_]); first | done | rfl) ?_; (with_reducible refine (label_letter.calls a0 true _ A2.out).mono ?_); rintro e w' ⟨rfl, ⟨nd, rfl⟩⟩; refine ⟨_, rfl, ?_⟩))
   go_ret
   exact ⟨by first | rfl | simp [*], by repeat (first | exact Drawn0.refl _ | apply Drawn0.step)⟩
 · replace c3 := Bool.eq_false_iff.mpr c3
   subst c3
   have H1 : (if a0 ≥ 48 then (if a0 ≤ 57 then (some true) else (if a0 = 45 then (some true) else (some (a0 == 95)))) else (if a0 = 45 then (some true) else (some (a0 == 95)))) = some r := by rw [if_neg (show ¬ (false = true) by decide)] at H; exact H
   clear H
   have H := H1
   clear H1
   by_cases c4 : a0 ≥ 48
   · rw [if_pos c4] at H
     have c4b0 : decide (48 ≤ a0) = true := dt_ c4
     clear c4
     by_cases c5 : a0 ≤ 57
     · rw [if_pos c5] at H
       have c5b0 : decide (a0 ≤ 57) = true := dt_ c5
       clear c5
       obtain rfl := Option.some.inj H
       go_enter Tryd.func73, Tryd.ntmps73
       go_wp2_with (first | ((with_reducible refine gate_callee (f := 74) rfl ?_); refine goesL_ (some 4) rfl rfl Tryd.func74 (by kernel_rfl) rfl #[.int .i32 a0] rfl (by (try simp only [mt_, mc_, mn_]); first | done | rfl) ?_; (with_reducible refine (label_letter.calls a0 false _ A2.out).mono ?_); rintro e w' ⟨rfl, ⟨nd, rfl⟩⟩; refine ⟨_, rfl, ?_⟩))
       go_ret
       exact ⟨by first | rfl | simp [*], by repeat (first | exact Drawn0.refl _ | apply Drawn0.step)⟩
     · rw [if_neg c5] at H
       have c5b0 : decide (a0 ≤ 57) = false := df_ c5
       clear c5
       by_cases c6 : a0 = 45
       · rw [if_pos c6] at H
         have c6b0 : (a0 == 45) = true := beq_iff_eq.mpr c6
         have c6b1 : (a0 != 45) = false := bne_eq_false_iff_eq.mpr c6
         clear c6
         obtain rfl := Option.some.inj H
         go_enter Tryd.func73, Tryd.ntmps73
         go_wp2_with (first | ((with_reducible refine gate_callee (f := 74) rfl ?_); refine goesL_ (some 4) rfl rfl Tryd.func74 (by kernel_rfl) rfl #[.int .i32 a0] rfl (by (try simp only [mt_, mc_, mn_]); first | done | rfl) ?_; (with_reducible refine (label_letter.calls a0 false _ A2.out).mono ?_); rintro e w' ⟨rfl, ⟨nd, rfl⟩⟩; refine ⟨_, rfl, ?_⟩))
         go_ret
         exact ⟨by first | rfl | simp [*], by repeat (first | exact Drawn0.refl _ | apply Drawn0.step)⟩
       · rw [if_neg c6] at H
         have c6b0 : (a0 == 45) = false := beq_eq_false_iff_ne.mpr c6
         have c6b1 : (a0 != 45) = true := bne_iff_ne.mpr c6
         obtain rfl := Option.some.inj H
         go_enter Tryd.func73, Tryd.ntmps73
         go_wp2_with (first | ((with_reducible refine gate_callee (f := 74) rfl ?_); refine goesL_ (some 4) rfl rfl Tryd.func74 (by kernel_rfl) rfl #[.int .i32 a0] rfl (by (try simp only [mt_, mc_, mn_]); first | done | rfl) ?_; (with_reducible refine (label_letter.calls a0 false _ A2.out).mono ?_); rintro e w' ⟨rfl, ⟨nd, rfl⟩⟩; refine ⟨_, rfl, ?_⟩))
         go_ret
         exact ⟨by first | rfl | simp [*], by repeat (first | exact Drawn0.refl _ | apply Drawn0.step)⟩
   · rw [if_neg c4] at H
     have c4b0 : decide (48 ≤ a0) = false := df_ c4
     clear c4
     by_cases c7 : a0 = 45
     · rw [if_pos c7] at H
       have c7b0 : (a0 == 45) = true := beq_iff_eq.mpr c7
       have c7b1 : (a0 != 45) = false := bne_eq_false_iff_eq.mpr c7
       clear c7
       obtain rfl := Option.some.inj H
       go_enter Tryd.func73, Tryd.ntmps73
       go_wp2_with (first | ((with_reducible refine gate_callee (f := 74) rfl ?_); refine goesL_ (some 4) rfl rfl Tryd.func74 (by kernel_rfl) rfl #[.int .i32 a0] rfl (by (try simp only [mt_, mc_, mn_]); first | done | rfl) ?_; (with_reducible refine (label_letter.calls a0 false _ A2.out).mono ?_); rintro e w' ⟨rfl, ⟨nd, rfl⟩⟩; refine ⟨_, rfl, ?_⟩))
       go_ret
       exact ⟨by first | rfl | simp [*], by repeat (first | exact Drawn0.refl _ | apply Drawn0.step)⟩
     · rw [if_neg c7] at H
       have c7b0 : (a0 == 45) = false := beq_eq_false_iff_ne.mpr c7
       have c7b1 : (a0 != 45) = true := bne_iff_ne.mpr c7
       obtain rfl := Option.some.inj H
       go_enter Tryd.func73, Tryd.ntmps73
       go_wp2_with (first | ((with_reducible refine gate_callee (f := 74) rfl ?_); refine goesL_ (some 4) rfl rfl Tryd.func74 (by kernel_rfl) rfl #[.int .i32 a0] rfl (by (try simp only [mt_, mc_, mn_]); first | done | rfl) ?_; (with_reducible refine (label_letter.calls a0 false _ A2.out).mono ?_); rintro e w' ⟨rfl, ⟨nd, rfl⟩⟩; refine ⟨_, rfl, ?_⟩))
       go_ret
       exact ⟨by first | rfl | simp [*], by repeat (first | exact Drawn0.refl _ | apply Drawn0.step)⟩
def label_may.Pure : Prop := ∀ (a0 : Int), (Lit.int .i32 a0).wf = true → label_may.f a0 = some true
theorem label_letter_f (c : Int) : label_letter.f c = some (Utf.letterP c) := by
 unfold label_letter.f Utf.letterP
 repeat' split
 all_goals (refine congrArg some ?_; rw [Bool.eq_iff_iff]; simp only [decide_eq_true_eq, true_iff, false_iff]; omega)
theorem label_may_f (c : Int) : label_may.f c = some (Utf.mayP c) := by
 unfold label_may.f
 rw [label_letter_f, bs_]
 unfold Utf.letterP Utf.mayP
 repeat' split
 all_goals (refine congrArg some ?_; rw [Bool.eq_iff_iff]; simp only [decide_eq_true_eq, beq_iff_eq, true_iff, false_iff] at *; omega)
def label_Good.f (a0 : ByteArray) : Option (Bool) := if a0.size < 9223372036854775807 then some (Utf.goodD a0.data.toList) else none
def GoodAt (s : ByteArray) (pos : Nat) : Prop :=
 (Utf.runes (s.data.toList.drop pos)).all Option.isSome = true ∧ (0 < pos → Utf.goodD s.data.toList = (Utf.runes (s.data.toList.drop pos)).all Utf.okRune)
theorem goodAt_zero {s : ByteArray} (hv : Lib.validD s.data.toList = true) : GoodAt s 0 := ⟨by rw [List.drop_zero, ← Utf.validD_runes]; exact hv, fun h => absurd h (Nat.lt_irrefl 0)⟩
theorem goodAt_rune {s : ByteArray} {pos : Nat} (h : GoodAt s pos) (hp : pos < s.size) : Utf.first (s.data.toList.drop pos) = some (Utf8.decode s pos).1 ∧ (Utf.runes (s.data.toList.drop (pos + (Utf8.decode s pos).2))).all Option.isSome = true := by
 have h1 := h.1
 rw [runes_at s pos hp, List.all_cons, Bool.and_eq_true] at h1
 refine ⟨?_, h1.2⟩
 have h2 := h1.1
 rw [first_at] at h2 ⊢
 split at h2
 · cases h2
 · rename_i hn
   rw [if_neg hn]
theorem goodAt_next {s : ByteArray} {pos : Nat} (h : GoodAt s pos) (hp : pos < s.size) (hl : (Utf.runes s.data.toList).length ≤ 64) (hm : Utf.mayP ((Utf8.decode s pos).1 : Int) = true) (h0 : pos = 0 → Utf.letterP ((Utf8.decode s pos).1 : Int) = true) : GoodAt s (pos + (Utf8.decode s pos).2) := by
 obtain ⟨hf, ha⟩ := goodAt_rune h hp
 refine ⟨ha, fun _ => ?_⟩
 by_cases hz : pos = 0
 · subst hz
   have e := runes_at s 0 hp
   rw [hf, List.drop_zero] at e
   unfold Utf.goodD
   rw [e, List.all_cons, show Utf.okRune (some (Utf8.decode s 0).1) = true from hm, ← e]
   rw [e] at hl
   rw [e]
   simp only [List.head?_cons, Bool.true_and]
   rw [h0 rfl, dt_ hl, Bool.and_true, Bool.and_true]
 · rw [h.2 (by omega), runes_at s pos hp, hf, List.all_cons, show Utf.okRune (some (Utf8.decode s pos).1) = true from hm, Bool.true_and]
theorem goodAt_end {s : ByteArray} {pos : Nat} (h : GoodAt s pos) (hp : ¬ pos < s.size) (h0 : 0 < s.size) : Utf.goodD s.data.toList = true := by
 rw [h.2 (by omega), runes_end s pos hp]
 rfl
theorem goodAt_bad {s : ByteArray} {pos : Nat} (h : GoodAt s pos) (hp : pos < s.size) (hb : Utf.mayP ((Utf8.decode s pos).1 : Int) = false ∨ (pos = 0 ∧ Utf.letterP ((Utf8.decode s pos).1 : Int) = false)) : Utf.goodD s.data.toList = false := by
 obtain ⟨hf, ha⟩ := goodAt_rune h hp
 by_cases hz : pos = 0
 · subst hz
   have e := runes_at s 0 hp
   rw [hf, List.drop_zero] at e
   unfold Utf.goodD
   rw [e, List.all_cons, List.head?_cons]
   rcases hb with hb | ⟨_, hb⟩
   · rw [show Utf.okRune (some (Utf8.decode s 0).1) = false from hb]
     simp
   · simp only [hb]
     simp
 · rcases hb with hb | ⟨hb, _⟩
   · rw [h.2 (by omega), runes_at s pos hp, hf, List.all_cons, show Utf.okRune (some (Utf8.decode s pos).1) = false from hb, Bool.false_and]
   · exact absurd hb hz
theorem iterPos_drewN (w : World) (n k : Nat) : (w.drewN n).iterPos k = w.iterPos k := rfl
theorem good_invalid {s : ByteArray} (h : Lib.validD s.data.toList = false) : Utf.goodD s.data.toList = false := by
 cases hg : Utf.goodD s.data.toList with
 | false => rfl
 | true =>
  have := Utf.all_ok_some _ (Utf.good_ok _ hg)
  rw [← Utf.validD_runes, h] at this
  cases this
theorem good_long {s : ByteArray} (h : 64 < (Utf.runes s.data.toList).length) : Utf.goodD s.data.toList = false := by
 unfold Utf.goodD
 rw [df_ (by omega), Bool.and_false]
theorem label_Good.calls (a0 : ByteArray) (r : Bool) (w : World) (hTab_ : Tabs_ w) (h : label_Good.f a0 = some r) :
 Calls Tryd.prog 44 #[.string a0] w fun e w' => e = .returned (.bool r) ∧ Below w.heap.size w w' := by
 unfold label_Good.f at h
 by_cases hs : a0.size < 9223372036854775807
 · rw [if_pos hs] at h
   obtain rfl := Option.some.inj h
   clear h
   have cV : Calls Tryd.prog 71 #[.string a0] w _ := Any.utf8_ValidString Tryd.lays196 a0 w (by omega) hTab_.utf
   have cR := fun W => label_Runes.calls a0 _ W (show label_Runes.f a0 = some ((Utf.runes a0.data.toList).length : Int) from if_pos hs)
   cases hv : Lib.validD a0.data.toList with
   | false =>
    rw [hv] at cV
    rw [good_invalid hv]
    clear cR
    go_enter Tryd.func44, Tryd.ntmps44
    go_wp2_with (go_at_call 71; refine cV.mono ?_; rintro e w' ⟨rfl, hb⟩)
    go_ret
    exact ⟨rfl, hb⟩
   | true =>
    rw [hv] at cV
    by_cases he : a0 = ⟨#[]⟩
    · subst he
      clear cR
      rw [show Utf.goodD (⟨#[]⟩ : ByteArray).data.toList = false from by decide]
      go_enter Tryd.func44, Tryd.ntmps44
      go_wp2_with (go_at_call 71; refine cV.mono ?_; rintro e w' ⟨rfl, hb⟩)
      go_ret
      exact ⟨rfl, hb⟩
    · have he1 : (a0.toList == ([] : List UInt8)) = false := by
       rw [Lib.toList_data]
       exact beq_eq_false_iff_ne.mpr (fun e => he (ByteArray.ext (Array.ext' e)))
      have hsz : 0 < a0.size := by
       rcases Nat.eq_zero_or_pos a0.size with h0 | h0
       · exact absurd (ByteArray.ext (Array.eq_empty_of_size_eq_zero h0)) he
       · exact h0
      by_cases hl : 64 < (Utf.runes a0.data.toList).length
      · rw [good_long hl]
        have hd : decide ((64 : Int) < ((Utf.runes a0.data.toList).length : Int)) = true := dt_ (by omega)
        generalize (Utf.runes a0.data.toList).length = n at cR hd
        go_enter Tryd.func44, Tryd.ntmps44
        go_wp2_with (first | (go_at_call 71; refine cV.mono ?_; rintro e w' ⟨rfl, hb⟩) | (go_at_call 72; refine (cR _).mono ?_; rintro e w2 ⟨rfl, hb2⟩))
        go_ret
        exact ⟨rfl, hb.trans (hb2.mono hb.size)⟩
      · have hd : decide ((64 : Int) < ((Utf.runes a0.data.toList).length : Int)) = false := df_ (by omega)
        have hl : (Utf.runes a0.data.toList).length ≤ 64 := by omega
        have HL := ak_ hl
        clear hl
        generalize hn : (Utf.runes a0.data.toList).length = n at cR hd
        have HN := ak_ hn
        clear hn
        go_enter Tryd.func44, Tryd.ntmps44
        go_wp2_with (first | (go_at_call 71; refine cV.mono ?_; rintro e w' ⟨rfl, hb⟩) | (go_at_call 72; refine (cR _).mono ?_; rintro e w2 ⟨rfl, hb2⟩))
        have HB := ak_ (hb.trans (hb2.mono hb.size))
        clear hb hb2
        go_loopw [] (fun wr => ∃ pos : Nat, wr.heap[w2.heap.size]? = some (.stringIter a0 pos) ∧ Below w2.heap.size w2 wr ∧ GoodAt a0 pos) (fun wr => a0.size - wr.iterPos w2.heap.size)
        case atStart =>
         refine ⟨0, ?_, (Below.refl _ w2).alloc (Nat.le_refl _) _, goodAt_zero hv⟩
         exact World.iter_heap w2 a0 0
        case round =>
         obtain ⟨pos, hit, hbw, hg⟩ := hrel
         have hsw : w2.heap.size < wr.heap.size := (Array.getElem?_eq_some_iff.1 hit).1
         by_cases hp : pos < a0.size
         · have hnx : ∀ ty, (Instr.next (.pointer (some ⟨w2.heap.size, 0, none⟩)) true ty).run Tryd.prog wr = _ := fun ty => Lib.run_next_any_at wr w2.heap.size a0 pos ty hit hp
           have hwd := Lib.decode_width_pos a0 pos hp
           have hd1 := decode_le a0 pos
           have hit2 := Lib.iterAt_heap wr w2.heap.size a0 pos (pos + (Utf8.decode a0 pos).2) hit
           have hbw2 := Lib.below_iterAt hbw (k := w2.heap.size) (Nat.le_refl _) a0 (pos + (Utf8.decode a0 pos).2)
           have HG := ak_ hg
           clear hg
           have HH := ak_ hit2
           have HB2 := ak_ hbw2
           clear hit2 hbw2
           cases hm : Utf.mayP ((Utf8.decode a0 pos).1 : Int) with
           | false =>
            have cM := fun W => label_may.calls ((Utf8.decode a0 pos).1 : Int) false W (by rw [label_may_f, hm])
            have HE := ak_ (goodAt_bad HG.out hp (.inl hm))
            go_wp2_with (go_at_call 73; refine (cM _).mono ?_; rintro e W1 ⟨rfl, nd, rfl⟩)
            go_ret
            exact ⟨by rw [HE.out]; rfl, HB.out.trans ((pw_below_drewN HB2.out nd).mono HB.out.size)⟩
           | true =>
            have cM := fun W => label_may.calls ((Utf8.decode a0 pos).1 : Int) true W (by rw [label_may_f, hm])
            by_cases hz : pos = 0
            · have hzi : ((pos : Int) == 0) = true := beq_iff_eq.mpr (by omega)
              cases hlt : Utf.letterP ((Utf8.decode a0 pos).1 : Int) with
              | false =>
               have cL := fun W => label_letter.calls ((Utf8.decode a0 pos).1 : Int) false W (by rw [label_letter_f, hlt])
               have HE := ak_ (goodAt_bad HG.out hp (.inr ⟨hz, hlt⟩))
               have HZ := ak_ hz
               clear hz
               go_wp2_with (first | (go_at_call 73; refine (cM _).mono ?_; rintro e W1 ⟨rfl, nd, rfl⟩) | (go_at_call 74; refine (cL _).mono ?_; rintro e W1 ⟨rfl, nd2, rfl⟩))
               go_ret
               exact ⟨by rw [HE.out]; rfl, HB.out.trans ((pw_below_drewN HB2.out _).mono HB.out.size)⟩
              | true =>
               have cL := fun W => label_letter.calls ((Utf8.decode a0 pos).1 : Int) true W (by rw [label_letter_f, hlt])
               have HN2 := ak_ (goodAt_next HG.out hp HL.out hm (fun _ => hlt))
               have HZ := ak_ hz
               clear hz
               go_wp2_with (first | (go_at_call 73; refine (cM _).mono ?_; rintro e W1 ⟨rfl, nd, rfl⟩) | (go_at_call 74; refine (cL _).mono ?_; rintro e W1 ⟨rfl, nd2, rfl⟩))
               go_roundw
               case rel => exact ⟨_, HH.out, pw_below_drewN HB2.out _, HN2.out⟩
               case measure =>
                have e := HH.out
                rw [iterPos_drewN]
                simp only [World.iterPos, e, hit]
                omega
            · have hzi : ((pos : Int) == 0) = false := beq_eq_false_iff_ne.mpr (by omega)
              have HN2 := ak_ (goodAt_next HG.out hp HL.out hm (fun h => absurd h hz))
              have HZ := ak_ hz
              clear hz
              go_wp2_with (go_at_call 73; refine (cM _).mono ?_; rintro e W1 ⟨rfl, nd, rfl⟩)
              go_roundw
              case rel => exact ⟨_, HH.out, pw_below_drewN HB2.out nd, HN2.out⟩
              case measure =>
               have e := HH.out
               rw [iterPos_drewN]
               simp only [World.iterPos, e, hit]
               omega
         · have hnx : ∀ ty, (Instr.next (.pointer (some ⟨w2.heap.size, 0, none⟩)) true ty).run Tryd.prog wr = _ := fun ty => Lib.run_next_end_at wr w2.heap.size a0 pos ty hit hp
           have HE := ak_ (goodAt_end hg hp hsz)
           go_wp2
           go_ret
           exact ⟨by rw [HE.out]; rfl, HB.out.trans (hbw.mono HB.out.size)⟩
 · rw [if_neg hs] at h
   cases h
def tick_Good.f (a0 : Int) : Option (Bool) := if a0 ≥ 0 then (some (decide (a0 ≤ 1099511627776))) else (some false)
theorem tick_Good.calls (a0 : Int) (r : Bool) (w : World) (h : tick_Good.f a0 = some r) :
 Calls Tryd.prog 42 #[.int .i64 a0] w fun e w' => e = .returned (.bool r) ∧ Drawn0 w w' := by
 have H : (if a0 ≥ 0 then (some (decide (a0 ≤ 1099511627776))) else (some false)) = some r := h
 clear h
 by_cases c2 : a0 ≥ 0
 · rw [if_pos c2] at H
   have c2b0 : decide (0 ≤ a0) = true := dt_ c2
   clear c2
   obtain rfl := Option.some.inj H
   go_enter Tryd.func42, Tryd.ntmps42
   go_wp2
   go_ret
   exact ⟨by first | rfl | simp [*], by repeat (first | exact Drawn0.refl _ | apply Drawn0.step)⟩
 · rw [if_neg c2] at H
   have c2b0 : decide (0 ≤ a0) = false := df_ c2
   clear c2
   obtain rfl := Option.some.inj H
   go_enter Tryd.func42, Tryd.ntmps42
   go_wp2
   go_ret
   exact ⟨by first | rfl | simp [*], by repeat (first | exact Drawn0.refl _ | apply Drawn0.step)⟩
def backoff_Good.f (a0_0 : Int) (a0_1 : Int) (a0_2 : Int) (a0_3 : Int) : Option (Bool) := if a0_0 ≥ 0 then (if a0_0 ≤ 1000 then (if a0_1 ≥ 1 then (if a0_2 ≥ 1 then (if a0_2 ≤ 16 then (if a0_3 ≥ a0_1 then (some (decide (a0_3 ≤ 1099511627776))) else (some false)) else (some false)) else (some false)) else (some false)) else (some false)) else (some false)
theorem backoff_Good.calls (a0_0 : Int) (a0_1 : Int) (a0_2 : Int) (a0_3 : Int) (r : Bool) (w : World) (h : backoff_Good.f a0_0 a0_1 a0_2 a0_3 = some r) :
 Calls Tryd.prog 79 #[.agg #[.int .i64 a0_0, .int .i64 a0_1, .int .i64 a0_2, .int .i64 a0_3]] w fun e w' => e = .returned (.bool r) ∧ Below w.heap.size w w' := by
 have hu59 := Tryd.underlying59
 have HB := ak_ (Below.refl w.heap.size w)
 have H : (if a0_0 ≥ 0 then (if a0_0 ≤ 1000 then (if a0_1 ≥ 1 then (if a0_2 ≥ 1 then (if a0_2 ≤ 16 then (if a0_3 ≥ a0_1 then (some (decide (a0_3 ≤ 1099511627776))) else (some false)) else (some false)) else (some false)) else (some false)) else (some false)) else (some false)) = some r := h
 clear h
 by_cases c2 : a0_0 ≥ 0
 · rw [if_pos c2] at H
   have c2b0 : decide (0 ≤ a0_0) = true := dt_ c2
   clear c2
   by_cases c3 : a0_0 ≤ 1000
   · rw [if_pos c3] at H
     have c3b0 : decide (a0_0 ≤ 1000) = true := dt_ c3
     clear c3
     by_cases c4 : a0_1 ≥ 1
     · rw [if_pos c4] at H
       have c4b0 : decide (1 ≤ a0_1) = true := dt_ c4
       clear c4
       by_cases c5 : a0_2 ≥ 1
       · rw [if_pos c5] at H
         have c5b0 : decide (1 ≤ a0_2) = true := dt_ c5
         clear c5
         by_cases c6 : a0_2 ≤ 16
         · rw [if_pos c6] at H
           have c6b0 : decide (a0_2 ≤ 16) = true := dt_ c6
           clear c6
           by_cases c7 : a0_3 ≥ a0_1
           · rw [if_pos c7] at H
             have c7b0 : decide (a0_1 ≤ a0_3) = true := dt_ c7
             clear c7
             obtain rfl := Option.some.inj H
             go_enter Tryd.func79, Tryd.ntmps79
             go_wp2_with (first | ((with_reducible refine gate_dst (N := 1) rfl ?_); refine box_event ?hg (N := 1) ?hd (cs := #[.int .i64 a0_0, .int .i64 a0_1, .int .i64 a0_2, .int .i64 a0_3]) (t := 59) ?hr ?_; (case hd | hg => rfl); (case hr => first | (go_simp; done) | (go_simp; rfl)); intro gb144 hg w8 hbox hb; have n0_ := ak_ (ps (by with_reducible repeat first | exact HB.out | apply pa | apply pd | apply pe) hb); have n1_ := ak_ (hbox); have n2_ := ak_ ((by rw [hg]; exact (below_size (by with_reducible repeat first | exact HB.out | apply pa | apply pd | apply pe)) : w.heap.size ≤ gb144)); have n3_ := ak_ ((by rw [hg]; exact (below_size (by with_reducible repeat first | exact HB.out | apply pa | apply pd | apply pe)) : w.heap.size ≤ gb144)); clear HB; have HB := n0_; have BK144 := n1_; have GW144 := n2_; have GE144 := n3_; clear n0_ n1_ n2_ n3_ hb hbox hg; have hcz9_0 : w8.cell? ⟨gb144, 0, none⟩ = some (.int .i64 a0_0) := (zc BK144.out 0).trans rfl; have hcz9_1 : w8.cell? ⟨gb144, 1, none⟩ = some (.int .i64 a0_1) := (zc BK144.out 1).trans rfl; have hcz9_2 : w8.cell? ⟨gb144, 2, none⟩ = some (.int .i64 a0_2) := (zc BK144.out 2).trans rfl; have hcz9_3 : w8.cell? ⟨gb144, 3, none⟩ = some (.int .i64 a0_3) := (zc BK144.out 3).trans rfl; have hfz9_0 := zf BK144.out 0; have hfz9_1 := zf BK144.out 1; have hfz9_2 := zf BK144.out 2; have hfz9_3 := zf BK144.out 3))
             go_ret
             exact ⟨by first | rfl | simp [*], by repeat (first | (with_reducible first | exact HB.out | apply pa | apply pd | apply pe | refine zs ?_ GE144.out) | exact HB.out)⟩
           rw [if_neg c7] at H
           have c7b0 : decide (a0_1 ≤ a0_3) = false := df_ c7
           clear c7
           obtain rfl := Option.some.inj H
           go_enter Tryd.func79, Tryd.ntmps79
           go_wp2_with (first | ((with_reducible refine gate_dst (N := 1) rfl ?_); refine box_event ?hg (N := 1) ?hd (cs := #[.int .i64 a0_0, .int .i64 a0_1, .int .i64 a0_2, .int .i64 a0_3]) (t := 59) ?hr ?_; (case hd | hg => rfl); (case hr => first | (go_simp; done) | (go_simp; rfl)); intro gb144 hg w10 hbox hb; have n0_ := ak_ (ps (by with_reducible repeat first | exact HB.out | apply pa | apply pd | apply pe) hb); have n1_ := ak_ (hbox); have n2_ := ak_ ((by rw [hg]; exact (below_size (by with_reducible repeat first | exact HB.out | apply pa | apply pd | apply pe)) : w.heap.size ≤ gb144)); have n3_ := ak_ ((by rw [hg]; exact (below_size (by with_reducible repeat first | exact HB.out | apply pa | apply pd | apply pe)) : w.heap.size ≤ gb144)); clear HB; have HB := n0_; have BK144 := n1_; have GW144 := n2_; have GE144 := n3_; clear n0_ n1_ n2_ n3_ hb hbox hg; have hcz11_0 : w10.cell? ⟨gb144, 0, none⟩ = some (.int .i64 a0_0) := (zc BK144.out 0).trans rfl; have hcz11_1 : w10.cell? ⟨gb144, 1, none⟩ = some (.int .i64 a0_1) := (zc BK144.out 1).trans rfl; have hcz11_2 : w10.cell? ⟨gb144, 2, none⟩ = some (.int .i64 a0_2) := (zc BK144.out 2).trans rfl; have hcz11_3 : w10.cell? ⟨gb144, 3, none⟩ = some (.int .i64 a0_3) := (zc BK144.out 3).trans rfl; have hfz11_0 := zf BK144.out 0; have hfz11_1 := zf BK144.out 1; have hfz11_2 := zf BK144.out 2; have hfz11_3 := zf BK144.out 3))
           go_ret
           exact ⟨by first | rfl | simp [*], by repeat (first | (with_reducible first | exact HB.out | apply pa | apply pd | apply pe | refine zs ?_ GE144.out) | exact HB.out)⟩
         rw [if_neg c6] at H
         have c6b0 : decide (a0_2 ≤ 16) = false := df_ c6
         clear c6
         obtain rfl := Option.some.inj H
         go_enter Tryd.func79, Tryd.ntmps79
         go_wp2_with (first | ((with_reducible refine gate_dst (N := 1) rfl ?_); refine box_event ?hg (N := 1) ?hd (cs := #[.int .i64 a0_0, .int .i64 a0_1, .int .i64 a0_2, .int .i64 a0_3]) (t := 59) ?hr ?_; (case hd | hg => rfl); (case hr => first | (go_simp; done) | (go_simp; rfl)); intro gb144 hg w12 hbox hb; have n0_ := ak_ (ps (by with_reducible repeat first | exact HB.out | apply pa | apply pd | apply pe) hb); have n1_ := ak_ (hbox); have n2_ := ak_ ((by rw [hg]; exact (below_size (by with_reducible repeat first | exact HB.out | apply pa | apply pd | apply pe)) : w.heap.size ≤ gb144)); have n3_ := ak_ ((by rw [hg]; exact (below_size (by with_reducible repeat first | exact HB.out | apply pa | apply pd | apply pe)) : w.heap.size ≤ gb144)); clear HB; have HB := n0_; have BK144 := n1_; have GW144 := n2_; have GE144 := n3_; clear n0_ n1_ n2_ n3_ hb hbox hg; have hcz13_0 : w12.cell? ⟨gb144, 0, none⟩ = some (.int .i64 a0_0) := (zc BK144.out 0).trans rfl; have hcz13_1 : w12.cell? ⟨gb144, 1, none⟩ = some (.int .i64 a0_1) := (zc BK144.out 1).trans rfl; have hcz13_2 : w12.cell? ⟨gb144, 2, none⟩ = some (.int .i64 a0_2) := (zc BK144.out 2).trans rfl; have hcz13_3 : w12.cell? ⟨gb144, 3, none⟩ = some (.int .i64 a0_3) := (zc BK144.out 3).trans rfl; have hfz13_0 := zf BK144.out 0; have hfz13_1 := zf BK144.out 1; have hfz13_2 := zf BK144.out 2; have hfz13_3 := zf BK144.out 3))
         go_ret
         exact ⟨by first | rfl | simp [*], by repeat (first | (with_reducible first | exact HB.out | apply pa | apply pd | apply pe | refine zs ?_ GE144.out) | exact HB.out)⟩
       rw [if_neg c5] at H
       have c5b0 : decide (1 ≤ a0_2) = false := df_ c5
       clear c5
       obtain rfl := Option.some.inj H
       go_enter Tryd.func79, Tryd.ntmps79
       go_wp2_with (first | ((with_reducible refine gate_dst (N := 1) rfl ?_); refine box_event ?hg (N := 1) ?hd (cs := #[.int .i64 a0_0, .int .i64 a0_1, .int .i64 a0_2, .int .i64 a0_3]) (t := 59) ?hr ?_; (case hd | hg => rfl); (case hr => first | (go_simp; done) | (go_simp; rfl)); intro gb144 hg w14 hbox hb; have n0_ := ak_ (ps (by with_reducible repeat first | exact HB.out | apply pa | apply pd | apply pe) hb); have n1_ := ak_ (hbox); have n2_ := ak_ ((by rw [hg]; exact (below_size (by with_reducible repeat first | exact HB.out | apply pa | apply pd | apply pe)) : w.heap.size ≤ gb144)); have n3_ := ak_ ((by rw [hg]; exact (below_size (by with_reducible repeat first | exact HB.out | apply pa | apply pd | apply pe)) : w.heap.size ≤ gb144)); clear HB; have HB := n0_; have BK144 := n1_; have GW144 := n2_; have GE144 := n3_; clear n0_ n1_ n2_ n3_ hb hbox hg; have hcz15_0 : w14.cell? ⟨gb144, 0, none⟩ = some (.int .i64 a0_0) := (zc BK144.out 0).trans rfl; have hcz15_1 : w14.cell? ⟨gb144, 1, none⟩ = some (.int .i64 a0_1) := (zc BK144.out 1).trans rfl; have hcz15_2 : w14.cell? ⟨gb144, 2, none⟩ = some (.int .i64 a0_2) := (zc BK144.out 2).trans rfl; have hcz15_3 : w14.cell? ⟨gb144, 3, none⟩ = some (.int .i64 a0_3) := (zc BK144.out 3).trans rfl; have hfz15_0 := zf BK144.out 0; have hfz15_1 := zf BK144.out 1; have hfz15_2 := zf BK144.out 2; have hfz15_3 := zf BK144.out 3))
       go_ret
       exact ⟨by first | rfl | simp [*], by repeat (first | (with_reducible first | exact HB.out | apply pa | apply pd | apply pe | refine zs ?_ GE144.out) | exact HB.out)⟩
     rw [if_neg c4] at H
     have c4b0 : decide (1 ≤ a0_1) = false := df_ c4
     clear c4
     obtain rfl := Option.some.inj H
     go_enter Tryd.func79, Tryd.ntmps79
     go_wp2_with (first | ((with_reducible refine gate_dst (N := 1) rfl ?_); refine box_event ?hg (N := 1) ?hd (cs := #[.int .i64 a0_0, .int .i64 a0_1, .int .i64 a0_2, .int .i64 a0_3]) (t := 59) ?hr ?_; (case hd | hg => rfl); (case hr => first | (go_simp; done) | (go_simp; rfl)); intro gb144 hg w16 hbox hb; have n0_ := ak_ (ps (by with_reducible repeat first | exact HB.out | apply pa | apply pd | apply pe) hb); have n1_ := ak_ (hbox); have n2_ := ak_ ((by rw [hg]; exact (below_size (by with_reducible repeat first | exact HB.out | apply pa | apply pd | apply pe)) : w.heap.size ≤ gb144)); have n3_ := ak_ ((by rw [hg]; exact (below_size (by with_reducible repeat first | exact HB.out | apply pa | apply pd | apply pe)) : w.heap.size ≤ gb144)); clear HB; have HB := n0_; have BK144 := n1_; have GW144 := n2_; have GE144 := n3_; clear n0_ n1_ n2_ n3_ hb hbox hg; have hcz17_0 : w16.cell? ⟨gb144, 0, none⟩ = some (.int .i64 a0_0) := (zc BK144.out 0).trans rfl; have hcz17_1 : w16.cell? ⟨gb144, 1, none⟩ = some (.int .i64 a0_1) := (zc BK144.out 1).trans rfl; have hcz17_2 : w16.cell? ⟨gb144, 2, none⟩ = some (.int .i64 a0_2) := (zc BK144.out 2).trans rfl; have hcz17_3 : w16.cell? ⟨gb144, 3, none⟩ = some (.int .i64 a0_3) := (zc BK144.out 3).trans rfl; have hfz17_0 := zf BK144.out 0; have hfz17_1 := zf BK144.out 1; have hfz17_2 := zf BK144.out 2; have hfz17_3 := zf BK144.out 3))
     go_ret
     exact ⟨by first | rfl | simp [*], by repeat (first | (with_reducible first | exact HB.out | apply pa | apply pd | apply pe | refine zs ?_ GE144.out) | exact HB.out)⟩
   rw [if_neg c3] at H
   have c3b0 : decide (a0_0 ≤ 1000) = false := df_ c3
   clear c3
   obtain rfl := Option.some.inj H
   go_enter Tryd.func79, Tryd.ntmps79
   go_wp2_with (first | ((with_reducible refine gate_dst (N := 1) rfl ?_); refine box_event ?hg (N := 1) ?hd (cs := #[.int .i64 a0_0, .int .i64 a0_1, .int .i64 a0_2, .int .i64 a0_3]) (t := 59) ?hr ?_; (case hd | hg => rfl); (case hr => first | (go_simp; done) | (go_simp; rfl)); intro gb144 hg w18 hbox hb; have n0_ := ak_ (ps (by with_reducible repeat first | exact HB.out | apply pa | apply pd | apply pe) hb); have n1_ := ak_ (hbox); have n2_ := ak_ ((by rw [hg]; exact (below_size (by with_reducible repeat first | exact HB.out | apply pa | apply pd | apply pe)) : w.heap.size ≤ gb144)); have n3_ := ak_ ((by rw [hg]; exact (below_size (by with_reducible repeat first | exact HB.out | apply pa | apply pd | apply pe)) : w.heap.size ≤ gb144)); clear HB; have HB := n0_; have BK144 := n1_; have GW144 := n2_; have GE144 := n3_; clear n0_ n1_ n2_ n3_ hb hbox hg; have hcz19_0 : w18.cell? ⟨gb144, 0, none⟩ = some (.int .i64 a0_0) := (zc BK144.out 0).trans rfl; have hcz19_1 : w18.cell? ⟨gb144, 1, none⟩ = some (.int .i64 a0_1) := (zc BK144.out 1).trans rfl; have hcz19_2 : w18.cell? ⟨gb144, 2, none⟩ = some (.int .i64 a0_2) := (zc BK144.out 2).trans rfl; have hcz19_3 : w18.cell? ⟨gb144, 3, none⟩ = some (.int .i64 a0_3) := (zc BK144.out 3).trans rfl; have hfz19_0 := zf BK144.out 0; have hfz19_1 := zf BK144.out 1; have hfz19_2 := zf BK144.out 2; have hfz19_3 := zf BK144.out 3))
   go_ret
   exact ⟨by first | rfl | simp [*], by repeat (first | (with_reducible first | exact HB.out | apply pa | apply pd | apply pe | refine zs ?_ GE144.out) | exact HB.out)⟩
 rw [if_neg c2] at H
 have c2b0 : decide (0 ≤ a0_0) = false := df_ c2
 clear c2
 obtain rfl := Option.some.inj H
 go_enter Tryd.func79, Tryd.ntmps79
 go_wp2_with (first | ((with_reducible refine gate_dst (N := 1) rfl ?_); refine box_event ?hg (N := 1) ?hd (cs := #[.int .i64 a0_0, .int .i64 a0_1, .int .i64 a0_2, .int .i64 a0_3]) (t := 59) ?hr ?_; (case hd | hg => rfl); (case hr => first | (go_simp; done) | (go_simp; rfl)); intro gb144 hg w20 hbox hb; have n0_ := ak_ (ps (by with_reducible repeat first | exact HB.out | apply pa | apply pd | apply pe) hb); have n1_ := ak_ (hbox); have n2_ := ak_ ((by rw [hg]; exact (below_size (by with_reducible repeat first | exact HB.out | apply pa | apply pd | apply pe)) : w.heap.size ≤ gb144)); have n3_ := ak_ ((by rw [hg]; exact (below_size (by with_reducible repeat first | exact HB.out | apply pa | apply pd | apply pe)) : w.heap.size ≤ gb144)); clear HB; have HB := n0_; have BK144 := n1_; have GW144 := n2_; have GE144 := n3_; clear n0_ n1_ n2_ n3_ hb hbox hg; have hcz21_0 : w20.cell? ⟨gb144, 0, none⟩ = some (.int .i64 a0_0) := (zc BK144.out 0).trans rfl; have hcz21_1 : w20.cell? ⟨gb144, 1, none⟩ = some (.int .i64 a0_1) := (zc BK144.out 1).trans rfl; have hcz21_2 : w20.cell? ⟨gb144, 2, none⟩ = some (.int .i64 a0_2) := (zc BK144.out 2).trans rfl; have hcz21_3 : w20.cell? ⟨gb144, 3, none⟩ = some (.int .i64 a0_3) := (zc BK144.out 3).trans rfl; have hfz21_0 := zf BK144.out 0; have hfz21_1 := zf BK144.out 1; have hfz21_2 := zf BK144.out 2; have hfz21_3 := zf BK144.out 3))
 go_ret
 exact ⟨by first | rfl | simp [*], by repeat (first | (with_reducible first | exact HB.out | apply pa | apply pd | apply pe | refine zs ?_ GE144.out) | exact HB.out)⟩
end Go.Proofs.YtcgpbakimkhdpaaDoor.Q
