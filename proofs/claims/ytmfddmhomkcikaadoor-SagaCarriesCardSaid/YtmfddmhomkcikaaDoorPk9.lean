/- Part 9 of a claim's texts. -/
import Derived.Test.YtmfddmhomkcikaaDoorPk6
import Derived.Test.YtmfddmhomkcikaaDoorPk5
import Derived.Test.YtmfddmhomkcikaaDoorPk8
import Derived.Shelf.Abstract
import Derived.Shelf.RegionOpen
import Derived.OwnWalkIn
import Derived.TacticsInMore
import Derived.Sort.CutIn
import Derived.LoopNIn
import Derived.LoopIn
import Derived.Lib.SliceRun
import Derived.Lib.Hide
import Derived.Outline
import Derived.Test.YtmfddmhomkcikaaDoorPk1
import Derived.Laws.Rows
import Derived.Laws.Tables
import Derived.Laws.CopyOwn
import Derived.Deep.MidRow
import Derived.OpenShut
import Derived.Test.YtmfddmhomkcikaaDoorPk3
namespace Go.Proofs.YtmfddmhomkcikaaDoor.Q
open Go.RowKit Go.Proofs.YtmfddmhomkcikaaDoorW.PrintWords Go.Proofs.YtmfddmhomkcikaaDoorW.PrintLast Go.Proofs.YtmfddmhomkcikaaDoorW.PrintMore
attribute [local go_sem] max2_int min2_int max_two min_two max_three min_three max_four min_four
set_option linter.unusedVariables false
set_option linter.unusedSimpArgs false
set_option maxHeartbeats 8000000
set_option maxRecDepth 100000
open Go.Proofs.YtmfddmhomkcikaaDoor.Q.H_
open Go.RowKit Go.Shelf Go.Proofs.YtmfddmhomkcikaaDoorW.PrintWords Go.Proofs.YtmfddmhomkcikaaDoorW.PrintLast Go.Proofs.YtmfddmhomkcikaaDoorW.PrintMore
def uL14_awake.f (k : Nat)  : Option (Bool) := (uL14_one.f).bind fun bt274 => ((saga_Begin.f bt274.1 bt274.2.1 bt274.2.2 1 0).bind fun bt280 => ((saga_Emit.f k bt274.1 bt274.2.1 bt274.2.2 bt280.1 bt280.2.1 bt280.2.2.1 bt280.2.2.2.1 bt280.2.2.2.2.1 bt280.2.2.2.2.2.1 bt280.2.2.2.2.2.2.1 bt280.2.2.2.2.2.2.2.1 bt280.2.2.2.2.2.2.2.2 0).bind fun bt290 => ((saga_Late.f k bt274.1 bt274.2.1 bt274.2.2 bt290.1 bt290.2.1 bt290.2.2.1 bt290.2.2.2.1 bt290.2.2.2.2.1 bt290.2.2.2.2.2.1 bt290.2.2.2.2.2.2.1 bt290.2.2.2.2.2.2.2.1 bt290.2.2.2.2.2.2.2.2.1 1).bind fun bt306 => ((saga_Emit.f k bt274.1 bt274.2.1 bt274.2.2 bt306.1 bt306.2.1 bt306.2.2.1 bt306.2.2.2.1 bt306.2.2.2.2.1 bt306.2.2.2.2.2.1 bt306.2.2.2.2.2.2.1 bt306.2.2.2.2.2.2.2.1 bt306.2.2.2.2.2.2.2.2.1 2).bind fun bt316 => ((saga_Late.f k bt274.1 bt274.2.1 bt274.2.2 bt316.1 bt316.2.1 bt316.2.2.1 bt316.2.2.2.1 bt316.2.2.2.2.1 bt316.2.2.2.2.2.1 bt316.2.2.2.2.2.2.1 bt316.2.2.2.2.2.2.2.1 bt316.2.2.2.2.2.2.2.2.1 3).bind fun bt332 => (if bt332.2.2.2.2.2.2.2.2.2 = 0 then (if bt332.2.2.2.1 = 4 then (some (bt332.2.2.2.2.2.1 == 2)) else (some false)) else (some false)))))))
theorem uL14_awake.calls (k : Nat) (r : Bool) (w : World) (hTab_ : Tabs_ w) (h : uL14_awake.f k = some r) :
 Calls Tryd.prog 8 #[] w fun e w' => e = .returned (.bool r) ∧ Below w.heap.size w w' := by
 unfold uL14_awake.f at h
 obtain ⟨⟨n, dl, l⟩, hA1, h⟩ := ob_ h
 obtain ⟨⟨b1, b2, b3, b4, b5, b6, b7, b8, b9⟩, hA2, h⟩ := ob_ h
 obtain ⟨⟨c1, c2, c3, c4, c5, c6, c7, c8, c9, c10, c11, c12, c13, c14, c15, c16⟩, hA3, h⟩ := ob_ h
 obtain ⟨⟨d1, d2, d3, d4, d5, d6, d7, d8, d9, d10⟩, hA4, h⟩ := ob_ h
 obtain ⟨⟨e1, e2, e3, e4, e5, e6, e7, e8, e9, e10, e11, e12, e13, e14, e15, e16⟩, hA5, h⟩ := ob_ h
 obtain ⟨⟨f1, f2, f3, f4, f5, f6, f7, f8, f9, f10⟩, hA6, h⟩ := ob_ h
 dsimp only at hA1 hA2 hA3 hA4 hA5 hA6 h
 have A1 := ak_ hA1
 have A2 := ak_ hA2
 have A3 := ak_ hA3
 have A4 := ak_ hA4
 have A5 := ak_ hA5
 have A6 := ak_ hA6
 have HT := ak_ hTab_
 have HB := ak_ (Below.refl w.heap.size w)
 clear hA1 hA2 hA3 hA4 hA5 hA6 hTab_
 have HF := ak_ h
 clear h
 go_enter Tryd.func8, Tryd.ntmps8
 go_upto_region 3 with (first | (go_at_call 29; refine (uL14_one.calls n dl l w A1.out).mono ?_; rintro e w1 ⟨v, rfl, hR, hb⟩; obtain ⟨A, c, rfl, hc, hC⟩ := Kd.R_reads hR; have HR := ak_ hC; have HC := ak_ hc; have HW := ak_ (Below.refl w1.heap.size w1); have nHB_ := ak_ (below_step HB.out hb); clear HB; have HB := nHB_; clear nHB_; have HB1 := HB; clear hb hR hc hC) | ((with_reducible refine gate_dst (N := 1) rfl ?_); refine box_event ?hg (N := 1) ?hd (cs := #[.string (⟨#[]⟩ : ByteArray), .int .i64 0, .slice none 0 0]) (t := 24) ?hr ?_; (case hd | hg => rfl); (case hr => first | (go_simp; done) | (go_simp; rfl)); intro g1 hg w2 hbox hb; have G1 := ak_ (show w1.heap.size ≤ g1 from by rw [hg]; exact HW.out.size); have G1w := ak_ (show w.heap.size ≤ g1 from by rw [hg]; exact HB.out.size); have BD := ak_ hbox; have nHB_ := ak_ (below_step HB.out hb); have nHW_ := ak_ (below_step HW.out hb); clear HB HW; have HB := nHB_; have HW := nHW_; clear nHB_ nHW_ hb hbox hg) | (refine wpList_store_whole rfl 24 (.tmp 1) (.tmp 4) rfl g1 #[.string n, .int .i64 dl, .slice A l.length c] rfl rfl 24 _ BD.out (by kernel_rfl) rfl (by simp [Value.oneCell']) w1.heap.size w1 HW.out G1.out ?_; intro w8 hB hZ hO; have nHB_ := ak_ (below_step HB1.out hB); have nHW_ := ak_ hB; have nBD_ := ak_ hZ; clear hB hZ hO HB HW BD; have HB := nHB_; have HW := nHW_; have BD := nBD_; clear nHB_ nHW_ nBD_) | (refine wpList_load_row rfl 24 (.tmp 1) rfl g1 rfl 24 _ (0, 0) _ BD.out Tryd.underlying24 rfl (by kernel_rfl) ?_) | (go_at_call 11; refine (saga_Begin.calls n dl A c l 1 0 b1 b2 b3 b4 b5 b6 b7 b8 b9 _ (Kd.C_below HR.out HW.out) HC.out A2.out).mono ?_; rintro e w4 ⟨rfl, hb⟩; have nHB_ := ak_ (below_step HB.out hb); have nHW_ := ak_ (below_step HW.out hb); have nBD_ := ak_ (blk_below BD.out hb); clear HB HW BD; have HB := nHB_; have HW := nHW_; have BD := nBD_; clear nHB_ nHW_ nBD_ hb) | ((with_reducible refine gate_dst (N := 2) rfl ?_); refine box_event ?hg (N := 2) ?hd (cs := #[.int .i64 0, .string (⟨#[]⟩ : ByteArray), .int .i64 0, .int .i64 0, .int .i64 0, .int .i64 0, .bool false, .int .i64 0, .int .i64 0]) (t := 31) ?hr ?_; (case hd | hg => rfl); (case hr => first | (go_simp; done) | (go_simp; rfl)); intro g2 hg w3 hbox hb; have G2 := ak_ (show w1.heap.size ≤ g2 from by rw [hg]; exact HW.out.size); have G2w := ak_ (show w.heap.size ≤ g2 from by rw [hg]; exact HB.out.size); have N12 := ak_ (show g1 ≠ g2 from by rw [hg]; exact Nat.ne_of_lt (blk_lt BD.out)); have BS := ak_ hbox; have nHB_ := ak_ (below_step HB.out hb); have nHW_ := ak_ (below_step HW.out hb); have nBD_ := ak_ (blk_below BD.out hb); clear HB HW BD; have HB := nHB_; have HW := nHW_; have BD := nBD_; clear nHB_ nHW_ nBD_ hb hbox hg) | (refine wpList_store_whole rfl 31 (.tmp 2) (.tmp 6) rfl g2 #[.int .i64 b1, .string b2, .int .i64 b3, .int .i64 b4, .int .i64 b5, .int .i64 b6, .bool b7, .int .i64 b8, .int .i64 b9] rfl rfl 31 _ BS.out (by kernel_rfl) rfl (by simp [Value.oneCell']) w1.heap.size w1 HW.out G2.out ?_; intro w8 hB hZ hO; have nHB_ := ak_ (below_step HB1.out hB); have nHW_ := ak_ hB; have nBS_ := ak_ hZ; have nBD_ := ak_ ((hO g1 N12.out).trans BD.out); clear hB hZ hO HB HW BS BD; have HB := nHB_; have HW := nHW_; have BS := nBS_; have BD := nBD_; clear nHB_ nHW_ nBS_ nBD_))
 go_upto_region 4 with (first | (refine wpList_load_row rfl 24 (.tmp 1) rfl g1 rfl 24 _ (0, 0) _ BD.out Tryd.underlying24 rfl (by kernel_rfl) ?_) | (refine wpList_load_row rfl 31 (.tmp 2) rfl g2 rfl 31 _ (0, 0) _ BS.out Tryd.underlying31 rfl (by kernel_rfl) ?_) | (go_at_call 12; refine (saga_Emit.calls k n dl A c l b1 b2 b3 b4 b5 b6 b7 b8 b9 0 c1 c2 c3 c4 c5 c6 c7 c8 c9 c10 c11 c12 c13 c14 c15 c16 _ (Kd.C_below HR.out HW.out) HC.out (Tabs_.below HT.out HB.out) A3.out).mono ?_; rintro e w5 ⟨rfl, hb⟩; have nHB_ := ak_ (below_step HB.out hb); have nHW_ := ak_ (below_step HW.out hb); have nBD_ := ak_ (blk_below BD.out hb); have nBS_ := ak_ (blk_below BS.out hb); clear HB HW BD BS; have HB := nHB_; have HW := nHW_; have BD := nBD_; have BS := nBS_; clear nHB_ nHW_ nBD_ nBS_ hb) | (refine wpList_store_whole rfl 31 (.tmp 2) (.tmp 11) rfl g2 #[.int .i64 c1, .string c2, .int .i64 c3, .int .i64 c4, .int .i64 c5, .int .i64 c6, .bool c7, .int .i64 c8, .int .i64 c9] rfl rfl 31 _ BS.out (by kernel_rfl) rfl (by simp [Value.oneCell']) w1.heap.size w1 HW.out G2.out ?_; intro w8 hB hZ hO; have nHB_ := ak_ (below_step HB1.out hB); have nHW_ := ak_ hB; have nBS_ := ak_ hZ; have nBD_ := ak_ ((hO g1 N12.out).trans BD.out); clear hB hZ hO HB HW BS BD; have HB := nHB_; have HW := nHW_; have BS := nBS_; have BD := nBD_; clear nHB_ nHW_ nBS_ nBD_))
 go_upto_region 5 with (first | (refine wpList_load_row rfl 24 (.tmp 1) rfl g1 rfl 24 _ (0, 0) _ BD.out Tryd.underlying24 rfl (by kernel_rfl) ?_) | (refine wpList_load_row rfl 31 (.tmp 2) rfl g2 rfl 31 _ (0, 0) _ BS.out Tryd.underlying31 rfl (by kernel_rfl) ?_) | (go_at_call 30; refine (saga_Late.calls k n dl A c l c1 c2 c3 c4 c5 c6 c7 c8 c9 1 d1 d2 d3 d4 d5 d6 d7 d8 d9 d10 _ (Kd.C_below HR.out HW.out) HC.out (Tabs_.below HT.out HB.out) A4.out).mono ?_; rintro e w6 ⟨rfl, hb⟩; have nHB_ := ak_ (below_step HB.out hb); have nHW_ := ak_ (below_step HW.out hb); have nBD_ := ak_ (blk_below BD.out hb); have nBS_ := ak_ (blk_below BS.out hb); clear HB HW BD BS; have HB := nHB_; have HW := nHW_; have BD := nBD_; have BS := nBS_; clear nHB_ nHW_ nBD_ nBS_ hb) | (refine wpList_store_whole rfl 31 (.tmp 2) (.tmp 18) rfl g2 #[.int .i64 d1, .string d2, .int .i64 d3, .int .i64 d4, .int .i64 d5, .int .i64 d6, .bool d7, .int .i64 d8, .int .i64 d9] rfl rfl 31 _ BS.out (by kernel_rfl) rfl (by simp [Value.oneCell']) w1.heap.size w1 HW.out G2.out ?_; intro w8 hB hZ hO; have nHB_ := ak_ (below_step HB1.out hB); have nHW_ := ak_ hB; have nBS_ := ak_ hZ; have nBD_ := ak_ ((hO g1 N12.out).trans BD.out); clear hB hZ hO HB HW BS BD; have HB := nHB_; have HW := nHW_; have BS := nBS_; have BD := nBD_; clear nHB_ nHW_ nBS_ nBD_))
 go_upto_region 6 with (first | (refine wpList_load_row rfl 24 (.tmp 1) rfl g1 rfl 24 _ (0, 0) _ BD.out Tryd.underlying24 rfl (by kernel_rfl) ?_) | (refine wpList_load_row rfl 31 (.tmp 2) rfl g2 rfl 31 _ (0, 0) _ BS.out Tryd.underlying31 rfl (by kernel_rfl) ?_) | (go_at_call 12; refine (saga_Emit.calls k n dl A c l d1 d2 d3 d4 d5 d6 d7 d8 d9 2 e1 e2 e3 e4 e5 e6 e7 e8 e9 e10 e11 e12 e13 e14 e15 e16 _ (Kd.C_below HR.out HW.out) HC.out (Tabs_.below HT.out HB.out) A5.out).mono ?_; rintro e w5 ⟨rfl, hb⟩; have nHB_ := ak_ (below_step HB.out hb); have nHW_ := ak_ (below_step HW.out hb); have nBD_ := ak_ (blk_below BD.out hb); have nBS_ := ak_ (blk_below BS.out hb); clear HB HW BD BS; have HB := nHB_; have HW := nHW_; have BD := nBD_; have BS := nBS_; clear nHB_ nHW_ nBD_ nBS_ hb) | (refine wpList_store_whole rfl 31 (.tmp 2) (.tmp 24) rfl g2 #[.int .i64 e1, .string e2, .int .i64 e3, .int .i64 e4, .int .i64 e5, .int .i64 e6, .bool e7, .int .i64 e8, .int .i64 e9] rfl rfl 31 _ BS.out (by kernel_rfl) rfl (by simp [Value.oneCell']) w1.heap.size w1 HW.out G2.out ?_; intro w8 hB hZ hO; have nHB_ := ak_ (below_step HB1.out hB); have nHW_ := ak_ hB; have nBS_ := ak_ hZ; have nBD_ := ak_ ((hO g1 N12.out).trans BD.out); clear hB hZ hO HB HW BS BD; have HB := nHB_; have HW := nHW_; have BS := nBS_; have BD := nBD_; clear nHB_ nHW_ nBS_ nBD_))
 go_upto_region 7 with (first | (refine wpList_load_row rfl 24 (.tmp 1) rfl g1 rfl 24 _ (0, 0) _ BD.out Tryd.underlying24 rfl (by kernel_rfl) ?_) | (refine wpList_load_row rfl 31 (.tmp 2) rfl g2 rfl 31 _ (0, 0) _ BS.out Tryd.underlying31 rfl (by kernel_rfl) ?_) | (go_at_call 30; refine (saga_Late.calls k n dl A c l e1 e2 e3 e4 e5 e6 e7 e8 e9 3 f1 f2 f3 f4 f5 f6 f7 f8 f9 f10 _ (Kd.C_below HR.out HW.out) HC.out (Tabs_.below HT.out HB.out) A6.out).mono ?_; rintro e w6 ⟨rfl, hb⟩; have nHB_ := ak_ (below_step HB.out hb); have nHW_ := ak_ (below_step HW.out hb); have nBD_ := ak_ (blk_below BD.out hb); have nBS_ := ak_ (blk_below BS.out hb); clear HB HW BD BS; have HB := nHB_; have HW := nHW_; have BD := nBD_; have BS := nBS_; clear nHB_ nHW_ nBD_ nBS_ hb) | (refine wpList_store_whole rfl 31 (.tmp 2) (.tmp 31) rfl g2 #[.int .i64 f1, .string f2, .int .i64 f3, .int .i64 f4, .int .i64 f5, .int .i64 f6, .bool f7, .int .i64 f8, .int .i64 f9] rfl rfl 31 _ BS.out (by kernel_rfl) rfl (by simp [Value.oneCell']) w1.heap.size w1 HW.out G2.out ?_; intro w8 hB hZ hO; have nHB_ := ak_ (below_step HB1.out hB); have nHW_ := ak_ hB; have nBS_ := ak_ hZ; have nBD_ := ak_ ((hO g1 N12.out).trans BD.out); clear hB hZ hO HB HW BS BD; have HB := nHB_; have HW := nHW_; have BS := nBS_; have BD := nBD_; clear nHB_ nHW_ nBS_ nBD_))
 have s4 := (zc BS.out 3).trans rfl
 have s6 := (zc BS.out 5).trans rfl
 by_cases h1 : f10 = 0
 · have H := HF.out
   rw [if_pos h1] at H
   subst h1
   by_cases h2 : f4 = 4
   · rw [if_pos h2] at H
     subst h2
     obtain rfl := Option.some.inj H
     clear H HF
     go_wp2
     go_ret
     exact ⟨rfl, HB.out⟩
   · rw [if_neg h2] at H
     obtain rfl := Option.some.inj H
     have h3 : (f4 == 4) = false := beq_eq_false_iff_ne.mpr h2
     clear H HF h2
     go_wp2
     go_ret
     exact ⟨rfl, HB.out⟩
 · have H := HF.out
   rw [if_neg h1] at H
   obtain rfl := Option.some.inj H
   have h3 : (f10 == 0) = false := beq_eq_false_iff_ne.mpr h1
   clear H HF h1
   go_wp2
   go_ret
   exact ⟨rfl, HB.out⟩
section
variable {n : ByteArray} {l : List S70} {m : Nat} {now st : Int}
theorem on_round (hc : (chkD n 0 l).2 = 0) (hm : m ≤ 140737488351232) (hn : NmS m l) (hz : n.size ≤ m) (hs : 0 ≤ st ∧ st ≤ 1099511627776) (k : Nat) (hk : 50 ≤ k) (i t at_ : Int) (h0 : 0 ≤ i) (h1 : i < (l.length : Int)) (ht : 0 ≤ t ∧ t ≤ 1099511627776) (ha : 0 ≤ at_ ∧ at_ ≤ t) :
    ∃ pa key at2, saga_Emit.f k n 0 l 3 n st 0 i 0 false at_ 0 t = some (3, n, st, 0, i, 1, true, at2, 0, 3, i, ((0 : Int) == 1), 1, pa, key, 0) ∧
      saga_Reply.f k n 0 l 3 n st 0 i 1 true at2 0 3 i false 1 true t = some ((doneS (l.length : Int) 3 n st 0 i 1 at2 0 t).1, (doneS (l.length : Int) 3 n st 0 i 1 at2 0 t).2.1, (doneS (l.length : Int) 3 n st 0 i 1 at2 0 t).2.2.1, (doneS (l.length : Int) 3 n st 0 i 1 at2 0 t).2.2.2.1, (doneS (l.length : Int) 3 n st 0 i 1 at2 0 t).2.2.2.2.1, (doneS (l.length : Int) 3 n st 0 i 1 at2 0 t).2.2.2.2.2.1, (doneS (l.length : Int) 3 n st 0 i 1 at2 0 t).2.2.2.2.2.2.1, (doneS (l.length : Int) 3 n st 0 i 1 at2 0 t).2.2.2.2.2.2.2.1, (doneS (l.length : Int) 3 n st 0 i 1 at2 0 t).2.2.2.2.2.2.2.2, 0) := by
  obtain ⟨_, _, hl0, hl1, _⟩ := chkD_at hc
  have z : (0 : Int) ≤ 0 ∧ (0 : Int) ≤ 32 := ⟨by decide, by decide⟩
  have i3 : (0 : Int) ≤ 3 ∧ (3 : Int) ≤ 9223372036854775807 := ⟨by decide, by decide⟩
  have t0 : (-9223372036854775808 : Int) ≤ 0 ∧ (0 : Int) ≤ 9223372036854775807 := ⟨by decide, by decide⟩
  have t1 : (-9223372036854775808 : Int) ≤ 1 ∧ (1 : Int) ≤ 9223372036854775807 := ⟨by decide, by decide⟩
  have a1 : 0 ≤ at_ ∧ at_ ≤ 1099511627776 := ⟨ha.1, Int.le_trans ha.2 ht.2⟩
  obtain ⟨pa, key, hE⟩ := emit_ok hm hn hz k hk 3 n st 0 i 0 false at_ 0 t t0 (good0 hc i3.1 (.inl rfl) h0 h1 hs a1 z) (over01 (.inl rfl)) ht (may0 hc (.inl rfl) h0 h1 ha.1 ha.2 ht.2) i3 h0 h1
  rw [show wrap64 ((0 : Int) + 1) = 1 from by unfold wrap64; omega] at hE
  have hA := ofT_range (ofT t + ofT (rd_T70 l i).f2)
  generalize ofT (ofT t + ofT (rd_T70 l i).f2) = at2 at *
  exact ⟨pa, key, at2, hE, reply_done hm hn hz k hk 3 n st 0 i 1 true at2 0 t t1 (good1 hc i3.1 (.inl rfl) h0 h1 hs hA z) (over01 (.inl rfl)) ht i false 1 (by unfold accS; rw [if_neg (by decide), if_neg (by decide), if_pos rfl, if_neg (by decide), if_neg (by decide), if_pos rfl]) ⟨hl0, hl1⟩ h0 h1⟩
theorem on_round2 (hc : (chkD n 0 l).2 = 0) (hm : m ≤ 140737488351232) (hn : NmS m l) (hz : n.size ≤ m) (hs : 0 ≤ st ∧ st ≤ 1099511627776) (k : Nat) (hk : 50 ≤ k) (i t at_ : Int) (h0 : 0 ≤ i) (h1 : i < (l.length : Int)) (ht : 0 ≤ t ∧ t ≤ 1099511627776) (ha : 0 ≤ at_ ∧ at_ ≤ t) :
    ∃ pa key at2 ph sp tr at3, saga_Emit.f k n 0 l 3 n st 0 i 0 false at_ 0 t = some (3, n, st, 0, i, 1, true, at2, 0, 3, i, false, 1, pa, key, 0) ∧
      saga_Reply.f k n 0 l 3 n st 0 i 1 true at2 0 3 i false 1 true t = some (3, n, st, ph, sp, tr, false, at3, 0, 0) ∧ ((i + 1 < (l.length : Int) ∧ ph = 0 ∧ sp = i + 1 ∧ tr = 0 ∧ 0 ≤ at3 ∧ at3 ≤ t) ∨ (i + 1 = (l.length : Int) ∧ ph = 3)) := by
  obtain ⟨pa, key, at2, hE, hR⟩ := on_round hc hm hn hz hs k hk i t at_ h0 h1 ht ha
  by_cases h : i = (l.length : Int) - 1
  · refine ⟨pa, key, at2, 3, i, 1, at2, hE, ?_, .inr ⟨by omega, rfl⟩⟩
    rw [hR]
    unfold doneS
    rw [if_pos rfl, if_pos h]
  · refine ⟨pa, key, at2, 0, i + 1, 0, t, hE, ?_, .inl ⟨by omega, rfl, rfl, rfl, ht.1, Int.le_refl _⟩⟩
    rw [hR]
    unfold doneS
    rw [if_pos rfl, if_neg h]
theorem cancel2 (hc : (chkD n 0 l).2 = 0) (hm : m ≤ 140737488351232) (hn : NmS m l) (hz : n.size ≤ m) (hs : 0 ≤ st ∧ st ≤ 1099511627776) (k : Nat) (hk : 50 ≤ k) (i t at_ : Int) (h0 : 0 ≤ i) (h1 : i < (l.length : Int)) (ht : 0 ≤ t ∧ t ≤ 1099511627776) (ha : 0 ≤ at_ ∧ at_ ≤ t) :
    ∃ ph sp at3, saga_Cancel.f k n 0 l 3 n st 0 i 0 false at_ 0 t = some (3, n, st, ph, sp, 0, false, at3, 0, 0) ∧ ((0 ≤ i - 1 ∧ ph = 1 ∧ sp = i - 1 ∧ 0 ≤ at3 ∧ at3 ≤ t) ∨ (i - 1 = -1 ∧ ph = 4)) := by
  obtain ⟨_, _, hl0, hl1, _⟩ := chkD_at hc
  have h := cancel_ok hm hn hz k hk 3 n st i 0 false at_ 0 t ⟨by decide, by decide⟩ (good0 hc (by decide) (.inl rfl) h0 h1 hs ⟨ha.1, Int.le_trans ha.2 ht.2⟩ ⟨by decide, by decide⟩) ht h0 (by omega)
  by_cases hi : i = 0
  · refine ⟨4, i, at_, ?_, .inr ⟨by omega, rfl⟩⟩
    rw [h]
    unfold backS
    rw [if_pos hi]
  · refine ⟨1, i - 1, t, ?_, .inl ⟨by omega, rfl, rfl, ht.1, Int.le_refl _⟩⟩
    rw [h]
    unfold backS
    rw [if_neg hi]
theorem back_round (hc : (chkD n 0 l).2 = 0) (hm : m ≤ 140737488351232) (hn : NmS m l) (hz : n.size ≤ m) (hs : 0 ≤ st ∧ st ≤ 1099511627776) (k : Nat) (hk : 50 ≤ k) (i t at_ : Int) (h0 : 0 ≤ i) (h1 : i < (l.length : Int)) (ht : 0 ≤ t ∧ t ≤ 1099511627776) (ha : 0 ≤ at_ ∧ at_ ≤ t) :
    ∃ pa key at2 ph sp tr at3, saga_Emit.f k n 0 l 3 n st 1 i 0 false at_ 0 t = some (3, n, st, 1, i, 1, true, at2, 0, 3, i, true, 1, pa, key, 0) ∧
      saga_Reply.f k n 0 l 3 n st 1 i 1 true at2 0 3 i true 1 true t = some (3, n, st, ph, sp, tr, false, at3, 0, 0) ∧ ((0 ≤ i - 1 ∧ ph = 1 ∧ sp = i - 1 ∧ tr = 0 ∧ 0 ≤ at3 ∧ at3 ≤ t) ∨ (i - 1 = -1 ∧ ph = 4)) := by
  obtain ⟨_, _, hl0, hl1, _⟩ := chkD_at hc
  have z : (0 : Int) ≤ 0 ∧ (0 : Int) ≤ 32 := ⟨by decide, by decide⟩
  have i3 : (0 : Int) ≤ 3 ∧ (3 : Int) ≤ 9223372036854775807 := ⟨by decide, by decide⟩
  have t0 : (-9223372036854775808 : Int) ≤ 0 ∧ (0 : Int) ≤ 9223372036854775807 := ⟨by decide, by decide⟩
  have t1 : (-9223372036854775808 : Int) ≤ 1 ∧ (1 : Int) ≤ 9223372036854775807 := ⟨by decide, by decide⟩
  have a1 : 0 ≤ at_ ∧ at_ ≤ 1099511627776 := ⟨ha.1, Int.le_trans ha.2 ht.2⟩
  obtain ⟨pa, key, hE⟩ := emit_ok hm hn hz k hk 3 n st 1 i 0 false at_ 0 t t0 (good0 hc i3.1 (.inr rfl) h0 h1 hs a1 z) (over01 (.inr rfl)) ht (may0 hc (.inr rfl) h0 h1 ha.1 ha.2 ht.2) i3 h0 h1
  rw [show wrap64 ((0 : Int) + 1) = 1 from by unfold wrap64; omega] at hE
  have hA := ofT_range (ofT t + ofT (rd_T70 l i).f2)
  generalize ofT (ofT t + ofT (rd_T70 l i).f2) = at2 at *
  have hR := reply_done hm hn hz k hk 3 n st 1 i 1 true at2 0 t t1 (good1 hc i3.1 (.inr rfl) h0 h1 hs hA z) (over01 (.inr rfl)) ht i true 1 (by unfold accS; rw [if_neg (by decide), if_neg (by decide), if_pos rfl, if_neg (by decide), if_neg (by decide), if_pos rfl]) ⟨hl0, hl1⟩ h0 h1
  by_cases hi : i > 0
  · refine ⟨pa, key, at2, 1, i - 1, 0, t, hE, ?_, .inl ⟨by omega, rfl, rfl, rfl, ht.1, Int.le_refl _⟩⟩
    rw [hR]
    unfold doneS
    rw [if_neg (by decide), if_pos hi]
  · refine ⟨pa, key, at2, 4, i, 1, at2, hE, ?_, .inr ⟨by omega, rfl⟩⟩
    rw [hR]
    unfold doneS
    rw [if_neg (by decide), if_neg hi, if_neg (by decide)]
end
def oneL : List S70 := [⟨(⟨#[98]⟩ : ByteArray), (⟨#[99]⟩ : ByteArray), 1, ⟨1, 1, 1, 1⟩, ⟨1, 1, 1, 1⟩, 0⟩]
theorem wait_one (j : Nat) : backoff_Wait.f (j + 1) 1 1 1 1 0 = some 1 := by
  have hp : tick_Pow.f j 1 0 = some 1 := by
    unfold tick_Pow.f
    rw [show tick_Of.f 1 = some 1 from by decide, bs_, show tick_Of.f 0 = some 0 from by decide, bs_, if_pos (by decide), if_pos (by decide)]
  unfold backoff_Wait.f
  rw [show backoff_Good.f 1 1 1 1 = some true from by decide, bs_, if_pos rfl, show decide ((0 : Int) < 0) = false from by decide, backoff_Wait.j0, if_neg (by decide), hp, bs_, show tick_Times.f 1 1 = some 1 from by kernel_rfl, bs_]
  decide
theorem awake14 (j : Nat) : uL14_awake.f (j + 200) = some true := by
  have hn : NmS 1 oneL := fun x hx => by
    simp only [oneL, List.mem_singleton] at hx
    subst hx
    exact ⟨by decide, by decide⟩
  have hE1 := emit_ok (n := (⟨#[97]⟩ : ByteArray)) (dl := 0) (l := oneL) (m := 1) (by decide) hn (by decide) (j + 200) (by omega) 1 (⟨#[97]⟩ : ByteArray) 0 0 0 0 false 0 0 0 (by omega) (by kernel_rfl) (by kernel_rfl) (by omega) (by kernel_rfl) (by omega) (by omega) (by decide)
  have hE2 := emit_ok (n := (⟨#[97]⟩ : ByteArray)) (dl := 0) (l := oneL) (m := 1) (by decide) hn (by decide) (j + 200) (by omega) 1 (⟨#[97]⟩ : ByteArray) 0 0 0 1 false 2 0 2 (by omega) (by kernel_rfl) (by kernel_rfl) (by omega) (by kernel_rfl) (by omega) (by omega) (by decide)
  have hL1 : saga_Late.f (j + 200) (⟨#[97]⟩ : ByteArray) 0 oneL 1 (⟨#[97]⟩ : ByteArray) 0 0 0 1 true 1 0 1 = some (1, (⟨#[97]⟩ : ByteArray), 0, 0, 0, 1, false, 2, 0, 0) := by
    unfold saga_Late.f
    rw [check_fS (⟨#[97]⟩ : ByteArray) 0 oneL (m := 1) (by decide) hn (by decide) (j + 200) (by omega) 1 (⟨#[97]⟩ : ByteArray) 0 0 0 1 true 1 0 1 (by omega), bs_, show checkS (goodS (⟨#[97]⟩ : ByteArray) 0 oneL 1 (⟨#[97]⟩ : ByteArray) 0 0 0 1 true 1 0) 0 1 = 0 from by kernel_rfl, if_pos rfl, if_pos rfl, tickDue_f, bs_, if_pos (by kernel_rfl)]
    unfold saga_fails.f
    rw [plan_fS (⟨#[97]⟩ : ByteArray) 0 oneL 1 (⟨#[97]⟩ : ByteArray) 0 0 0 1 true 1 0 (by omega) (by decide), bs_]
    dsimp only
    rw [left_f _ _ (by omega), bs_, if_pos (of_decide_eq_true (by kernel_rfl)), show plS oneL 0 0 = ⟨1, 1, 1, 1⟩ from rfl, show wrap64 ((1 : Int) - 1) = 0 from by unfold wrap64; omega]
    dsimp only
    rw [wait_one, bs_, show tick_Add.f 1 1 = some 2 from by kernel_rfl]
    rfl
  have hL2 : saga_Late.f (j + 200) (⟨#[97]⟩ : ByteArray) 0 oneL 1 (⟨#[97]⟩ : ByteArray) 0 0 0 2 true 3 0 3 = some (1, (⟨#[97]⟩ : ByteArray), 0, 4, 0, 2, false, 3, 0, 0) := by
    unfold saga_Late.f
    rw [check_fS (⟨#[97]⟩ : ByteArray) 0 oneL (m := 1) (by decide) hn (by decide) (j + 200) (by omega) 1 (⟨#[97]⟩ : ByteArray) 0 0 0 2 true 3 0 3 (by omega), bs_, show checkS (goodS (⟨#[97]⟩ : ByteArray) 0 oneL 1 (⟨#[97]⟩ : ByteArray) 0 0 0 2 true 3 0) 0 3 = 0 from by kernel_rfl, if_pos rfl, if_pos rfl, tickDue_f, bs_, if_pos (by kernel_rfl)]
    unfold saga_fails.f
    rw [plan_fS (⟨#[97]⟩ : ByteArray) 0 oneL 1 (⟨#[97]⟩ : ByteArray) 0 0 0 2 true 3 0 (by omega) (by decide), bs_]
    dsimp only
    rw [left_f _ _ (by omega), bs_, if_neg (of_decide_eq_false (by kernel_rfl)), if_pos rfl, back_f 1 (⟨#[97]⟩ : ByteArray) 0 0 0 2 false 3 0 3 (by omega) (by omega), bs_]
    rfl
  obtain ⟨pa, key, hE1⟩ := hE1
  obtain ⟨pb, key2, hE2⟩ := hE2
  rw [show wrap64 ((0 : Int) + 1) = 1 by unfold wrap64; omega, show ofT (ofT 0 + ofT (rd_T70 oneL 0).f2) = 1 from by kernel_rfl] at hE1
  rw [show wrap64 ((1 : Int) + 1) = 2 by unfold wrap64; omega, show ofT (ofT 2 + ofT (rd_T70 oneL 0).f2) = 3 from by kernel_rfl] at hE2
  have hB : saga_Begin.f (⟨#[97]⟩ : ByteArray) 0 oneL 1 0 = some (1, (⟨#[97]⟩ : ByteArray), 0, 0, 0, 0, false, 0, 0) := by
    unfold saga_Begin.f
    rw [tickOf_f, bs_, bs_, ofT_id (by omega) (by omega)]
  unfold uL14_awake.f
  rw [show uL14_one.f = some ((⟨#[97]⟩ : ByteArray), 0, oneL) from rfl, bs_]
  dsimp only
  rw [hB, bs_]
  dsimp only
  rw [hE1, bs_]
  dsimp only
  rw [hL1, bs_]
  dsimp only
  rw [hE2, bs_]
  dsimp only
  rw [hL2, bs_]
  dsimp only
  rw [if_pos rfl, if_pos rfl]
  rfl
def Blks (w0 w : World) (L : List (Nat × TypeId × Array Value)) : Prop :=
 Below w0.heap.size w0 w ∧ (∀ x ∈ L, w0.heap.size ≤ x.1 ∧ w.heap[x.1]? = some (.cells x.2.2 x.2.1 (0, 0))) ∧ L.Pairwise (fun x y => x.1 < y.1)
namespace Blks
variable {w0 w w1 : World} {L : List (Nat × TypeId × Array Value)}
theorem start (w : World) : Blks w w [] := ⟨Below.refl _ _, fun x hx => absurd hx List.not_mem_nil, List.Pairwise.nil⟩
theorem nil {w0 w : World} (h : Below w0.heap.size w0 w) : Blks w0 w [] := ⟨h, fun x hx => absurd hx List.not_mem_nil, List.Pairwise.nil⟩
theorem below (S : Blks w0 w L) (hb : Below w.heap.size w w1) : Blks w0 w1 L :=
 ⟨below_step S.1 hb, fun x hx => ⟨(S.2.1 x hx).1, blk_below (S.2.1 x hx).2 hb⟩, S.2.2⟩
theorem drew (S : Blks w0 w L) : Blks w0 w.drew L := S.below (below_drew1 (Below.refl _ _))
theorem get (S : Blks w0 w L) (i : Nat) {g : Nat} {t : TypeId} {cs : Array Value} (h : L[i]? = some (g, t, cs)) : w.heap[g]? = some (.cells cs t (0, 0)) :=
 (S.2.1 _ (List.mem_of_getElem? h)).2
theorem ge (S : Blks w0 w L) (i : Nat) {g : Nat} {t : TypeId} {cs : Array Value} (h : L[i]? = some (g, t, cs)) : w0.heap.size ≤ g :=
 (S.2.1 _ (List.mem_of_getElem? h)).1
theorem cell (S : Blks w0 w L) (i : Nat) {g : Nat} {t : TypeId} {cs : Array Value} (h : L[i]? = some (g, t, cs)) : ∀ j, w.cell? ⟨g, j, none⟩ = cs[j]? := fun j => zc (S.get i h) j
theorem frozen (S : Blks w0 w L) (i : Nat) {g : Nat} {t : TypeId} {cs : Array Value} (h : L[i]? = some (g, t, cs)) : ∀ j, w.frozen? ⟨g, j, none⟩ = false := fun j => zf (S.get i h) j
theorem new (S : Blks w0 w L) {g : Nat} {t : TypeId} {cs : Array Value} (hg : g = w.heap.size) (h : w1.heap[g]? = some (.cells cs t (0, 0))) (hb : Below w.heap.size w w1) {L' : List (Nat × TypeId × Array Value)} (hL : L ++ [(g, t, cs)] = L') : Blks w0 w1 L' := by
 subst hL
 have S1 := S.below hb
 refine ⟨S1.1, fun x hx => ?_, ?_⟩
 · rcases List.mem_append.1 hx with hx | hx
   · exact S1.2.1 x hx
   · obtain rfl : x = (g, t, cs) := by simpa using hx
     exact ⟨by rw [hg]; exact S.1.size, h⟩
 · refine List.pairwise_append.2 ⟨S.2.2, List.pairwise_singleton _ _, fun x hx y hy => ?_⟩
   obtain rfl : y = (g, t, cs) := by simpa using hy
   rw [hg]
   exact blk_lt (S.2.1 x hx).2
theorem take (S : Blks w0 w L) (n : Nat) : Blks w0 w (L.take n) := ⟨S.1, fun x hx => S.2.1 x (List.mem_of_mem_take hx), S.2.2.sublist (List.take_sublist _ _)⟩
theorem nodup (S : Blks w0 w L) {i k : Nat} (hik : i ≠ k) {x y : Nat × TypeId × Array Value} (hi : L[i]? = some x) (hk : L[k]? = some y) : x.1 ≠ y.1 := by
 obtain ⟨hi0, rfl⟩ := List.getElem?_eq_some_iff.1 hi
 obtain ⟨hk0, rfl⟩ := List.getElem?_eq_some_iff.1 hk
 have := List.pairwise_iff_getElem.1 S.2.2
 rcases Nat.lt_or_gt_of_ne hik with h | h
 · exact Nat.ne_of_lt (this _ _ _ _ h)
 · exact (Nat.ne_of_lt (this _ _ _ _ h)).symm
theorem turn (S : Blks w0 w L) (i : Nat) {g : Nat} {t : TypeId} {cs cs' : Array Value} (h : L[i]? = some (g, t, cs)) (hB : Below w0.heap.size w0 w1) (hg : w1.heap[g]? = some (.cells cs' t (0, 0))) (ho : ∀ k, k ≠ g → w1.heap[k]? = w.heap[k]?) : Blks w0 w1 (L.set i (g, t, cs')) := by
 refine ⟨hB, fun x hx => ?_, ?_⟩
 · obtain ⟨k, hk⟩ := List.getElem?_of_mem hx
   by_cases e : k = i
   · subst e
     have hl : k < L.length := (List.getElem?_eq_some_iff.1 h).1
     rw [List.getElem?_set_self hl] at hk
     cases hk
     exact ⟨S.ge k h, hg⟩
   · rw [List.getElem?_set_ne (Ne.symm e)] at hk
     have hm := S.2.1 x (List.mem_of_getElem? hk)
     exact ⟨hm.1, (ho _ (S.nodup e hk h)).trans hm.2⟩
 · have hp : (L.map (fun x => x.1)).Pairwise (· < ·) := List.pairwise_map.2 S.2.2
   have e : (L.set i (g, t, cs')).map (fun x => x.1) = L.map (fun x => x.1) := by
    rw [List.map_set]
    have hm : (L.map (fun x => x.1))[i]? = some g := by rw [List.getElem?_map, h]; rfl
    obtain ⟨hl, hv⟩ := List.getElem?_eq_some_iff.1 hm
    refine List.ext_getElem (by simp) (fun k h1 h2 => ?_)
    rw [List.getElem_set]
    split
    · rename_i e; subst e; exact hv.symm
    · rfl
   have hq : ((L.set i (g, t, cs')).map (fun x => x.1)).Pairwise (· < ·) := e ▸ hp
   exact List.pairwise_map.1 hq
end Blks
def putl : List Value → Nat → List Value → List Value
 | [], _, _ => []
 | a :: l, 0, [] => a :: l
 | _ :: l, 0, v :: r => v :: putl l 0 r
 | a :: l, o + 1, vs => a :: putl l o vs
theorem putl_nil : ∀ (l : List Value) (o : Nat), putl l o [] = l
 | [], _ => rfl
 | _ :: _, 0 => rfl
 | a :: l, o + 1 => congrArg (a :: ·) (putl_nil l o)
theorem putl_set (v : Value) (r : List Value) : ∀ (l : List Value) (o : Nat), putl (l.set o v) (o + 1) r = putl l o (v :: r)
 | [], _ => rfl
 | _ :: _, 0 => rfl
 | a :: l, o + 1 => congrArg (a :: ·) (putl_set v r l o)
def putL (cs : Array Value) (o : Nat) (vs : List Value) : Array Value := (putl cs.toList o vs).toArray
theorem setCells_blk (g : Nat) (t : TypeId) (B : Nat) (hB : B ≤ g) (w0 : World) : ∀ (vs : List Value) (o : Nat) (cs : Array Value) (w : World), w.heap[g]? = some (.cells cs t (0, 0)) → Below B w0 w →
 (w.setCells g o vs).heap[g]? = some (.cells (putL cs o vs) t (0, 0)) ∧ Below B w0 (w.setCells g o vs) ∧ ∀ k, k ≠ g → (w.setCells g o vs).heap[k]? = w.heap[k]?
 | [], o, cs, _, h, hb => ⟨by unfold putL; rw [putl_nil]; exact h, hb, fun _ _ => rfl⟩
 | v :: r, o, cs, w, h, hb => by
  obtain ⟨h1, h2, h3⟩ := setCells_blk g t B hB w0 r (o + 1) _ (w.setCell ⟨g, o, none⟩ v) (blk_set h o v) (hb.setCell hB _)
  refine ⟨?_, h2, fun k hk => (h3 k hk).trans (Below.heap_setCell w ⟨g, o, none⟩ v k hk)⟩
  unfold putL at h1 ⊢
  rw [Array.toList_setIfInBounds, putl_set] at h1
  exact h1
section
variable {P : Program} {ops : Array Oper} {rest : List Oper} {o : Oper} {a : Act} {w w0 : World} {Q : Exit → Act → World → Prop} {L : List (Nat × TypeId × Array Value)}
theorem run_storeVar_any (w : World) (b j : Nat) (ty : TypeId) (v : Value) (ht : w.there b j v.cells.size) (hi : (P.info? ty).map (·.size) = some v.cells.size) (h1 : v.cells.all (·.oneCell') = true) :
 (storeVar ty ⟨b, j, none⟩ v).run P w = .ok () (w.setCells b j v.cells.toList) := by
 have := run_storeCells_cells (P := P) b j v.cells.toList 0 w (fun j hj => by simpa using (ht j (by simpa using hj)).1) (fun j hj => by simpa using (ht j (by simpa using hj)).2)
  (fun v hv => (Array.all_eq_true_iff_forall_mem.1 h1) v (by simpa using hv))
 cases hq : P.info? ty with
 | none => simp [hq] at hi
 | some i =>
  have hs : v.cells.size = i.size := by simp [hq] at hi; omega
  simp only [Nat.add_zero] at this
  simp [storeVar, sizeOf, typeInfo, hq, hs, this]
theorem ws_store {K : Act → World → Prop} {ty : TypeId} {x y : Operand} (ho : o.op = .store ty x y) (S : Blks w0 w L) (i : Nat) {g j : Nat} {t : TypeId} {cs : Array Value} (hL : L[i]? = some (g, t, cs)) (hx : a.eval x = .pointer (some ⟨g, j, none⟩))
 (v : Value) (hy : a.eval y = v) (hi : (P.info? ty).map (·.size) = some v.cells.size) (hj : Nat.ble (j + v.cells.size) cs.size = true) (h1 : v.cells.all (·.oneCell') = true) (L' : List (Nat × TypeId × Array Value)) (hL' : L.set i (g, t, putL cs j v.cells.toList) = L')
 (h : ∀ w', Blks w0 w' L' → K (a.put o.dst undef) w') : o.wp P a w K Q := by
 have hg := S.get i hL
 replace hj := Nat.le_of_ble_eq_true hj
 have ht : w.there g j v.cells.size := fun k hk => ⟨by rw [zc hg, Array.getElem?_eq_getElem (by omega)]; rfl, zf hg _⟩
 unfold Oper.wp execOp
 simp only [ho, hx, hy, Instr.storeAt, Instr.sureAddr, Sem.run_bind, Sem.run_pure, Result.andThen_ok, run_storeVar_any w g j ty v ht hi h1]
 obtain ⟨q1, q2, q3⟩ := setCells_blk g t w0.heap.size (S.ge i hL) w0 v.cells.toList j cs w hg S.1
 exact h _ (hL' ▸ S.turn i hL q2 q1 q3)
theorem wl_store (hgd : o.guard = none) {ty : TypeId} {x y : Operand} (ho : o.op = .store ty x y) (S : Blks w0 w L) (i : Nat) {g j : Nat} {t : TypeId} {cs : Array Value} (hL : L[i]? = some (g, t, cs)) (hx : a.eval x = .pointer (some ⟨g, j, none⟩))
 (v : Value) (hy : a.eval y = v) (hi : (P.info? ty).map (·.size) = some v.cells.size) (hj : Nat.ble (j + v.cells.size) cs.size = true) (h1 : v.cells.all (·.oneCell') = true) (L' : List (Nat × TypeId × Array Value)) (hL' : L.set i (g, t, putL cs j v.cells.toList) = L')
 (h : ∀ w', Blks w0 w' L' → wpList P ops Q rest (a.put o.dst undef) w') : wpList P ops Q (o :: rest) a w :=
 wpList_plain hgd fun _ hK => ws_store ho S i hL hx v hy hi hj h1 L' hL' (fun w' h1 => hK _ _ (h w' h1))
theorem wl_load (hgd : o.guard = none) {ty : TypeId} {x : Operand} (ho : o.op = .load ty x) (S : Blks w0 w L) (i : Nat) {g : Nat} {t : TypeId} {cs : Array Value} (hL : L[i]? = some (g, t, cs)) (hx : a.eval x = .pointer (some ⟨g, 0, none⟩)) {d : TypeDesc}
 (hu : P.underlying ty = some d) (hd : (match d with | .struct _ | .array _ _ => true | _ => false) = true) (hi : (P.info? ty).map (·.size) = some cs.size)
 (h : wpList P ops Q rest (a.put o.dst (.agg cs)) w) : wpList P ops Q (o :: rest) a w := wpList_load_row hgd ty x ho g hx t cs (0, 0) d (S.get i hL) hu hd hi h
theorem wl_box (hgd : o.guard = none) {N : Tmp} (hd : o.dst = some N) (S : Blks w0 w L) {cs : Array Value} {t : TypeId}
 (hrun : (execOp a.eval o).run P w = .ok (.value (.pointer (some ⟨w.heap.size, 0, none⟩))) (w.alloc (.cells cs t (0, 0))))
 (h : ∀ g w1, Blks w0 w1 (L ++ [(g, t, cs)]) → Below w.heap.size w w1 → wpList P ops Q rest (a.put o.dst (.pointer (some ⟨g, 0, none⟩))) w1) : wpList P ops Q (o :: rest) a w :=
 box_event hgd hd hrun fun g hg w1 hbox hb => h g w1 (S.new hg hbox hb rfl) hb
end
mutual
def uL13_Small.j0 : Nat → Bool → ByteArray → Int → List (S70) → Option (Int)
 | 0, _, _, _, _ => none
 | k + 1, x13, x361000, x361001, x361002 => if x13 = true then (some 1) else (uL13_Small.l0 k 0 x361000 x361001 x361002)
def uL13_Small.l0 : Nat → Int → ByteArray → Int → List (S70) → Option (Int)
 | 0, _, _, _, _ => none
 | k + 1, x3, x361000, x361001, x361002 => if x3 < (x361002.length : Int) then (if 0 ≤ x3 then (if (((rd_T70 x361002 x3).f0).size : Int) > 100 then (some 2) else (if (((rd_T70 x361002 x3).f1).size : Int) > 100 then (some 2) else (uL13_Small.l0 k (wrap64 (x3 + 1)) x361000 x361001 x361002))) else (none)) else (some 0)
end
def uL13_Small.f (k : Nat) (a0_0 : ByteArray) (a0_1 : Int) (l0_2 : List (S70)) : Option (Int) := if (l0_2.length : Int) > 40 then (uL13_Small.j0 k true a0_0 a0_1 l0_2) else (uL13_Small.j0 k (decide ((a0_0.size : Int) > 100)) a0_0 a0_1 l0_2)
theorem uL13_Small.calls (k : Nat) (a0_0 : ByteArray) (a0_1 : Int) (A0_2 : Option Addr) (c0_2 : Nat) (l0_2 : List (S70)) (r : Int) (w : World) (hr0_2 : Kd.C k70 w A0_2 l0_2.length l0_2) (hc0_2 : l0_2.length ≤ c0_2) (h : uL13_Small.f k a0_0 a0_1 l0_2 = some r) :
 Calls Tryd.prog 10 #[.agg #[.string a0_0, .int .i64 a0_1, .slice A0_2 l0_2.length c0_2]] w fun e w' => e = .returned (.int .i64 r) ∧ Below w.heap.size w w' := by
 have hu24 := Tryd.underlying24
 have HR0_2 := ak_ hr0_2
 have HC0_2 := ak_ hc0_2
 clear hr0_2 hc0_2
 have HB := ak_ (Below.refl w.heap.size w)
 have H : (if (l0_2.length : Int) > 40 then (uL13_Small.j0 k true a0_0 a0_1 l0_2) else (uL13_Small.j0 k (decide ((a0_0.size : Int) > 100)) a0_0 a0_1 l0_2)) = some r := h
 clear h
 have HC2 := ak_ H
 clear H
 go_enter Tryd.func10, Tryd.ntmps10
 go_upto_region 1 with (first | ((with_reducible refine gate_dst (N := 1) rfl ?_); (try (refine gate_guard (by rfl) ?_; dsimp only)); refine box_event ?hg (N := 1) ?hd (cs := #[.string a0_0, .int .i64 a0_1, .slice A0_2 l0_2.length c0_2]) (t := 24) ?hr ?_; (case hd | hg => rfl); (case hr => first | (go_simp; done) | (go_simp; rfl)); intro gb360 hg w3 hbox hb; have n0_ := ak_ (ps (by with_reducible repeat first | exact HB.out | apply pa | apply pd | apply pe) hb); have n1_ := ak_ (hbox); have n2_ := ak_ ((by rw [hg]; exact (below_size (by with_reducible repeat first | exact HB.out | apply pa | apply pd | apply pe)) : w.heap.size ≤ gb360)); have n3_ := ak_ ((by rw [hg]; exact (below_size (by with_reducible repeat first | exact HB.out | apply pa | apply pd | apply pe)) : w.heap.size ≤ gb360)); clear HB; have HB := n0_; have BK360 := n1_; have GW360 := n2_; have GE360 := n3_; clear n0_ n1_ n2_ n3_ hb hbox hg))
 (try simp only [Act.put, sa_, sz_, ss_])
 go_cut [13] (fun v13 wc => ∃ (kq : Nat) (x13_1 : Bool), v13 = .bool x13_1 ∧ Aside0 (uL13_Small.j0 kq x13_1 a0_0 a0_1 l0_2 = some r) ∧ Aside0 (kq ≤ k) ∧ Aside0 (wc.heap[gb360]? = some (.cells #[.string a0_0, .int .i64 a0_1, (.slice A0_2 l0_2.length c0_2)] 24 (0, 0))) ∧ Aside0 (Below w.heap.size w wc))
 case first =>
  have H := HC2.out
  clear HC2
  by_cases c4 : (l0_2.length : Int) > 40
  · rw [if_pos c4] at H
    have c4b0 : decide (40 < (l0_2.length : Int)) = true := dt_ c4
    have c4b1 : decide (40 < l0_2.length) = true := dt_ (by omega)
    clear c4
    (first | rw [c4b0] | (simp only [i64_w, i32_w]; rw [c4b0]) | skip)
    have H' := ak_ H
    clear H
    have hcz5_0 : w3.cell? ⟨gb360, 0, none⟩ = some (.string a0_0) := (zc BK360.out 0).trans rfl
    have hcz5_1 : w3.cell? ⟨gb360, 1, none⟩ = some (.int .i64 a0_1) := (zc BK360.out 1).trans rfl
    have hcz5_2 : w3.cell? ⟨gb360, 2, none⟩ = some (.slice A0_2 l0_2.length c0_2) := (zc BK360.out 2).trans rfl
    have hfz5_0 := zf BK360.out 0
    have hfz5_1 := zf BK360.out 1
    have hfz5_2 := zf BK360.out 2
    go_wp2
    go_meet
    case rel => exact ⟨_, (true), (by first | rfl | simp [*]), H', ⟨by first | omega | exact Nat.le_refl _⟩, ⟨by (with_reducible repeat (first | apply zn | apply zd | apply za)); exact BK360.out⟩, ⟨by repeat (first | (with_reducible first | exact HB.out | apply pa | apply pd | apply pe | refine zs ?_ GE360.out) | exact HB.out)⟩⟩
  rw [if_neg c4] at H
  have c4b0 : decide (40 < (l0_2.length : Int)) = false := df_ c4
  have c4b1 : decide (40 < l0_2.length) = false := df_ (by omega)
  clear c4
  (first | rw [c4b0] | (simp only [i64_w, i32_w]; rw [c4b0]) | skip)
  have H' := ak_ H
  clear H
  have hcz6_0 : w3.cell? ⟨gb360, 0, none⟩ = some (.string a0_0) := (zc BK360.out 0).trans rfl
  have hcz6_1 : w3.cell? ⟨gb360, 1, none⟩ = some (.int .i64 a0_1) := (zc BK360.out 1).trans rfl
  have hcz6_2 : w3.cell? ⟨gb360, 2, none⟩ = some (.slice A0_2 l0_2.length c0_2) := (zc BK360.out 2).trans rfl
  have hfz6_0 := zf BK360.out 0
  have hfz6_1 := zf BK360.out 1
  have hfz6_2 := zf BK360.out 2
  go_wp2
  go_meet
  case rel => exact ⟨_, (decide ((a0_0.size : Int) > 100)), (by first | rfl | simp [*]), H', ⟨by first | omega | exact Nat.le_refl _⟩, ⟨by (with_reducible repeat (first | apply zn | apply zd | apply za)); exact BK360.out⟩, ⟨by repeat (first | (with_reducible first | exact HB.out | apply pa | apply pd | apply pe | refine zs ?_ GE360.out) | exact HB.out)⟩⟩
 case rest =>
  clear HC2
  try clear c1
  try clear p2
  try clear c4
  try clear c4b0
  try clear c4b1
  try clear hcz5_0
  try clear hcz5_1
  try clear hcz5_2
  try clear hcz6_0
  try clear hcz6_1
  try clear hcz6_2
  try clear hfz5_0
  try clear hfz5_1
  try clear hfz5_2
  try clear hfz6_0
  try clear hfz6_1
  try clear hfz6_2
  obtain ⟨kq, x13_1, rfl, HA, HJ1, BK360, HB⟩ := hcut
  cases kq with
  | zero => exact absurd HA.out (by simp [uL13_Small.j0])
  | succ kj1 =>
   have H := HA.out
   clear HA
   simp only [uL13_Small.j0] at H
   have HF7 := ak_ H
   clear H
   go_upto_if 13 with (fail)
   have H := HF7.out
   clear HF7
   by_cases c8 : x13_1 = true
   · subst c8
     have H1 : (some 1) = some r := by rw [if_pos rfl] at H; exact H
     clear H
     have H := H1
     clear H1
     obtain rfl := Option.some.inj H
     go_wp2
     go_ret
     exact ⟨by first | rfl | simp [*], by repeat (first | (with_reducible first | exact HB.out | apply pa | apply pd | apply pe | refine zs ?_ GE360.out) | exact HB.out)⟩
   replace c8 := Bool.eq_false_iff.mpr c8
   subst c8
   have H1 : (uL13_Small.l0 kj1 0 a0_0 a0_1 l0_2) = some r := by rw [if_neg (show ¬ (false = true) by decide)] at H; exact H
   clear H
   have H := H1
   clear H1
   have H' := ak_ H
   clear H
   go_wp2
   go_loopg [3] kj1 (fun kq v3 w' => ∃ (x3_2 : Int), v3 = .int .i64 x3_2 ∧ Aside0 (uL13_Small.l0 kq x3_2 a0_0 a0_1 l0_2 = some r) ∧ Aside0 (kq ≤ kj1) ∧ Aside0 (w'.heap[gb360]? = some (.cells #[.string a0_0, .int .i64 a0_1, (.slice A0_2 l0_2.length c0_2)] 24 (0, 0))) ∧ Aside0 (Below w.heap.size w w'))
   case atStart => exact ⟨(0), (by first | rfl | simp [*]), H', ⟨Nat.le_refl _⟩, ⟨by (with_reducible repeat (first | apply zn | apply zd | apply za)); exact BK360.out⟩, ⟨by repeat (first | (with_reducible first | exact HB.out | apply pa | apply pd | apply pe | refine zs ?_ GE360.out) | exact HB.out)⟩⟩
   case round =>
    clear H'
    try clear c1
    try clear p2
    try clear c4
    try clear c4b0
    try clear c4b1
    try clear c8
    try clear hcz5_0
    try clear hcz5_1
    try clear hcz5_2
    try clear hcz6_0
    try clear hcz6_1
    try clear hcz6_2
    try clear hfz5_0
    try clear hfz5_1
    try clear hfz5_2
    try clear hfz6_0
    try clear hfz6_1
    try clear hfz6_2
    try clear p2
    obtain ⟨x3_2, rfl, HA, HK2, BK360, HB⟩ := hrel
    cases gk with
    | zero => exact absurd HA.out (by simp [uL13_Small.l0])
    | succ k2 =>
     have H := HA.out
     clear HA
     simp only [uL13_Small.l0] at H
     have HF9 := ak_ H
     clear H
     have hcz10_0 : wr.cell? ⟨gb360, 0, none⟩ = some (.string a0_0) := (zc BK360.out 0).trans rfl
     have hcz10_1 : wr.cell? ⟨gb360, 1, none⟩ = some (.int .i64 a0_1) := (zc BK360.out 1).trans rfl
     have hcz10_2 : wr.cell? ⟨gb360, 2, none⟩ = some (.slice A0_2 l0_2.length c0_2) := (zc BK360.out 2).trans rfl
     have hfz10_0 := zf BK360.out 0
     have hfz10_1 := zf BK360.out 1
     have hfz10_2 := zf BK360.out 2
     go_upto_if 18 with (fail)
     have H := HF9.out
     clear HF9
     by_cases c11 : x3_2 < (l0_2.length : Int)
     · rw [if_pos c11] at H
       have c11b0 : decide (x3_2 < (l0_2.length : Int)) = true := dt_ c11
       clear c11
       (first | rw [c11b0] | (simp only [i64_w, i32_w]; rw [c11b0]) | skip)
       by_cases c12 : 0 ≤ x3_2
       · rw [if_pos c12] at H
         have c12b0 : decide (0 ≤ x3_2) = true := dt_ c12
         clear c12
         by_cases c13 : (((rd_T70 l0_2 x3_2).f0).size : Int) > 100
         · rw [if_pos c13] at H
           have c13b0 : decide (100 < (((rd_T70 l0_2 x3_2).f0).size : Int)) = true := dt_ c13
           have c13b1 : decide (100 < ((rd_T70 l0_2 x3_2).f0).size) = true := dt_ (by omega)
           clear c13
           obtain rfl := Option.some.inj H
           have hcz14_0 : wr.cell? ⟨gb360, 0, none⟩ = some (.string a0_0) := (zc BK360.out 0).trans rfl
           have hcz14_1 : wr.cell? ⟨gb360, 1, none⟩ = some (.int .i64 a0_1) := (zc BK360.out 1).trans rfl
           have hcz14_2 : wr.cell? ⟨gb360, 2, none⟩ = some (.slice A0_2 l0_2.length c0_2) := (zc BK360.out 2).trans rfl
           have hfz14_0 := zf BK360.out 0
           have hfz14_1 := zf BK360.out 1
           have hfz14_2 := zf BK360.out 2
           have p361 : 0 ≤ (x3_2 : Int) := of_decide_eq_true (by assumption)
           have q361 : x3_2 < (l0_2.length : Int) := of_decide_eq_true (by assumption)
           obtain ⟨ad361, e361, hx361_0, hx361_1, hx361_2, hx361_3, hx361_4, hx361_5, hx361_6, hx361_7, hx361_8, hx361_9, hx361_10, hx361_11⟩ := at_T70 HR0_2.out x3_2 p361 q361
           cases e361
           replace hx361_0 := (HB.out.cell (bl_ w _ hx361_0)).trans hx361_0
           replace hx361_1 := (HB.out.cell (bl_ w _ hx361_1)).trans hx361_1
           replace hx361_2 := (HB.out.cell (bl_ w _ hx361_2)).trans hx361_2
           replace hx361_3 := (HB.out.cell (bl_ w _ hx361_3)).trans hx361_3
           replace hx361_4 := (HB.out.cell (bl_ w _ hx361_4)).trans hx361_4
           replace hx361_5 := (HB.out.cell (bl_ w _ hx361_5)).trans hx361_5
           replace hx361_6 := (HB.out.cell (bl_ w _ hx361_6)).trans hx361_6
           replace hx361_7 := (HB.out.cell (bl_ w _ hx361_7)).trans hx361_7
           replace hx361_8 := (HB.out.cell (bl_ w _ hx361_8)).trans hx361_8
           replace hx361_9 := (HB.out.cell (bl_ w _ hx361_9)).trans hx361_9
           replace hx361_10 := (HB.out.cell (bl_ w _ hx361_10)).trans hx361_10
           replace hx361_11 := (HB.out.cell (bl_ w _ hx361_11)).trans hx361_11
           replace p361 := eq_true p361
           replace q361 := eq_true q361
           go_wp2
           go_ret
           exact ⟨by first | rfl | simp [*], by repeat (first | (with_reducible first | exact HB.out | apply pa | apply pd | apply pe | refine zs ?_ GE360.out) | exact HB.out)⟩
         rw [if_neg c13] at H
         have c13b0 : decide (100 < (((rd_T70 l0_2 x3_2).f0).size : Int)) = false := df_ c13
         have c13b1 : decide (100 < ((rd_T70 l0_2 x3_2).f0).size) = false := df_ (by omega)
         clear c13
         have HF15 := ak_ H
         clear H
         have hcz16_0 : wr.cell? ⟨gb360, 0, none⟩ = some (.string a0_0) := (zc BK360.out 0).trans rfl
         have hcz16_1 : wr.cell? ⟨gb360, 1, none⟩ = some (.int .i64 a0_1) := (zc BK360.out 1).trans rfl
         have hcz16_2 : wr.cell? ⟨gb360, 2, none⟩ = some (.slice A0_2 l0_2.length c0_2) := (zc BK360.out 2).trans rfl
         have hfz16_0 := zf BK360.out 0
         have hfz16_1 := zf BK360.out 1
         have hfz16_2 := zf BK360.out 2
         have p361 : 0 ≤ (x3_2 : Int) := of_decide_eq_true (by assumption)
         have q361 : x3_2 < (l0_2.length : Int) := of_decide_eq_true (by assumption)
         obtain ⟨ad361, e361, hx361_0, hx361_1, hx361_2, hx361_3, hx361_4, hx361_5, hx361_6, hx361_7, hx361_8, hx361_9, hx361_10, hx361_11⟩ := at_T70 HR0_2.out x3_2 p361 q361
         cases e361
         replace hx361_0 := (HB.out.cell (bl_ w _ hx361_0)).trans hx361_0
         replace hx361_1 := (HB.out.cell (bl_ w _ hx361_1)).trans hx361_1
         replace hx361_2 := (HB.out.cell (bl_ w _ hx361_2)).trans hx361_2
         replace hx361_3 := (HB.out.cell (bl_ w _ hx361_3)).trans hx361_3
         replace hx361_4 := (HB.out.cell (bl_ w _ hx361_4)).trans hx361_4
         replace hx361_5 := (HB.out.cell (bl_ w _ hx361_5)).trans hx361_5
         replace hx361_6 := (HB.out.cell (bl_ w _ hx361_6)).trans hx361_6
         replace hx361_7 := (HB.out.cell (bl_ w _ hx361_7)).trans hx361_7
         replace hx361_8 := (HB.out.cell (bl_ w _ hx361_8)).trans hx361_8
         replace hx361_9 := (HB.out.cell (bl_ w _ hx361_9)).trans hx361_9
         replace hx361_10 := (HB.out.cell (bl_ w _ hx361_10)).trans hx361_10
         replace hx361_11 := (HB.out.cell (bl_ w _ hx361_11)).trans hx361_11
         replace p361 := eq_true p361
         replace q361 := eq_true q361
         have p362 : 0 ≤ (x3_2 : Int) := of_decide_eq_true (by assumption)
         have q362 : x3_2 < (l0_2.length : Int) := of_decide_eq_true (by assumption)
         obtain ⟨ad362, e362, hx362_0, hx362_1, hx362_2, hx362_3, hx362_4, hx362_5, hx362_6, hx362_7, hx362_8, hx362_9, hx362_10, hx362_11⟩ := at_T70 HR0_2.out x3_2 p362 q362
         obtain rfl : ad361 = ad362 := (by injection e362)
         replace hx362_0 := (HB.out.cell (bl_ w _ hx362_0)).trans hx362_0
         replace hx362_1 := (HB.out.cell (bl_ w _ hx362_1)).trans hx362_1
         replace hx362_2 := (HB.out.cell (bl_ w _ hx362_2)).trans hx362_2
         replace hx362_3 := (HB.out.cell (bl_ w _ hx362_3)).trans hx362_3
         replace hx362_4 := (HB.out.cell (bl_ w _ hx362_4)).trans hx362_4
         replace hx362_5 := (HB.out.cell (bl_ w _ hx362_5)).trans hx362_5
         replace hx362_6 := (HB.out.cell (bl_ w _ hx362_6)).trans hx362_6
         replace hx362_7 := (HB.out.cell (bl_ w _ hx362_7)).trans hx362_7
         replace hx362_8 := (HB.out.cell (bl_ w _ hx362_8)).trans hx362_8
         replace hx362_9 := (HB.out.cell (bl_ w _ hx362_9)).trans hx362_9
         replace hx362_10 := (HB.out.cell (bl_ w _ hx362_10)).trans hx362_10
         replace hx362_11 := (HB.out.cell (bl_ w _ hx362_11)).trans hx362_11
         replace p362 := eq_true p362
         replace q362 := eq_true q362
         go_upto_if 38 with (fail)
         have H := HF15.out
         clear HF15
         by_cases c17 : (((rd_T70 l0_2 x3_2).f1).size : Int) > 100
         · rw [if_pos c17] at H
           have c17b0 : decide (100 < (((rd_T70 l0_2 x3_2).f1).size : Int)) = true := dt_ c17
           have c17b1 : decide (100 < ((rd_T70 l0_2 x3_2).f1).size) = true := dt_ (by omega)
           clear c17
           (first | rw [c17b0] | (simp only [i64_w, i32_w]; rw [c17b0]) | skip)
           obtain rfl := Option.some.inj H
           go_wp2
           go_ret
           exact ⟨by first | rfl | simp [*], by repeat (first | (with_reducible first | exact HB.out | apply pa | apply pd | apply pe | refine zs ?_ GE360.out) | exact HB.out)⟩
         rw [if_neg c17] at H
         have c17b0 : decide (100 < (((rd_T70 l0_2 x3_2).f1).size : Int)) = false := df_ c17
         have c17b1 : decide (100 < ((rd_T70 l0_2 x3_2).f1).size) = false := df_ (by omega)
         clear c17
         (first | rw [c17b0] | (simp only [i64_w, i32_w]; rw [c17b0]) | skip)
         have H' := ak_ H
         clear H
         go_wp2
         go_roundg k2
         case measure => have := HJ1.out; have := HK2.out; omega
         case rel => exact ⟨(wrap64 (x3_2 + 1)), (by first | rfl | simp [*]), H', ⟨by have := HJ1.out; have := HK2.out; omega⟩, ⟨by (with_reducible repeat (first | apply zn | apply zd | apply za)); exact BK360.out⟩, ⟨by repeat (first | (with_reducible first | exact HB.out | apply pa | apply pd | apply pe | refine zs ?_ GE360.out) | exact HB.out)⟩⟩
       rw [if_neg c12] at H
       exact absurd H (by simp)
     rw [if_neg c11] at H
     have c11b0 : decide (x3_2 < (l0_2.length : Int)) = false := df_ c11
     clear c11
     (first | rw [c11b0] | (simp only [i64_w, i32_w]; rw [c11b0]) | skip)
     obtain rfl := Option.some.inj H
     go_wp2
     go_ret
     exact ⟨by first | rfl | simp [*], by repeat (first | (with_reducible first | exact HB.out | apply pa | apply pd | apply pe | refine zs ?_ GE360.out) | exact HB.out)⟩
end Go.Proofs.YtmfddmhomkcikaaDoor.Q
section
namespace Go.Proofs.YtmfddmhomkcikaaDoor.Walk
set_option linter.unusedVariables false
set_option linter.unusedSimpArgs false
open Go.RowKit Go.Shelf Go.Proofs.YtmfddmhomkcikaaDoor.Q Go.Proofs.YtmfddmhomkcikaaDoorW.PrintWords Go.Proofs.YtmfddmhomkcikaaDoorW.PrintLast Go.Proofs.YtmfddmhomkcikaaDoorW.PrintMore Go.Proofs.YtmfddmhomkcikaaDoor.Opn
theorem small_l (n : ByteArray) (dl : Int) (l : List S70) (hl : l.length ≤ 40) : ∀ (d i k : Nat), l.length - i ≤ d → d < k → (∀ j, j < i → ∀ (hj : j < l.length), l[j].f0.size ≤ 100 ∧ l[j].f1.size ≤ 100) → ∃ r, uL13_Small.l0 k (i : Int) n dl l = some r ∧ (r = 0 → NmS 100 l)
  | d, i, 0, _, hk, _ => absurd hk (by omega)
  | d, i, k + 1, hd, hk, hs => by
    rw [uL13_Small.l0]
    by_cases hi : i < l.length
    · rw [if_pos (show (i : Int) < (l.length : Int) by omega), if_pos (show (0 : Int) ≤ (i : Int) by omega), rdS_at hi]
      by_cases h0 : ((l[i].f0.size : Nat) : Int) > 100
      · rw [if_pos h0]
        exact ⟨2, rfl, fun h => absurd h (by decide)⟩
      · rw [if_neg h0]
        by_cases h1 : ((l[i].f1.size : Nat) : Int) > 100
        · rw [if_pos h1]
          exact ⟨2, rfl, fun h => absurd h (by decide)⟩
        · rw [if_neg h1, wr1 (by omega) (by omega)]
          cases d with | zero => omega | succ d =>
            refine small_l n dl l hl d (i + 1) k (by omega) (by omega) (fun j hj hjl => ?_)
            by_cases e : j = i
            · subst e; exact ⟨by omega, by omega⟩
            · exact hs j (by omega) hjl
    · rw [if_neg (show ¬ (i : Int) < (l.length : Int) by omega)]
      refine ⟨0, rfl, fun _ x hx => ?_⟩
      obtain ⟨j, hj, rfl⟩ := List.getElem_of_mem hx
      exact hs j (by omega) hj
theorem small_f (n : ByteArray) (dl : Int) (l : List S70) (k : Nat) (hk : 50 ≤ k) : ∃ r, uL13_Small.f k n dl l = some r ∧ (r = 0 → l.length ≤ 40 ∧ n.size ≤ 100 ∧ NmS 100 l) := by
  obtain ⟨k2, rfl⟩ : ∃ k2, k = k2 + 1 := ⟨k - 1, by omega⟩
  unfold uL13_Small.f
  have hj : ∃ r, uL13_Small.j0 (k2 + 1) true n dl l = some r ∧ (r = 0 → l.length ≤ 40 ∧ n.size ≤ 100 ∧ NmS 100 l) := by
    rw [uL13_Small.j0, if_pos rfl]
    exact ⟨1, rfl, fun h => absurd h (by decide)⟩
  by_cases h0 : (l.length : Int) > 40
  · rw [if_pos h0]; exact hj
  · rw [if_neg h0]
    by_cases h1 : (n.size : Int) > 100
    · rw [decide_eq_true h1]; exact hj
    · rw [decide_eq_false h1, uL13_Small.j0, if_neg (by decide)]
      have h00 : ((0 : Nat) : Int) = 0 := rfl
      rw [← h00]
      obtain ⟨r, hr, hz⟩ := small_l n dl l (by omega) l.length 0 k2 (by omega) (by omega) (fun j hj => absurd hj (by omega))
      exact ⟨r, hr, fun h => ⟨by omega, by omega, hz h⟩⟩
set_option maxRecDepth 100000 in
set_option maxHeartbeats 8000000 in
theorem carries_calls (n : ByteArray) (dl : Int) (A : Option Addr) (c : Nat) (l : List S70) (now stop : Int) (w : World) (hr : Kd.C k70 w A l.length l) (hc : l.length ≤ c) (hTab_ : Tabs_ w)
    (hn : NmS 140737488351232 l) (hz : n.size ≤ 140737488351232) (hw : 0 ≤ now ∧ now ≤ 4294967295) (hp : 0 ≤ stop ∧ stop ≤ 255) :
    Calls Tryd.prog 3 #[.agg #[.string n, .int .i64 dl, .slice A l.length c], .int .u32 now, .int .u8 stop] w fun e w' => e = .returned (.bool true) ∧ Below w.heap.size w w' := by
  obtain ⟨K, hK⟩ : ∃ K, K = 2 * 140737488351232 + 3000 := ⟨_, rfl⟩
  obtain ⟨r, hrS, -⟩ := small_f n 0 l K (by omega)
  have hrC := ref_check_f n 0 l (Nat.le_refl _) hn hz K (by omega)
  have hA : uL14_awake.f K = some true := by rw [show K = (2 * 140737488351232 + 2800) + 200 by omega]; exact awake14 _
  obtain ⟨ci, ce, hce⟩ : ∃ ci ce, chkD n 0 l = (ci, ce) := ⟨_, _, rfl⟩
  rw [hce] at hrC
  have hK50 : 50 ≤ K := by omega
  have AA := Aside0.mk hA
  have AS := Aside0.mk hrS
  have AC := Aside0.mk hrC
  have HR := Aside0.mk hr
  have HC := Aside0.mk hc
  have HT := Aside0.mk hTab_
  have HN := Aside0.mk hn
  have HZ := Aside0.mk hz
  have HW := Aside0.mk hw
  have HP := Aside0.mk hp
  have HCE := Aside0.mk hce
  have HK := Aside0.mk hK50
  have S : Aside0 (Blks w w []) := ⟨Blks.start w⟩
  have hu24 := Tryd.underlying24
  have hu31 := Tryd.underlying31
  have hu34 := Tryd.underlying34
  have hu41 := Tryd.underlying41
  clear hA hrS hrC hr hc hTab_ hn hz hw hp hce hK50 hK
  by_cases hr0 : r = 0
  · subst hr0
    by_cases he0 : ce = 0
    · subst he0
      have hce0 : (chkD n 0 l).2 = 0 := by rw [HCE.out]
      have HD := Aside0.mk hce0
      obtain ⟨-, -, hl0, hl1, -⟩ := chkD_at hce0
      clear hce0
      have e0 : wrap64 now = now := by have := HW.out; unfold wrap64; omega
      have es : wrap64 stop = stop := by have := HP.out; unfold wrap64; omega
      obtain ⟨q, hq⟩ : ∃ q : Int, wrap64 ((l.length : Int) + 1) = q := ⟨_, rfl⟩
      have hq1 : q = (l.length : Int) + 1 := by rw [← hq]; unfold wrap64; omega
      have qb0 : (q == 0) = false := beq_eq_false_iff_ne.mpr (by omega)
      have qb1 : (q = 0) = False := eq_false (by omega)
      obtain ⟨N, hN⟩ : ∃ N : Int, Int.tmod stop q = N := ⟨_, rfl⟩
      have hN0 : 0 ≤ N := by rw [← hN, Int.tmod_eq_emod_of_nonneg HP.out.1]; exact Int.emod_nonneg _ (by omega)
      have hN1 : N < q := by rw [← hN, Int.tmod_eq_emod_of_nonneg HP.out.1]; exact Int.emod_lt_of_pos _ (by omega)
      have HL := Aside0.mk (show 0 < (l.length : Int) ∧ (l.length : Int) ≤ 32 ∧ 0 ≤ N ∧ N ≤ (l.length : Int) by omega)
      have hB : saga_Begin.f n 0 l 3 now = some (3, n, now, 0, 0, 0, false, now, 0) := by
        unfold saga_Begin.f
        rw [tickOf_f, Option.bind_some, Option.bind_some, ofT_id HW.out.1 (by have := HW.out; omega)]
      have AB := Aside0.mk hB
      clear hB hq1 hN0 hN1 hl0 hl1
      go_enter Tryd.func3, Tryd.ntmps3
      go_wp2_with (first | ((with_reducible refine gate_dst (N := 3) rfl ?_); refine wl_box (N := 3) rfl rfl S.out (cs := #[.string n, .int .i64 dl, .slice A l.length c]) (t := 24) ?hr ?_; (case hr => first | (go_simp; done) | (go_simp; rfl)); intro p1 v1 S1 hb; replace S : Aside0 (Blks w v1 [(p1, 24, #[.string n, .int .i64 dl, .slice A l.length c])]) := ⟨S1⟩; clear S1 hb) | (go_at_call 8; refine (uL14_awake.calls K true _ (Tabs_.below HT.out S.out.1) AA.out).mono ?_; rintro e v2 ⟨rfl, hb⟩; replace S : Aside0 (Blks w v2 [(p1, 24, #[.string n, .int .i64 dl, .slice A l.length c])]) := ⟨S.out.below hb⟩; clear hb) | (refine wl_store rfl (ty := 3) (x := .tmp 27) rfl S.out 0 rfl rfl (.int .i64 0) rfl (by kernel_rfl) rfl (by simp [Value.oneCell', Value.cells]) [(p1, 24, #[.string n, .int .i64 0, .slice A l.length c])] rfl ?_; intro v3 S1; replace S : Aside0 (Blks w v3 [(p1, 24, #[.string n, .int .i64 0, .slice A l.length c])]) := ⟨S1⟩; clear S1) | (refine wl_load rfl (ty := 24) rfl S.out 0 rfl rfl Tryd.underlying24 rfl (by kernel_rfl) ?_) | (go_at_call 9; refine (uK.calls K n 0 A c l _ _ _ (Kd.C_below HR.out S.out.1) HC.out AC.out).mono ?_; rintro e v4 ⟨rfl, hb⟩; replace S : Aside0 (Blks w v4 [(p1, 24, #[.string n, .int .i64 0, .slice A l.length c])]) := ⟨S.out.below hb⟩; clear hb) | (go_at_call 10; refine (uL13_Small.calls K n 0 A c l _ _ (Kd.C_below HR.out S.out.1) HC.out AS.out).mono ?_; rintro e v5 ⟨rfl, hb⟩; replace S : Aside0 (Blks w v5 [(p1, 24, #[.string n, .int .i64 0, .slice A l.length c])]) := ⟨S.out.below hb⟩; have c0 := S.out.cell 0 rfl; clear hb) | (go_at_call 11; refine (saga_Begin.calls n 0 A c l 3 now 3 n now 0 0 0 false now 0 _ (Kd.C_below HR.out S.out.1) HC.out AB.out).mono ?_; rintro e v6 ⟨rfl, hb⟩; replace S : Aside0 (Blks w v6 [(p1, 24, #[.string n, .int .i64 0, .slice A l.length c])]) := ⟨S.out.below hb⟩; clear c0 hb) | ((with_reducible refine gate_dst (N := 10) rfl ?_); refine wl_box (N := 10) rfl rfl S.out (cs := #[.int .i64 0, .string (⟨#[]⟩ : ByteArray), .int .i64 0, .int .i64 0, .int .i64 0, .int .i64 0, .bool false, .int .i64 0, .int .i64 0]) (t := 31) ?hr ?_; (case hr => first | (go_simp; done) | (go_simp; rfl)); intro p2 v7 S1 hb; replace S : Aside0 (Blks w v7 [(p1, 24, #[.string n, .int .i64 0, .slice A l.length c]), (p2, 31, #[.int .i64 0, .string (⟨#[]⟩ : ByteArray), .int .i64 0, .int .i64 0, .int .i64 0, .int .i64 0, .bool false, .int .i64 0, .int .i64 0])]) := ⟨S1⟩; clear S1 hb) | (refine wl_store rfl (ty := 31) (x := .tmp 10) rfl S.out 1 rfl rfl (.agg #[.int .i64 3, .string n, .int .i64 now, .int .i64 0, .int .i64 0, .int .i64 0, .bool false, .int .i64 now, .int .i64 0]) rfl (by kernel_rfl) rfl (by simp [Value.oneCell', Value.cells]) [(p1, 24, #[.string n, .int .i64 0, .slice A l.length c]), (p2, 31, #[.int .i64 3, .string n, .int .i64 now, .int .i64 0, .int .i64 0, .int .i64 0, .bool false, .int .i64 now, .int .i64 0])] rfl ?_; intro v8 S1; replace S : Aside0 (Blks w v8 [(p1, 24, #[.string n, .int .i64 0, .slice A l.length c]), (p2, 31, #[.int .i64 3, .string n, .int .i64 now, .int .i64 0, .int .i64 0, .int .i64 0, .bool false, .int .i64 now, .int .i64 0])]) := ⟨S1⟩; clear S1))
      go_loopw [11] (fun v11 W => ∃ i ph sp tr at_ : Int, v11 = .int .i64 i ∧ Aside0 ((0 ≤ i ∧ i ≤ N) ∧ ((i < (l.length : Int) ∧ ph = 0 ∧ sp = i ∧ tr = 0 ∧ 0 ≤ at_ ∧ at_ ≤ now + i) ∨ (i = (l.length : Int) ∧ ph = 3))) ∧ Aside0 (Blks w W [(p1, 24, #[.string n, .int .i64 0, .slice A l.length c]), (p2, 31, #[.int .i64 3, .string n, .int .i64 now, .int .i64 ph, .int .i64 sp, .int .i64 tr, .bool false, .int .i64 at_, .int .i64 0])])) (fun v11 _ => (N - intOf v11).toNat)
      case atStart => exact ⟨0, 0, 0, 0, now, rfl, ⟨⟨by omega, HL.out.2.2.1⟩, .inl ⟨HL.out.1, rfl, rfl, rfl, HW.out.1, by omega⟩⟩, S⟩
      case round =>
        clear S
        obtain ⟨i, ph, sp, tr, at_, rfl, HI, S⟩ := hrel
        by_cases hlt : i < N
        · have hd1 : decide (i < N) = true := decide_eq_true hlt
          have hi := HI.out
          obtain ⟨t, ht⟩ : ∃ t : Int, wrap64 (now + i) = t := ⟨_, rfl⟩
          have ht1 : t = now + i := by rw [← ht]; have := HL.out; have := HW.out; unfold wrap64; omega
          obtain ⟨i2, hi2⟩ : ∃ t : Int, wrap64 (i + 1) = t := ⟨_, rfl⟩
          have hi3 : i2 = i + 1 := by rw [← hi2]; have := HL.out; have := HW.out; unfold wrap64; omega
          have hh := hi.2.resolve_right (by have := HL.out; omega)
          obtain ⟨h1, rfl, rfl, rfl, h5, h6⟩ := hh
          obtain ⟨pa, key, at2, ph, sp2, tr, at3, hE, hR, hS⟩ := on_round2 HD.out (Nat.le_refl _) HN.out HZ.out (st := now) ⟨HW.out.1, by have := HW.out; omega⟩ K HK.out sp t at_ hi.1.1 h1 (by have := HL.out; have := HW.out; omega) ⟨h5, by omega⟩
          have AE := Aside0.mk hE
          have AR := Aside0.mk hR
          have HX := Aside0.mk hS
          have HI2 := Aside0.mk (And.intro hi3 hlt)
          have HT1 := Aside0.mk ht1
          clear hE hR hS ht1 hi3 hlt hi h1 h5 h6
          go_wp2_with (first | (refine wl_load rfl (ty := 24) rfl S.out 0 rfl rfl Tryd.underlying24 rfl (by kernel_rfl) ?_) | (refine wl_load rfl (ty := 31) rfl S.out 1 rfl rfl Tryd.underlying31 rfl (by kernel_rfl) ?_) | (go_at_call 12; refine (saga_Emit.calls K n 0 A c l 3 n now 0 sp 0 false at_ 0 t _ _ _ _ _ _ _ _ _ _ _ _ _ _ _ _ _ (Kd.C_below HR.out S.out.1) HC.out (Tabs_.below HT.out S.out.1) AE.out).mono ?_; rintro e v1 ⟨rfl, hb⟩; replace S : Aside0 (Blks w v1 [(p1, 24, #[.string n, .int .i64 0, .slice A l.length c]), (p2, 31, #[.int .i64 3, .string n, .int .i64 now, .int .i64 0, .int .i64 sp, .int .i64 0, .bool false, .int .i64 at_, .int .i64 0])]) := ⟨S.out.below hb⟩; clear hb) | ((with_reducible refine gate_dst (N := 12) rfl ?_); refine wl_box (N := 12) rfl rfl S.out (cs := #[.int .i64 0, .string (⟨#[]⟩ : ByteArray), .int .i64 0, .int .i64 0, .int .i64 0, .int .i64 0, .bool false, .int .i64 0, .int .i64 0]) (t := 31) ?hr ?_; (case hr => first | (go_simp; done) | (go_simp; rfl)); intro p3 v2 S1 hb; replace S : Aside0 (Blks w v2 [(p1, 24, #[.string n, .int .i64 0, .slice A l.length c]), (p2, 31, #[.int .i64 3, .string n, .int .i64 now, .int .i64 0, .int .i64 sp, .int .i64 0, .bool false, .int .i64 at_, .int .i64 0]), (p3, 31, #[.int .i64 0, .string (⟨#[]⟩ : ByteArray), .int .i64 0, .int .i64 0, .int .i64 0, .int .i64 0, .bool false, .int .i64 0, .int .i64 0])]) := ⟨S1⟩; clear S1 hb) | ((with_reducible refine gate_dst (N := 13) rfl ?_); refine wl_box (N := 13) rfl rfl S.out (cs := #[.int .i64 0, .int .i64 0, .bool false, .int .i64 0, .string (⟨#[]⟩ : ByteArray), .string (⟨#[]⟩ : ByteArray)]) (t := 34) ?hr ?_; (case hr => first | (go_simp; done) | (go_simp; rfl)); intro p4 v3 S1 hb; replace S : Aside0 (Blks w v3 [(p1, 24, #[.string n, .int .i64 0, .slice A l.length c]), (p2, 31, #[.int .i64 3, .string n, .int .i64 now, .int .i64 0, .int .i64 sp, .int .i64 0, .bool false, .int .i64 at_, .int .i64 0]), (p3, 31, #[.int .i64 0, .string (⟨#[]⟩ : ByteArray), .int .i64 0, .int .i64 0, .int .i64 0, .int .i64 0, .bool false, .int .i64 0, .int .i64 0]), (p4, 34, #[.int .i64 0, .int .i64 0, .bool false, .int .i64 0, .string (⟨#[]⟩ : ByteArray), .string (⟨#[]⟩ : ByteArray)])]) := ⟨S1⟩; clear S1 hb) | (refine wl_store rfl (ty := 31) (x := .tmp 12) rfl S.out 2 rfl rfl (.agg #[.int .i64 3, .string n, .int .i64 now, .int .i64 0, .int .i64 sp, .int .i64 1, .bool true, .int .i64 at2, .int .i64 0]) rfl (by kernel_rfl) rfl (by simp [Value.oneCell', Value.cells]) [(p1, 24, #[.string n, .int .i64 0, .slice A l.length c]), (p2, 31, #[.int .i64 3, .string n, .int .i64 now, .int .i64 0, .int .i64 sp, .int .i64 0, .bool false, .int .i64 at_, .int .i64 0]), (p3, 31, #[.int .i64 3, .string n, .int .i64 now, .int .i64 0, .int .i64 sp, .int .i64 1, .bool true, .int .i64 at2, .int .i64 0]), (p4, 34, #[.int .i64 0, .int .i64 0, .bool false, .int .i64 0, .string (⟨#[]⟩ : ByteArray), .string (⟨#[]⟩ : ByteArray)])] rfl ?_; intro v4 S1; replace S : Aside0 (Blks w v4 [(p1, 24, #[.string n, .int .i64 0, .slice A l.length c]), (p2, 31, #[.int .i64 3, .string n, .int .i64 now, .int .i64 0, .int .i64 sp, .int .i64 0, .bool false, .int .i64 at_, .int .i64 0]), (p3, 31, #[.int .i64 3, .string n, .int .i64 now, .int .i64 0, .int .i64 sp, .int .i64 1, .bool true, .int .i64 at2, .int .i64 0]), (p4, 34, #[.int .i64 0, .int .i64 0, .bool false, .int .i64 0, .string (⟨#[]⟩ : ByteArray), .string (⟨#[]⟩ : ByteArray)])]) := ⟨S1⟩; clear S1) | (refine wl_store rfl (ty := 34) (x := .tmp 13) rfl S.out 3 rfl rfl (.agg #[.int .i64 3, .int .i64 sp, .bool false, .int .i64 1, .string pa, .string key]) rfl (by kernel_rfl) rfl (by simp [Value.oneCell', Value.cells]) [(p1, 24, #[.string n, .int .i64 0, .slice A l.length c]), (p2, 31, #[.int .i64 3, .string n, .int .i64 now, .int .i64 0, .int .i64 sp, .int .i64 0, .bool false, .int .i64 at_, .int .i64 0]), (p3, 31, #[.int .i64 3, .string n, .int .i64 now, .int .i64 0, .int .i64 sp, .int .i64 1, .bool true, .int .i64 at2, .int .i64 0]), (p4, 34, #[.int .i64 3, .int .i64 sp, .bool false, .int .i64 1, .string pa, .string key])] rfl ?_; intro v5 S1; replace S : Aside0 (Blks w v5 [(p1, 24, #[.string n, .int .i64 0, .slice A l.length c]), (p2, 31, #[.int .i64 3, .string n, .int .i64 now, .int .i64 0, .int .i64 sp, .int .i64 0, .bool false, .int .i64 at_, .int .i64 0]), (p3, 31, #[.int .i64 3, .string n, .int .i64 now, .int .i64 0, .int .i64 sp, .int .i64 1, .bool true, .int .i64 at2, .int .i64 0]), (p4, 34, #[.int .i64 3, .int .i64 sp, .bool false, .int .i64 1, .string pa, .string key])]) := ⟨S1⟩; clear S1) | (refine wl_load rfl (ty := 31) rfl S.out 2 rfl rfl Tryd.underlying31 rfl (by kernel_rfl) ?_) | (go_at_call 13; refine (saga_Reply.calls K n 0 A c l 3 n now 0 sp 1 true at2 0 3 sp false 1 true t _ _ _ _ _ _ _ _ _ _ _ (Kd.C_below HR.out S.out.1) HC.out (Tabs_.below HT.out S.out.1) AR.out).mono ?_; rintro e v6 ⟨rfl, hb⟩; replace S : Aside0 (Blks w v6 [(p1, 24, #[.string n, .int .i64 0, .slice A l.length c]), (p2, 31, #[.int .i64 3, .string n, .int .i64 now, .int .i64 0, .int .i64 sp, .int .i64 0, .bool false, .int .i64 at_, .int .i64 0]), (p3, 31, #[.int .i64 3, .string n, .int .i64 now, .int .i64 0, .int .i64 sp, .int .i64 1, .bool true, .int .i64 at2, .int .i64 0]), (p4, 34, #[.int .i64 3, .int .i64 sp, .bool false, .int .i64 1, .string pa, .string key])]) := ⟨S.out.below hb⟩; have c0 := S.out.cell 0 rfl; have c1 := S.out.cell 1 rfl; have c3 := S.out.cell 3 rfl; clear hb) | ((with_reducible refine gate_dst (N := 15) rfl ?_); refine wl_box (N := 15) rfl rfl S.out (cs := #[.int .i64 0, .string (⟨#[]⟩ : ByteArray), .int .i64 0, .int .i64 0, .int .i64 0, .int .i64 0, .bool false, .int .i64 0, .int .i64 0]) (t := 31) ?hr ?_; (case hr => first | (go_simp; done) | (go_simp; rfl)); intro p5 v7 S1 hb; replace S : Aside0 (Blks w v7 [(p1, 24, #[.string n, .int .i64 0, .slice A l.length c]), (p2, 31, #[.int .i64 3, .string n, .int .i64 now, .int .i64 0, .int .i64 sp, .int .i64 0, .bool false, .int .i64 at_, .int .i64 0]), (p3, 31, #[.int .i64 3, .string n, .int .i64 now, .int .i64 0, .int .i64 sp, .int .i64 1, .bool true, .int .i64 at2, .int .i64 0]), (p4, 34, #[.int .i64 3, .int .i64 sp, .bool false, .int .i64 1, .string pa, .string key]), (p5, 31, #[.int .i64 0, .string (⟨#[]⟩ : ByteArray), .int .i64 0, .int .i64 0, .int .i64 0, .int .i64 0, .bool false, .int .i64 0, .int .i64 0])]) := ⟨S1⟩; clear c0 c1 c3; have c0 := S.out.cell 0 rfl; have c1 := S.out.cell 1 rfl; have c3 := S.out.cell 3 rfl; clear S1 hb) | (refine wl_store rfl (ty := 31) (x := .tmp 15) rfl S.out 4 rfl rfl (.agg #[.int .i64 3, .string n, .int .i64 now, .int .i64 ph, .int .i64 sp2, .int .i64 tr, .bool false, .int .i64 at3, .int .i64 0]) rfl (by kernel_rfl) rfl (by simp [Value.oneCell', Value.cells]) [(p1, 24, #[.string n, .int .i64 0, .slice A l.length c]), (p2, 31, #[.int .i64 3, .string n, .int .i64 now, .int .i64 0, .int .i64 sp, .int .i64 0, .bool false, .int .i64 at_, .int .i64 0]), (p3, 31, #[.int .i64 3, .string n, .int .i64 now, .int .i64 0, .int .i64 sp, .int .i64 1, .bool true, .int .i64 at2, .int .i64 0]), (p4, 34, #[.int .i64 3, .int .i64 sp, .bool false, .int .i64 1, .string pa, .string key]), (p5, 31, #[.int .i64 3, .string n, .int .i64 now, .int .i64 ph, .int .i64 sp2, .int .i64 tr, .bool false, .int .i64 at3, .int .i64 0])] rfl ?_; intro v8 S1; replace S : Aside0 (Blks w v8 [(p1, 24, #[.string n, .int .i64 0, .slice A l.length c]), (p2, 31, #[.int .i64 3, .string n, .int .i64 now, .int .i64 0, .int .i64 sp, .int .i64 0, .bool false, .int .i64 at_, .int .i64 0]), (p3, 31, #[.int .i64 3, .string n, .int .i64 now, .int .i64 0, .int .i64 sp, .int .i64 1, .bool true, .int .i64 at2, .int .i64 0]), (p4, 34, #[.int .i64 3, .int .i64 sp, .bool false, .int .i64 1, .string pa, .string key]), (p5, 31, #[.int .i64 3, .string n, .int .i64 now, .int .i64 ph, .int .i64 sp2, .int .i64 tr, .bool false, .int .i64 at3, .int .i64 0])]) := ⟨S1⟩; clear c0 c1 c3; have c0 := S.out.cell 0 rfl; have c1 := S.out.cell 1 rfl; have c3 := S.out.cell 3 rfl; clear S1) | (refine wl_load rfl (ty := 31) rfl S.out 4 rfl rfl Tryd.underlying31 rfl (by kernel_rfl) ?_) | (refine wl_store rfl (ty := 31) (x := .tmp 10) rfl S.out 1 rfl rfl (.agg #[.int .i64 3, .string n, .int .i64 now, .int .i64 ph, .int .i64 sp2, .int .i64 tr, .bool false, .int .i64 at3, .int .i64 0]) rfl (by kernel_rfl) rfl (by simp [Value.oneCell', Value.cells]) [(p1, 24, #[.string n, .int .i64 0, .slice A l.length c]), (p2, 31, #[.int .i64 3, .string n, .int .i64 now, .int .i64 ph, .int .i64 sp2, .int .i64 tr, .bool false, .int .i64 at3, .int .i64 0]), (p3, 31, #[.int .i64 3, .string n, .int .i64 now, .int .i64 0, .int .i64 sp, .int .i64 1, .bool true, .int .i64 at2, .int .i64 0]), (p4, 34, #[.int .i64 3, .int .i64 sp, .bool false, .int .i64 1, .string pa, .string key]), (p5, 31, #[.int .i64 3, .string n, .int .i64 now, .int .i64 ph, .int .i64 sp2, .int .i64 tr, .bool false, .int .i64 at3, .int .i64 0])] rfl ?_; intro v9 S1; replace S : Aside0 (Blks w v9 [(p1, 24, #[.string n, .int .i64 0, .slice A l.length c]), (p2, 31, #[.int .i64 3, .string n, .int .i64 now, .int .i64 ph, .int .i64 sp2, .int .i64 tr, .bool false, .int .i64 at3, .int .i64 0]), (p3, 31, #[.int .i64 3, .string n, .int .i64 now, .int .i64 0, .int .i64 sp, .int .i64 1, .bool true, .int .i64 at2, .int .i64 0]), (p4, 34, #[.int .i64 3, .int .i64 sp, .bool false, .int .i64 1, .string pa, .string key]), (p5, 31, #[.int .i64 3, .string n, .int .i64 now, .int .i64 ph, .int .i64 sp2, .int .i64 tr, .bool false, .int .i64 at3, .int .i64 0])]) := ⟨S1⟩; clear c0 c1 c3; have c0 := S.out.cell 0 rfl; have c1 := S.out.cell 1 rfl; have c3 := S.out.cell 3 rfl; clear S1))
          go_roundw
          case rel => exact ⟨i2, ph, sp2, tr, at3, congrArg (Value.int IntKind.i64) hi2, ⟨⟨by have := HI2.out; have := HI.out; omega, by have := HI2.out; omega⟩, by have := HI2.out; have := HX.out; have := HT1.out; omega⟩, ⟨S.out.take 2⟩⟩
          case measure => have := HI2.out; simp [intOf]; omega
        · have hd1 : decide (i < N) = false := decide_eq_false hlt
          have hiN : i = N := by have := HI.out; omega
          clear hlt
          by_cases hNl : N = (l.length : Int)
          · have hb1 : (N == (l.length : Int)) = true := beq_iff_eq.mpr hNl
            have hph : ph = 3 := by
              rcases HI.out.2 with h | h
              · have := h.1; omega
              · exact h.2
            subst hph
            clear hNl hiN
            have c1 := S.out.cell 1 rfl
            have c0 := S.out.cell 0 rfl
            go_wp2
            go_ret
            exact ⟨by first | rfl | simp, S.out.1⟩
          · have hb1 : (N == (l.length : Int)) = false := beq_eq_false_iff_ne.mpr hNl
            have hh := HI.out.2.resolve_right (by omega)
            obtain ⟨h1, rfl, rfl, rfl, h5, h6⟩ := hh
            obtain ⟨t, ht⟩ : ∃ t : Int, wrap64 (now + N) = t := ⟨_, rfl⟩
            have ht1 : t = now + N := by rw [← ht]; have := HL.out; have := HW.out; unfold wrap64; omega
            obtain ⟨j, hj⟩ : ∃ t : Int, wrap64 (N - 1) = t := ⟨_, rfl⟩
            have hj1 : j = N - 1 := by rw [← hj]; have := HL.out; unfold wrap64; omega
            obtain ⟨ph, sp2, at3, hX, hS⟩ := cancel2 HD.out (Nat.le_refl _) HN.out HZ.out (st := now) ⟨HW.out.1, by have := HW.out; omega⟩ K HK.out sp t at_ (by have := HL.out; omega) h1 (by have := HL.out; have := HW.out; omega) ⟨h5, by omega⟩
            have AX := Aside0.mk hX
            have hS1 : (0 ≤ j ∧ ph = 1 ∧ sp2 = j ∧ 0 ≤ at3 ∧ at3 ≤ now + 100) ∨ (j = -1 ∧ ph = 4) := by have := HL.out; omega
            have HX := Aside0.mk hS1
            have HJ := Aside0.mk (show -1 ≤ j ∧ j < (l.length : Int) by have := HL.out; omega)
            have HQ := Aside0.mk (show now + 100 ≤ 4294967395 by have := HW.out; omega)
            obtain ⟨t2, ht2⟩ : ∃ t : Int, wrap64 (now + 100) = t := ⟨_, rfl⟩
            have HT2 := Aside0.mk (show t2 = now + 100 by rw [← ht2]; have := HW.out; unfold wrap64; omega)
            clear hX hS hS1 hj1 ht1 h1 h5 h6 hiN hNl
            have c0 := S.out.cell 0 rfl
            have c1 := S.out.cell 1 rfl
            go_wp2_with (first | (refine wl_load rfl (ty := 24) rfl S.out 0 rfl rfl Tryd.underlying24 rfl (by kernel_rfl) ?_) | (refine wl_load rfl (ty := 31) rfl S.out 1 rfl rfl Tryd.underlying31 rfl (by kernel_rfl) ?_) | (go_at_call 14; refine (saga_Cancel.calls K n 0 A c l 3 n now 0 sp 0 false at_ 0 t _ _ _ _ _ _ _ _ _ _ _ (Kd.C_below HR.out S.out.1) HC.out (Tabs_.below HT.out S.out.1) AX.out).mono ?_; rintro e v1 ⟨rfl, hb⟩; replace S : Aside0 (Blks w v1 [(p1, 24, #[.string n, .int .i64 0, .slice A l.length c]), (p2, 31, #[.int .i64 3, .string n, .int .i64 now, .int .i64 0, .int .i64 sp, .int .i64 0, .bool false, .int .i64 at_, .int .i64 0])]) := ⟨S.out.below hb⟩; clear c0 c1 hb) | ((with_reducible refine gate_dst (N := 17) rfl ?_); refine wl_box (N := 17) rfl rfl S.out (cs := #[.int .i64 0, .string (⟨#[]⟩ : ByteArray), .int .i64 0, .int .i64 0, .int .i64 0, .int .i64 0, .bool false, .int .i64 0, .int .i64 0]) (t := 31) ?hr ?_; (case hr => first | (go_simp; done) | (go_simp; rfl)); intro p3 v2 S1 hb; replace S : Aside0 (Blks w v2 [(p1, 24, #[.string n, .int .i64 0, .slice A l.length c]), (p2, 31, #[.int .i64 3, .string n, .int .i64 now, .int .i64 0, .int .i64 sp, .int .i64 0, .bool false, .int .i64 at_, .int .i64 0]), (p3, 31, #[.int .i64 0, .string (⟨#[]⟩ : ByteArray), .int .i64 0, .int .i64 0, .int .i64 0, .int .i64 0, .bool false, .int .i64 0, .int .i64 0])]) := ⟨S1⟩; clear S1 hb) | (refine wl_store rfl (ty := 31) (x := .tmp 17) rfl S.out 2 rfl rfl (.agg #[.int .i64 3, .string n, .int .i64 now, .int .i64 ph, .int .i64 sp2, .int .i64 0, .bool false, .int .i64 at3, .int .i64 0]) rfl (by kernel_rfl) rfl (by simp [Value.oneCell', Value.cells]) [(p1, 24, #[.string n, .int .i64 0, .slice A l.length c]), (p2, 31, #[.int .i64 3, .string n, .int .i64 now, .int .i64 0, .int .i64 sp, .int .i64 0, .bool false, .int .i64 at_, .int .i64 0]), (p3, 31, #[.int .i64 3, .string n, .int .i64 now, .int .i64 ph, .int .i64 sp2, .int .i64 0, .bool false, .int .i64 at3, .int .i64 0])] rfl ?_; intro v3 S1; replace S : Aside0 (Blks w v3 [(p1, 24, #[.string n, .int .i64 0, .slice A l.length c]), (p2, 31, #[.int .i64 3, .string n, .int .i64 now, .int .i64 0, .int .i64 sp, .int .i64 0, .bool false, .int .i64 at_, .int .i64 0]), (p3, 31, #[.int .i64 3, .string n, .int .i64 now, .int .i64 ph, .int .i64 sp2, .int .i64 0, .bool false, .int .i64 at3, .int .i64 0])]) := ⟨S1⟩; clear S1) | (refine wl_load rfl (ty := 31) rfl S.out 2 rfl rfl Tryd.underlying31 rfl (by kernel_rfl) ?_) | (refine wl_store rfl (ty := 31) (x := .tmp 10) rfl S.out 1 rfl rfl (.agg #[.int .i64 3, .string n, .int .i64 now, .int .i64 ph, .int .i64 sp2, .int .i64 0, .bool false, .int .i64 at3, .int .i64 0]) rfl (by kernel_rfl) rfl (by simp [Value.oneCell', Value.cells]) [(p1, 24, #[.string n, .int .i64 0, .slice A l.length c]), (p2, 31, #[.int .i64 3, .string n, .int .i64 now, .int .i64 ph, .int .i64 sp2, .int .i64 0, .bool false, .int .i64 at3, .int .i64 0]), (p3, 31, #[.int .i64 3, .string n, .int .i64 now, .int .i64 ph, .int .i64 sp2, .int .i64 0, .bool false, .int .i64 at3, .int .i64 0])] rfl ?_; intro v4 S1; replace S : Aside0 (Blks w v4 [(p1, 24, #[.string n, .int .i64 0, .slice A l.length c]), (p2, 31, #[.int .i64 3, .string n, .int .i64 now, .int .i64 ph, .int .i64 sp2, .int .i64 0, .bool false, .int .i64 at3, .int .i64 0]), (p3, 31, #[.int .i64 3, .string n, .int .i64 now, .int .i64 ph, .int .i64 sp2, .int .i64 0, .bool false, .int .i64 at3, .int .i64 0])]) := ⟨S1⟩; clear S1))
            go_loopw [19] (fun v19 W => ∃ j ph sp tr at_ : Int, v19 = .int .i64 j ∧ Aside0 ((-1 ≤ j ∧ j < (l.length : Int)) ∧ ((0 ≤ j ∧ ph = 1 ∧ sp = j ∧ tr = 0 ∧ 0 ≤ at_ ∧ at_ ≤ now + 100) ∨ (j = -1 ∧ ph = 4))) ∧ Aside0 (Blks w W [(p1, 24, #[.string n, .int .i64 0, .slice A l.length c]), (p2, 31, #[.int .i64 3, .string n, .int .i64 now, .int .i64 ph, .int .i64 sp, .int .i64 tr, .bool false, .int .i64 at_, .int .i64 0])])) (fun v19 _ => (intOf v19 + 1).toNat)
            case atStart => exact ⟨j, ph, sp2, 0, at3, congrArg (Value.int IntKind.i64) hj, ⟨HJ.out, by have := HX.out; omega⟩, ⟨S.out.take 2⟩⟩
            case round =>
              clear S HX HJ AX hj HI
              obtain ⟨j, ph, sp, tr, at_, rfl, HI, S⟩ := hrel
              by_cases hlt : 0 ≤ j
              · have hd1 : decide (j ≥ 0) = true := decide_eq_true hlt
                have hi := HI.out
                obtain ⟨i2, hi2⟩ : ∃ t : Int, wrap64 (j - 1) = t := ⟨_, rfl⟩
                have hi3 : i2 = j - 1 := by rw [← hi2]; have := HL.out; unfold wrap64; omega
                have hh := hi.2.resolve_right (by omega)
                obtain ⟨h1, rfl, rfl, rfl, h5, h6⟩ := hh
                obtain ⟨pa, key, at2, ph, sp2, tr, at3, hE, hR, hS⟩ := back_round HD.out (Nat.le_refl _) HN.out HZ.out (st := now) ⟨HW.out.1, by have := HW.out; omega⟩ K HK.out sp t2 at_ h1 hi.1.2 (by have := HT2.out; have := HQ.out; have := HW.out; omega) ⟨h5, by have := HT2.out; omega⟩
                have AE := Aside0.mk hE
                have AR := Aside0.mk hR
                have HX := Aside0.mk hS
                have HI2 := Aside0.mk (And.intro hi3 hlt)
                clear hE hR hS hi3 hlt hi h1 h5 h6
                go_wp2_with (first | (refine wl_load rfl (ty := 24) rfl S.out 0 rfl rfl Tryd.underlying24 rfl (by kernel_rfl) ?_) | (refine wl_load rfl (ty := 31) rfl S.out 1 rfl rfl Tryd.underlying31 rfl (by kernel_rfl) ?_) | (go_at_call 12; refine (saga_Emit.calls K n 0 A c l 3 n now 1 sp 0 false at_ 0 t2 _ _ _ _ _ _ _ _ _ _ _ _ _ _ _ _ _ (Kd.C_below HR.out S.out.1) HC.out (Tabs_.below HT.out S.out.1) AE.out).mono ?_; rintro e v1 ⟨rfl, hb⟩; replace S : Aside0 (Blks w v1 [(p1, 24, #[.string n, .int .i64 0, .slice A l.length c]), (p2, 31, #[.int .i64 3, .string n, .int .i64 now, .int .i64 1, .int .i64 sp, .int .i64 0, .bool false, .int .i64 at_, .int .i64 0])]) := ⟨S.out.below hb⟩; clear hb) | ((with_reducible refine gate_dst (N := 20) rfl ?_); refine wl_box (N := 20) rfl rfl S.out (cs := #[.int .i64 0, .string (⟨#[]⟩ : ByteArray), .int .i64 0, .int .i64 0, .int .i64 0, .int .i64 0, .bool false, .int .i64 0, .int .i64 0]) (t := 31) ?hr ?_; (case hr => first | (go_simp; done) | (go_simp; rfl)); intro p3 v2 S1 hb; replace S : Aside0 (Blks w v2 [(p1, 24, #[.string n, .int .i64 0, .slice A l.length c]), (p2, 31, #[.int .i64 3, .string n, .int .i64 now, .int .i64 1, .int .i64 sp, .int .i64 0, .bool false, .int .i64 at_, .int .i64 0]), (p3, 31, #[.int .i64 0, .string (⟨#[]⟩ : ByteArray), .int .i64 0, .int .i64 0, .int .i64 0, .int .i64 0, .bool false, .int .i64 0, .int .i64 0])]) := ⟨S1⟩; clear S1 hb) | ((with_reducible refine gate_dst (N := 21) rfl ?_); refine wl_box (N := 21) rfl rfl S.out (cs := #[.int .i64 0, .int .i64 0, .bool false, .int .i64 0, .string (⟨#[]⟩ : ByteArray), .string (⟨#[]⟩ : ByteArray)]) (t := 34) ?hr ?_; (case hr => first | (go_simp; done) | (go_simp; rfl)); intro p4 v3 S1 hb; replace S : Aside0 (Blks w v3 [(p1, 24, #[.string n, .int .i64 0, .slice A l.length c]), (p2, 31, #[.int .i64 3, .string n, .int .i64 now, .int .i64 1, .int .i64 sp, .int .i64 0, .bool false, .int .i64 at_, .int .i64 0]), (p3, 31, #[.int .i64 0, .string (⟨#[]⟩ : ByteArray), .int .i64 0, .int .i64 0, .int .i64 0, .int .i64 0, .bool false, .int .i64 0, .int .i64 0]), (p4, 34, #[.int .i64 0, .int .i64 0, .bool false, .int .i64 0, .string (⟨#[]⟩ : ByteArray), .string (⟨#[]⟩ : ByteArray)])]) := ⟨S1⟩; clear S1 hb) | (refine wl_store rfl (ty := 31) (x := .tmp 20) rfl S.out 2 rfl rfl (.agg #[.int .i64 3, .string n, .int .i64 now, .int .i64 1, .int .i64 sp, .int .i64 1, .bool true, .int .i64 at2, .int .i64 0]) rfl (by kernel_rfl) rfl (by simp [Value.oneCell', Value.cells]) [(p1, 24, #[.string n, .int .i64 0, .slice A l.length c]), (p2, 31, #[.int .i64 3, .string n, .int .i64 now, .int .i64 1, .int .i64 sp, .int .i64 0, .bool false, .int .i64 at_, .int .i64 0]), (p3, 31, #[.int .i64 3, .string n, .int .i64 now, .int .i64 1, .int .i64 sp, .int .i64 1, .bool true, .int .i64 at2, .int .i64 0]), (p4, 34, #[.int .i64 0, .int .i64 0, .bool false, .int .i64 0, .string (⟨#[]⟩ : ByteArray), .string (⟨#[]⟩ : ByteArray)])] rfl ?_; intro v4 S1; replace S : Aside0 (Blks w v4 [(p1, 24, #[.string n, .int .i64 0, .slice A l.length c]), (p2, 31, #[.int .i64 3, .string n, .int .i64 now, .int .i64 1, .int .i64 sp, .int .i64 0, .bool false, .int .i64 at_, .int .i64 0]), (p3, 31, #[.int .i64 3, .string n, .int .i64 now, .int .i64 1, .int .i64 sp, .int .i64 1, .bool true, .int .i64 at2, .int .i64 0]), (p4, 34, #[.int .i64 0, .int .i64 0, .bool false, .int .i64 0, .string (⟨#[]⟩ : ByteArray), .string (⟨#[]⟩ : ByteArray)])]) := ⟨S1⟩; clear S1) | (refine wl_store rfl (ty := 34) (x := .tmp 21) rfl S.out 3 rfl rfl (.agg #[.int .i64 3, .int .i64 sp, .bool true, .int .i64 1, .string pa, .string key]) rfl (by kernel_rfl) rfl (by simp [Value.oneCell', Value.cells]) [(p1, 24, #[.string n, .int .i64 0, .slice A l.length c]), (p2, 31, #[.int .i64 3, .string n, .int .i64 now, .int .i64 1, .int .i64 sp, .int .i64 0, .bool false, .int .i64 at_, .int .i64 0]), (p3, 31, #[.int .i64 3, .string n, .int .i64 now, .int .i64 1, .int .i64 sp, .int .i64 1, .bool true, .int .i64 at2, .int .i64 0]), (p4, 34, #[.int .i64 3, .int .i64 sp, .bool true, .int .i64 1, .string pa, .string key])] rfl ?_; intro v5 S1; replace S : Aside0 (Blks w v5 [(p1, 24, #[.string n, .int .i64 0, .slice A l.length c]), (p2, 31, #[.int .i64 3, .string n, .int .i64 now, .int .i64 1, .int .i64 sp, .int .i64 0, .bool false, .int .i64 at_, .int .i64 0]), (p3, 31, #[.int .i64 3, .string n, .int .i64 now, .int .i64 1, .int .i64 sp, .int .i64 1, .bool true, .int .i64 at2, .int .i64 0]), (p4, 34, #[.int .i64 3, .int .i64 sp, .bool true, .int .i64 1, .string pa, .string key])]) := ⟨S1⟩; clear S1) | (refine wl_load rfl (ty := 31) rfl S.out 2 rfl rfl Tryd.underlying31 rfl (by kernel_rfl) ?_) | (go_at_call 13; refine (saga_Reply.calls K n 0 A c l 3 n now 1 sp 1 true at2 0 3 sp true 1 true t2 _ _ _ _ _ _ _ _ _ _ _ (Kd.C_below HR.out S.out.1) HC.out (Tabs_.below HT.out S.out.1) AR.out).mono ?_; rintro e v6 ⟨rfl, hb⟩; replace S : Aside0 (Blks w v6 [(p1, 24, #[.string n, .int .i64 0, .slice A l.length c]), (p2, 31, #[.int .i64 3, .string n, .int .i64 now, .int .i64 1, .int .i64 sp, .int .i64 0, .bool false, .int .i64 at_, .int .i64 0]), (p3, 31, #[.int .i64 3, .string n, .int .i64 now, .int .i64 1, .int .i64 sp, .int .i64 1, .bool true, .int .i64 at2, .int .i64 0]), (p4, 34, #[.int .i64 3, .int .i64 sp, .bool true, .int .i64 1, .string pa, .string key])]) := ⟨S.out.below hb⟩; have c0 := S.out.cell 0 rfl; have c1 := S.out.cell 1 rfl; have c3 := S.out.cell 3 rfl; clear hb) | ((with_reducible refine gate_dst (N := 23) rfl ?_); refine wl_box (N := 23) rfl rfl S.out (cs := #[.int .i64 0, .string (⟨#[]⟩ : ByteArray), .int .i64 0, .int .i64 0, .int .i64 0, .int .i64 0, .bool false, .int .i64 0, .int .i64 0]) (t := 31) ?hr ?_; (case hr => first | (go_simp; done) | (go_simp; rfl)); intro p5 v7 S1 hb; replace S : Aside0 (Blks w v7 [(p1, 24, #[.string n, .int .i64 0, .slice A l.length c]), (p2, 31, #[.int .i64 3, .string n, .int .i64 now, .int .i64 1, .int .i64 sp, .int .i64 0, .bool false, .int .i64 at_, .int .i64 0]), (p3, 31, #[.int .i64 3, .string n, .int .i64 now, .int .i64 1, .int .i64 sp, .int .i64 1, .bool true, .int .i64 at2, .int .i64 0]), (p4, 34, #[.int .i64 3, .int .i64 sp, .bool true, .int .i64 1, .string pa, .string key]), (p5, 31, #[.int .i64 0, .string (⟨#[]⟩ : ByteArray), .int .i64 0, .int .i64 0, .int .i64 0, .int .i64 0, .bool false, .int .i64 0, .int .i64 0])]) := ⟨S1⟩; clear c0 c1 c3; have c0 := S.out.cell 0 rfl; have c1 := S.out.cell 1 rfl; have c3 := S.out.cell 3 rfl; clear S1 hb) | (refine wl_store rfl (ty := 31) (x := .tmp 23) rfl S.out 4 rfl rfl (.agg #[.int .i64 3, .string n, .int .i64 now, .int .i64 ph, .int .i64 sp2, .int .i64 tr, .bool false, .int .i64 at3, .int .i64 0]) rfl (by kernel_rfl) rfl (by simp [Value.oneCell', Value.cells]) [(p1, 24, #[.string n, .int .i64 0, .slice A l.length c]), (p2, 31, #[.int .i64 3, .string n, .int .i64 now, .int .i64 1, .int .i64 sp, .int .i64 0, .bool false, .int .i64 at_, .int .i64 0]), (p3, 31, #[.int .i64 3, .string n, .int .i64 now, .int .i64 1, .int .i64 sp, .int .i64 1, .bool true, .int .i64 at2, .int .i64 0]), (p4, 34, #[.int .i64 3, .int .i64 sp, .bool true, .int .i64 1, .string pa, .string key]), (p5, 31, #[.int .i64 3, .string n, .int .i64 now, .int .i64 ph, .int .i64 sp2, .int .i64 tr, .bool false, .int .i64 at3, .int .i64 0])] rfl ?_; intro v8 S1; replace S : Aside0 (Blks w v8 [(p1, 24, #[.string n, .int .i64 0, .slice A l.length c]), (p2, 31, #[.int .i64 3, .string n, .int .i64 now, .int .i64 1, .int .i64 sp, .int .i64 0, .bool false, .int .i64 at_, .int .i64 0]), (p3, 31, #[.int .i64 3, .string n, .int .i64 now, .int .i64 1, .int .i64 sp, .int .i64 1, .bool true, .int .i64 at2, .int .i64 0]), (p4, 34, #[.int .i64 3, .int .i64 sp, .bool true, .int .i64 1, .string pa, .string key]), (p5, 31, #[.int .i64 3, .string n, .int .i64 now, .int .i64 ph, .int .i64 sp2, .int .i64 tr, .bool false, .int .i64 at3, .int .i64 0])]) := ⟨S1⟩; clear c0 c1 c3; have c0 := S.out.cell 0 rfl; have c1 := S.out.cell 1 rfl; have c3 := S.out.cell 3 rfl; clear S1) | (refine wl_load rfl (ty := 31) rfl S.out 4 rfl rfl Tryd.underlying31 rfl (by kernel_rfl) ?_) | (refine wl_store rfl (ty := 31) (x := .tmp 10) rfl S.out 1 rfl rfl (.agg #[.int .i64 3, .string n, .int .i64 now, .int .i64 ph, .int .i64 sp2, .int .i64 tr, .bool false, .int .i64 at3, .int .i64 0]) rfl (by kernel_rfl) rfl (by simp [Value.oneCell', Value.cells]) [(p1, 24, #[.string n, .int .i64 0, .slice A l.length c]), (p2, 31, #[.int .i64 3, .string n, .int .i64 now, .int .i64 ph, .int .i64 sp2, .int .i64 tr, .bool false, .int .i64 at3, .int .i64 0]), (p3, 31, #[.int .i64 3, .string n, .int .i64 now, .int .i64 1, .int .i64 sp, .int .i64 1, .bool true, .int .i64 at2, .int .i64 0]), (p4, 34, #[.int .i64 3, .int .i64 sp, .bool true, .int .i64 1, .string pa, .string key]), (p5, 31, #[.int .i64 3, .string n, .int .i64 now, .int .i64 ph, .int .i64 sp2, .int .i64 tr, .bool false, .int .i64 at3, .int .i64 0])] rfl ?_; intro v9 S1; replace S : Aside0 (Blks w v9 [(p1, 24, #[.string n, .int .i64 0, .slice A l.length c]), (p2, 31, #[.int .i64 3, .string n, .int .i64 now, .int .i64 ph, .int .i64 sp2, .int .i64 tr, .bool false, .int .i64 at3, .int .i64 0]), (p3, 31, #[.int .i64 3, .string n, .int .i64 now, .int .i64 1, .int .i64 sp, .int .i64 1, .bool true, .int .i64 at2, .int .i64 0]), (p4, 34, #[.int .i64 3, .int .i64 sp, .bool true, .int .i64 1, .string pa, .string key]), (p5, 31, #[.int .i64 3, .string n, .int .i64 now, .int .i64 ph, .int .i64 sp2, .int .i64 tr, .bool false, .int .i64 at3, .int .i64 0])]) := ⟨S1⟩; clear c0 c1 c3; have c0 := S.out.cell 0 rfl; have c1 := S.out.cell 1 rfl; have c3 := S.out.cell 3 rfl; clear S1))
                go_roundw
                case rel => exact ⟨i2, ph, sp2, tr, at3, congrArg (Value.int IntKind.i64) hi2, ⟨by have := HI2.out; have := HI.out; omega, by have := HI2.out; have := HX.out; have := HT2.out; omega⟩, ⟨S.out.take 2⟩⟩
                case measure => have := HI2.out; simp [intOf]; omega
              · have hd1 : decide (j ≥ 0) = false := decide_eq_false hlt
                have hph : ph = 4 := by
                  rcases HI.out.2 with h | h
                  · have := h.1; omega
                  · exact h.2
                subst hph
                clear hlt
                have c1 := S.out.cell 1 rfl
                go_wp2
                go_ret
                exact ⟨by first | rfl | simp, S.out.1⟩
    · have b1 : (ce != 0) = true := bne_iff_ne.mpr he0
      clear he0
      go_enter Tryd.func3, Tryd.ntmps3
      go_wp2_with (first | ((with_reducible refine gate_dst (N := 3) rfl ?_); refine wl_box (N := 3) rfl rfl S.out (cs := #[.string n, .int .i64 dl, .slice A l.length c]) (t := 24) ?hr ?_; (case hr => first | (go_simp; done) | (go_simp; rfl)); intro p1 v1 S1 hb; replace S : Aside0 (Blks w v1 [(p1, 24, #[.string n, .int .i64 dl, .slice A l.length c])]) := ⟨S1⟩; clear S1 hb) | (go_at_call 8; refine (uL14_awake.calls K true _ (Tabs_.below HT.out S.out.1) AA.out).mono ?_; rintro e v2 ⟨rfl, hb⟩; replace S : Aside0 (Blks w v2 [(p1, 24, #[.string n, .int .i64 dl, .slice A l.length c])]) := ⟨S.out.below hb⟩; clear hb) | (refine wl_store rfl (ty := 3) (x := .tmp 27) rfl S.out 0 rfl rfl (.int .i64 0) rfl (by kernel_rfl) rfl (by simp [Value.oneCell', Value.cells]) [(p1, 24, #[.string n, .int .i64 0, .slice A l.length c])] rfl ?_; intro v3 S1; replace S : Aside0 (Blks w v3 [(p1, 24, #[.string n, .int .i64 0, .slice A l.length c])]) := ⟨S1⟩; clear S1) | (refine wl_load rfl (ty := 24) rfl S.out 0 rfl rfl Tryd.underlying24 rfl (by kernel_rfl) ?_) | (go_at_call 9; refine (uK.calls K n 0 A c l _ _ _ (Kd.C_below HR.out S.out.1) HC.out AC.out).mono ?_; rintro e v4 ⟨rfl, hb⟩; replace S : Aside0 (Blks w v4 [(p1, 24, #[.string n, .int .i64 0, .slice A l.length c])]) := ⟨S.out.below hb⟩; clear hb) | (go_at_call 10; refine (uL13_Small.calls K n 0 A c l _ _ (Kd.C_below HR.out S.out.1) HC.out AS.out).mono ?_; rintro e v5 ⟨rfl, hb⟩; replace S : Aside0 (Blks w v5 [(p1, 24, #[.string n, .int .i64 0, .slice A l.length c])]) := ⟨S.out.below hb⟩; have c0 := S.out.cell 0 rfl; clear hb))
      go_ret
      exact ⟨rfl, S.out.1⟩
  · have b1 : (r != 0) = true := bne_iff_ne.mpr hr0
    clear hr0
    go_enter Tryd.func3, Tryd.ntmps3
    go_wp2_with (first | ((with_reducible refine gate_dst (N := 3) rfl ?_); refine wl_box (N := 3) rfl rfl S.out (cs := #[.string n, .int .i64 dl, .slice A l.length c]) (t := 24) ?hr ?_; (case hr => first | (go_simp; done) | (go_simp; rfl)); intro p1 v1 S1 hb; replace S : Aside0 (Blks w v1 [(p1, 24, #[.string n, .int .i64 dl, .slice A l.length c])]) := ⟨S1⟩; clear S1 hb) | (go_at_call 8; refine (uL14_awake.calls K true _ (Tabs_.below HT.out S.out.1) AA.out).mono ?_; rintro e v2 ⟨rfl, hb⟩; replace S : Aside0 (Blks w v2 [(p1, 24, #[.string n, .int .i64 dl, .slice A l.length c])]) := ⟨S.out.below hb⟩; clear hb) | (refine wl_store rfl (ty := 3) (x := .tmp 27) rfl S.out 0 rfl rfl (.int .i64 0) rfl (by kernel_rfl) rfl (by simp [Value.oneCell', Value.cells]) [(p1, 24, #[.string n, .int .i64 0, .slice A l.length c])] rfl ?_; intro v3 S1; replace S : Aside0 (Blks w v3 [(p1, 24, #[.string n, .int .i64 0, .slice A l.length c])]) := ⟨S1⟩; clear S1) | (refine wl_load rfl (ty := 24) rfl S.out 0 rfl rfl Tryd.underlying24 rfl (by kernel_rfl) ?_) | (go_at_call 9; refine (uK.calls K n 0 A c l _ _ _ (Kd.C_below HR.out S.out.1) HC.out AC.out).mono ?_; rintro e v4 ⟨rfl, hb⟩; replace S : Aside0 (Blks w v4 [(p1, 24, #[.string n, .int .i64 0, .slice A l.length c])]) := ⟨S.out.below hb⟩; clear hb) | (go_at_call 10; refine (uL13_Small.calls K n 0 A c l _ _ (Kd.C_below HR.out S.out.1) HC.out AS.out).mono ?_; rintro e v5 ⟨rfl, hb⟩; replace S : Aside0 (Blks w v5 [(p1, 24, #[.string n, .int .i64 0, .slice A l.length c])]) := ⟨S.out.below hb⟩; have c0 := S.out.cell 0 rfl; clear hb))
    go_ret
    exact ⟨rfl, S.out.1⟩
set_option maxHeartbeats 400000
theorem SagaCarries.walk (w : World) (cs0 : Array Value) (x0 : (ByteArray × Int × (List S70))) (a1 : Int) (a2 : Int)
    (hk0 : Kd.K (Kd.pair Kd.string (Kd.pair (Kd.int .i64) (Kd.slice 70 k70))) w x0 cs0.toList) (ok0 : (fun x : ByteArray × Int × (List S70) => (fun x => x.size ≤ 140737488351232) x.1 ∧ (fun x => (Lit.int .i64 x).wf = true) x.2.1 ∧ (fun xs => xs.length ≤ maxLen ∧ ∀ x ∈ xs, (fun s : S70 => (fun x : ByteArray × ByteArray × Int × S54 × S54 × Int => (fun x => x.size ≤ 140737488351232) x.1 ∧ (fun x => x.size ≤ 140737488351232) x.2.1 ∧ (fun x => (Lit.int .i64 x).wf = true) x.2.2.1 ∧ (fun s : S54 => (fun x : Int × Int × Int × Int => (fun x => (Lit.int .i64 x).wf = true) x.1 ∧ (fun x => (Lit.int .i64 x).wf = true) x.2.1 ∧ (fun x => (Lit.int .i64 x).wf = true) x.2.2.1 ∧ (fun x => (Lit.int .i64 x).wf = true) x.2.2.2) (s.f0, (s.f1, (s.f2, s.f3)))) x.2.2.2.1 ∧ (fun s : S54 => (fun x : Int × Int × Int × Int => (fun x => (Lit.int .i64 x).wf = true) x.1 ∧ (fun x => (Lit.int .i64 x).wf = true) x.2.1 ∧ (fun x => (Lit.int .i64 x).wf = true) x.2.2.1 ∧ (fun x => (Lit.int .i64 x).wf = true) x.2.2.2) (s.f0, (s.f1, (s.f2, s.f3)))) x.2.2.2.2.1 ∧ (fun x => (Lit.int .i64 x).wf = true) x.2.2.2.2.2) (s.f0, (s.f1, (s.f2, (s.f3, (s.f4, s.f5)))))) x) x.2.2) x0) (w1 : (Lit.int .u32 a1).wf = true) (w2 : (Lit.int .u8 a2).wf = true) (hTab_ : Tabs_ w) :
    Calls Tryd.prog 3 #[.agg cs0, .int .u32 a1, .int .u8 a2] w fun e w' => e = .returned (.bool true) ∧ Below w.heap.size w w' := by
  obtain ⟨n, dl, l⟩ := x0
  obtain ⟨_, _, hcs, rfl, ⟨_, _, rfl, rfl, ⟨A0, c0, rfl, hc0, hr0⟩⟩⟩ := hk0
  obtain rfl : cs0 = #[.string n, .int .i64 dl, .slice A0 l.length c0] := by
    rw [← Array.toList_inj]
    exact hcs
  obtain ⟨o0, o1, o2⟩ := ok0
  have hn : NmS 140737488351232 l := fun x hx => ⟨(o2.2 x hx).1, (o2.2 x hx).2.1⟩
  exact carries_calls n dl A0 c0 l a1 a2 w hr0 hc0 hTab_ hn o0 (bounds_u32 w1) (bounds_u8 w2)
end Go.Proofs.YtmfddmhomkcikaaDoor.Walk
end
