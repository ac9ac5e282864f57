/- Part 5 of a claim's texts. -/
import Derived.Test.YtcgpbakimkhdpaaDoorPk1
import Derived.Test.YtcgpbakimkhdpaaDoorPk3
import Derived.Test.YtcgpbakimkhdpaaDoorPk4
namespace Go.Proofs.YtcgpbakimkhdpaaDoor.Q
open Go.RowKit Go.Proofs.YtcgpbakimkhdpaaDoorW.PrintWords Go.Proofs.YtcgpbakimkhdpaaDoorW.PrintLast Go.Proofs.YtcgpbakimkhdpaaDoorW.PrintMore
attribute [local go_sem] max2_int min2_int max_two min_two max_three min_three max_four min_four
set_option linter.unusedVariables false
set_option linter.unusedSimpArgs false
set_option maxHeartbeats 8000000
set_option maxRecDepth 100000
open Go.Proofs.YtcgpbakimkhdpaaDoor.Q.H_
def def_Check.l0 : Nat → Int → Int → ByteArray → Int → List (S61) → Option (Int × Int)
 | 0, _, _, _, _, _ => none
 | k + 1, x28, x29, x146000, x146001, x146002 => if x29 < x28 then ((def_step.f x146002 x29).bind fun t148 => (if t148 = 0 then (def_Check.l0 k x28 (wrap64 (x29 + 1)) x146000 x146001 x146002) else (some (x29, t148)))) else (some ((-1), 0))
def def_Check.f (k : Nat) (a0_0 : ByteArray) (a0_1 : Int) (l0_2 : List (S61)) : Option (Int × Int) := (label_Good.f a0_0).bind fun t146 => (if t146 = true then ((tick_Good.f a0_1).bind fun t147 => (if t147 = true then (if (l0_2.length : Int) = 0 then (some ((-1), 2)) else (if (l0_2.length : Int) > 32 then (some ((-1), 4)) else (def_Check.l0 k (l0_2.length : Int) 0 a0_0 a0_1 l0_2))) else (some ((-1), 1)))) else (some ((-1), 10)))
theorem def_Check.calls (k : Nat) (a0_0 : ByteArray) (a0_1 : Int) (A0_2 : Option Addr) (c0_2 : Nat) (l0_2 : List (S61)) (r1 : Int) (r2 : Int) (w : World) (hr0_2 : Kd.C k61 w A0_2 l0_2.length l0_2) (hc0_2 : l0_2.length ≤ c0_2) (hTab_ : Tabs_ w) (h : def_Check.f k a0_0 a0_1 l0_2 = some (r1, r2)) :
 Calls Tryd.prog 31 #[.agg #[.string a0_0, .int .i64 a0_1, .slice A0_2 l0_2.length c0_2]] w fun e w' => e = .returned (.tuple #[.int .i64 r1, .int .i64 r2]) ∧ Below w.heap.size w w' := by
 have HT := ak_ hTab_
 clear hTab_
 have hu24 := Tryd.underlying24
 have HR0_2 := ak_ hr0_2
 have HC0_2 := ak_ hc0_2
 clear hr0_2 hc0_2
 have HB := ak_ (Below.refl w.heap.size w)
 have H : ((label_Good.f a0_0).bind fun t146 => (if t146 = true then ((tick_Good.f a0_1).bind fun t147 => (if t147 = true then (if (l0_2.length : Int) = 0 then (some ((-1), 2)) else (if (l0_2.length : Int) > 32 then (some ((-1), 4)) else (def_Check.l0 k (l0_2.length : Int) 0 a0_0 a0_1 l0_2))) else (some ((-1), 1)))) else (some ((-1), 10)))) = some (r1, r2) := h
 clear h
 replace H := ob_ H
 obtain ⟨t146, A20, H⟩ := H
 replace H : (if t146 = true then ((tick_Good.f a0_1).bind fun t147 => (if t147 = true then (if (l0_2.length : Int) = 0 then (some ((-1), 2)) else (if (l0_2.length : Int) > 32 then (some ((-1), 4)) else (def_Check.l0 k (l0_2.length : Int) 0 a0_0 a0_1 l0_2))) else (some ((-1), 1)))) else (some ((-1), 10))) = some (r1, r2) := H
 have A2 := ak_ A20
 clear A20
 have HF3 := ak_ H
 clear H
 go_enter Tryd.func31, Tryd.ntmps31
 go_upto_if 6 with (first | ((with_reducible refine gate_dst (N := 1) rfl ?_); refine box_event ?hg (N := 1) ?hd (cs := #[.string a0_0, .int .i64 a0_1, .slice A0_2 l0_2.length c0_2]) (t := 24) ?hr ?_; (case hd | hg => rfl); (case hr => first | (go_simp; done) | (go_simp; rfl)); intro gb145 hg w4 hbox hb; have n0_ := ak_ (ps (by with_reducible repeat first | exact HB.out | apply pa | apply pd | apply pe) hb); have n1_ := ak_ (hbox); have n2_ := ak_ ((by rw [hg]; exact (below_size (by with_reducible repeat first | exact HB.out | apply pa | apply pd | apply pe)) : w.heap.size ≤ gb145)); have n3_ := ak_ ((by rw [hg]; exact (below_size (by with_reducible repeat first | exact HB.out | apply pa | apply pd | apply pe)) : w.heap.size ≤ gb145)); clear HB; have HB := n0_; have BK145 := n1_; have GW145 := n2_; have GE145 := n3_; clear n0_ n1_ n2_ n3_ hb hbox hg; have hcz5_0 : w4.cell? ⟨gb145, 0, none⟩ = some (.string a0_0) := (zc BK145.out 0).trans rfl; have hcz5_1 : w4.cell? ⟨gb145, 1, none⟩ = some (.int .i64 a0_1) := (zc BK145.out 1).trans rfl; have hcz5_2 : w4.cell? ⟨gb145, 2, none⟩ = some (.slice A0_2 l0_2.length c0_2) := (zc BK145.out 2).trans rfl; have hfz5_0 := zf BK145.out 0; have hfz5_1 := zf BK145.out 1; have hfz5_2 := zf BK145.out 2) | ((with_reducible refine gate_callee (f := 44) rfl ?_); refine goesL_ (some 9) rfl rfl Tryd.func44 (by kernel_rfl) rfl #[.string a0_0] rfl (by simp only [mt_, mc_, mn_] <;> rfl) ?_; (with_reducible refine (label_Good.calls a0_0 t146 _ ?tab_ A2.out).mono ?_); (case tab_ => first | exact HT.out | exact Tabs_.below HT.out (by with_reducible repeat first | exact HB.out | apply pa | apply pd | apply pe)); rintro e w6 ⟨rfl, hb⟩; refine ⟨_, rfl, ?_⟩; have n0_ := ak_ (blk_below (g := gb145) (o := .cells #[.string a0_0, .int .i64 a0_1, .slice A0_2 l0_2.length c0_2] 24 (0, 0)) (by (with_reducible repeat (first | apply zn | apply zd | apply za)); exact BK145.out) hb); have n1_ := ak_ (ps (by with_reducible repeat first | exact HB.out | apply pa | apply pd | apply pe | refine zs ?_ GE145.out) hb); clear BK145 HB; have BK145 := n0_; have HB := n1_; clear n0_ n1_))
 (try simp only [Act.put, sa_, sz_, ss_])
 have H := HF3.out
 clear HF3
 by_cases c7 : t146 = true
 · subst c7
   have H1 : ((tick_Good.f a0_1).bind fun t147 => (if t147 = true then (if (l0_2.length : Int) = 0 then (some ((-1), 2)) else (if (l0_2.length : Int) > 32 then (some ((-1), 4)) else (def_Check.l0 k (l0_2.length : Int) 0 a0_0 a0_1 l0_2))) else (some ((-1), 1)))) = some (r1, r2) := by rw [if_pos rfl] at H; exact H
   clear H
   have H := H1
   clear H1
   replace H := ob_ H
   obtain ⟨t147, A80, H⟩ := H
   replace H : (if t147 = true then (if (l0_2.length : Int) = 0 then (some ((-1), 2)) else (if (l0_2.length : Int) > 32 then (some ((-1), 4)) else (def_Check.l0 k (l0_2.length : Int) 0 a0_0 a0_1 l0_2))) else (some ((-1), 1))) = some (r1, r2) := H
   have A8 := ak_ A80
   clear A80
   have HF9 := ak_ H
   clear H
   have hcz10_0 : w6.cell? ⟨gb145, 0, none⟩ = some (.string a0_0) := (zc BK145.out 0).trans rfl
   have hcz10_1 : w6.cell? ⟨gb145, 1, none⟩ = some (.int .i64 a0_1) := (zc BK145.out 1).trans rfl
   have hcz10_2 : w6.cell? ⟨gb145, 2, none⟩ = some (.slice A0_2 l0_2.length c0_2) := (zc BK145.out 2).trans rfl
   have hfz10_0 := zf BK145.out 0
   have hfz10_1 := zf BK145.out 1
   have hfz10_2 := zf BK145.out 2
   go_upto_if 11 with (first | ((with_reducible refine gate_callee (f := 42) rfl ?_); refine goesL_ (some 14) rfl rfl Tryd.func42 (by kernel_rfl) rfl #[.int .i64 a0_1] rfl (by simp only [mt_, mc_, mn_] <;> rfl) ?_; (with_reducible refine (tick_Good.calls a0_1 t147 _ A8.out).mono ?_); rintro e w' ⟨rfl, ⟨nd, rfl⟩⟩; refine ⟨_, rfl, ?_⟩))
   (try simp only [Act.put, sa_, sz_, ss_])
   have H := HF9.out
   clear HF9
   by_cases c11 : t147 = true
   · subst c11
     have H1 : (if (l0_2.length : Int) = 0 then (some ((-1), 2)) else (if (l0_2.length : Int) > 32 then (some ((-1), 4)) else (def_Check.l0 k (l0_2.length : Int) 0 a0_0 a0_1 l0_2))) = some (r1, r2) := by rw [if_pos rfl] at H; exact H
     clear H
     have H := H1
     clear H1
     have HF12 := ak_ H
     clear H
     have hcz13_0 : w6.cell? ⟨gb145, 0, none⟩ = some (.string a0_0) := (zc BK145.out 0).trans rfl
     have hcz13_1 : w6.cell? ⟨gb145, 1, none⟩ = some (.int .i64 a0_1) := (zc BK145.out 1).trans rfl
     have hcz13_2 : w6.cell? ⟨gb145, 2, none⟩ = some (.slice A0_2 l0_2.length c0_2) := (zc BK145.out 2).trans rfl
     have hfz13_0 := zf BK145.out 0
     have hfz13_1 := zf BK145.out 1
     have hfz13_2 := zf BK145.out 2
     go_upto_if 16 with (fail)
     have H := HF12.out
     clear HF12
     by_cases c14 : (l0_2.length : Int) = 0
     · rw [if_pos c14] at H
       have c14b0 : ((l0_2.length : Int) == 0) = true := beq_iff_eq.mpr c14
       have c14b1 : ((l0_2.length : Int) != 0) = false := bne_eq_false_iff_eq.mpr c14
       clear c14
       (first | rw [c14b0] | (simp only [i64_w, i32_w]; rw [c14b0]) | skip)
       simp only [Option.some.injEq, Prod.mk.injEq] at H
       obtain ⟨rfl, rfl⟩ := H
       go_wp2
       go_ret2
       exact ⟨by first | rfl | simp [*], by repeat (first | (with_reducible first | exact HB.out | apply pa | apply pd | apply pe | refine zs ?_ GE145.out) | exact HB.out)⟩
     rw [if_neg c14] at H
     have c14b0 : ((l0_2.length : Int) == 0) = false := beq_eq_false_iff_ne.mpr c14
     have c14b1 : ((l0_2.length : Int) != 0) = true := bne_iff_ne.mpr c14
     have c14b2 : ¬ (l0_2 = []) := fun h_ => c14 (by rw [h_]; rfl)
     (first | rw [c14b0] | (simp only [i64_w, i32_w]; rw [c14b0]) | skip)
     have HF15 := ak_ H
     clear H
     have hcz16_0 : w6.cell? ⟨gb145, 0, none⟩ = some (.string a0_0) := (zc BK145.out 0).trans rfl
     have hcz16_1 : w6.cell? ⟨gb145, 1, none⟩ = some (.int .i64 a0_1) := (zc BK145.out 1).trans rfl
     have hcz16_2 : w6.cell? ⟨gb145, 2, none⟩ = some (.slice A0_2 l0_2.length c0_2) := (zc BK145.out 2).trans rfl
     have hfz16_0 := zf BK145.out 0
     have hfz16_1 := zf BK145.out 1
     have hfz16_2 := zf BK145.out 2
     go_upto_if 21 with (fail)
     have H := HF15.out
     clear HF15
     by_cases c17 : (l0_2.length : Int) > 32
     · rw [if_pos c17] at H
       have c17b0 : decide (32 < (l0_2.length : Int)) = true := dt_ c17
       have c17b1 : decide (32 < l0_2.length) = true := dt_ (by omega)
       clear c17
       (first | rw [c17b0] | (simp only [i64_w, i32_w]; rw [c17b0]) | skip)
       simp only [Option.some.injEq, Prod.mk.injEq] at H
       obtain ⟨rfl, rfl⟩ := H
       go_wp2
       go_ret2
       exact ⟨by first | rfl | simp [*], by repeat (first | (with_reducible first | exact HB.out | apply pa | apply pd | apply pe | refine zs ?_ GE145.out) | exact HB.out)⟩
     rw [if_neg c17] at H
     have c17b0 : decide (32 < (l0_2.length : Int)) = false := df_ c17
     have c17b1 : decide (32 < l0_2.length) = false := df_ (by omega)
     clear c17
     (first | rw [c17b0] | (simp only [i64_w, i32_w]; rw [c17b0]) | skip)
     have H' := ak_ H
     clear H
     have hcz18_0 : w6.cell? ⟨gb145, 0, none⟩ = some (.string a0_0) := (zc BK145.out 0).trans rfl
     have hcz18_1 : w6.cell? ⟨gb145, 1, none⟩ = some (.int .i64 a0_1) := (zc BK145.out 1).trans rfl
     have hcz18_2 : w6.cell? ⟨gb145, 2, none⟩ = some (.slice A0_2 l0_2.length c0_2) := (zc BK145.out 2).trans rfl
     have hfz18_0 := zf BK145.out 0
     have hfz18_1 := zf BK145.out 1
     have hfz18_2 := zf BK145.out 2
     go_wp2
     go_loopg [29] k (fun kq v29 w' => ∃ (x29_1 : Int), v29 = .int .i64 x29_1 ∧ Aside0 (def_Check.l0 kq (l0_2.length : Int) x29_1 a0_0 a0_1 l0_2 = some (r1, r2)) ∧ Aside0 (kq ≤ k) ∧ Aside0 (w'.heap[gb145]? = some (.cells #[.string a0_0, .int .i64 a0_1, (.slice A0_2 l0_2.length c0_2)] 24 (0, 0))) ∧ Aside0 (Below w.heap.size w w'))
     case atStart => exact ⟨(0), (by first | rfl | simp [*]), H', ⟨Nat.le_refl _⟩, ⟨by (with_reducible repeat (first | apply zn | apply zd | apply za)); exact BK145.out⟩, ⟨by repeat (first | (with_reducible first | exact HB.out | apply pa | apply pd | apply pe | refine zs ?_ GE145.out) | exact HB.out)⟩⟩
     case round =>
      clear H'
      try clear c1
      try clear p2
      try clear c3
      try clear c4
      try clear c7
      try clear c11
      try clear c14
      try clear c14b0
      try clear c14b1
      try clear c14b2
      try clear c17
      try clear c17b0
      try clear c17b1
      try clear hcz10_0
      try clear hcz10_1
      try clear hcz10_2
      try clear hcz13_0
      try clear hcz13_1
      try clear hcz13_2
      try clear hcz16_0
      try clear hcz16_1
      try clear hcz16_2
      try clear hcz18_0
      try clear hcz18_1
      try clear hcz18_2
      try clear hcz5_0
      try clear hcz5_1
      try clear hcz5_2
      try clear hfz10_0
      try clear hfz10_1
      try clear hfz10_2
      try clear hfz13_0
      try clear hfz13_1
      try clear hfz13_2
      try clear hfz16_0
      try clear hfz16_1
      try clear hfz16_2
      try clear hfz18_0
      try clear hfz18_1
      try clear hfz18_2
      try clear hfz5_0
      try clear hfz5_1
      try clear hfz5_2
      obtain ⟨x29_1, rfl, HA, HK1, BK145, HB⟩ := hrel
      cases gk with
      | zero => exact absurd HA.out (by simp [def_Check.l0])
      | succ k1 =>
       have H := HA.out
       clear HA
       simp only [def_Check.l0] at H
       have HF19 := ak_ H
       clear H
       go_upto_if 30 with (fail)
       have H := HF19.out
       clear HF19
       by_cases c20 : x29_1 < (l0_2.length : Int)
       · rw [if_pos c20] at H
         have c20b0 : decide (x29_1 < (l0_2.length : Int)) = true := dt_ c20
         clear c20
         (first | rw [c20b0] | (simp only [i64_w, i32_w]; rw [c20b0]) | skip)
         replace H := ob_ H
         obtain ⟨t148, A210, H⟩ := H
         replace H : (if t148 = 0 then (def_Check.l0 k1 (l0_2.length : Int) (wrap64 (x29_1 + 1)) a0_0 a0_1 l0_2) else (some (x29_1, t148))) = some (r1, r2) := H
         have A21 := ak_ A210
         clear A210
         have HF22 := ak_ H
         clear H
         have hcz23_0 : wr.cell? ⟨gb145, 0, none⟩ = some (.string a0_0) := (zc BK145.out 0).trans rfl
         have hcz23_1 : wr.cell? ⟨gb145, 1, none⟩ = some (.int .i64 a0_1) := (zc BK145.out 1).trans rfl
         have hcz23_2 : wr.cell? ⟨gb145, 2, none⟩ = some (.slice A0_2 l0_2.length c0_2) := (zc BK145.out 2).trans rfl
         have hfz23_0 := zf BK145.out 0
         have hfz23_1 := zf BK145.out 1
         have hfz23_2 := zf BK145.out 2
         go_upto_if 37 with (first | ((with_reducible refine gate_callee (f := 59) rfl ?_); refine goesL_ (some 35) rfl rfl Tryd.func59 (by kernel_rfl) rfl #[.slice A0_2 l0_2.length c0_2, .int .i64 x29_1] rfl (by (try simp only [mt_, mc_, mn_]); first | done | rfl) ?_; (with_reducible refine (def_step.calls _ _ l0_2 x29_1 t148 _ ?side1 ?side2 ?tab_ A21.out).mono ?_); (case tab_ => first | exact HT.out | exact Tabs_.below HT.out (by with_reducible repeat first | exact HB.out | apply pa | apply pd | apply pe)); (case side1 => repeat (first | exact (Kd.C_below HR0_2.out HB.out) | (with_reducible refine Kd.C_alloc ?_ _) | (with_reducible refine Kd.C_drewN ?_ _) | (with_reducible refine Kd.C_drew ?_))); (case side2 => exact HC0_2.out); rintro e w24 ⟨rfl, hb⟩; refine ⟨_, rfl, ?_⟩; have n0_ := ak_ (blk_below (g := gb145) (o := .cells #[.string a0_0, .int .i64 a0_1, .slice A0_2 l0_2.length c0_2] 24 (0, 0)) (by (with_reducible repeat (first | apply zn | apply zd | apply za)); exact BK145.out) hb); have n1_ := ak_ (ps (by with_reducible repeat first | exact HB.out | apply pa | apply pd | apply pe | refine zs ?_ GE145.out) hb); clear BK145 HB; have BK145 := n0_; have HB := n1_; clear n0_ n1_))
         (try simp only [Act.put, sa_, sz_, ss_])
         have H := HF22.out
         clear HF22
         by_cases c25 : t148 = 0
         · rw [if_pos c25] at H
           have c25b0 : (t148 == 0) = true := beq_iff_eq.mpr c25
           have c25b1 : (t148 != 0) = false := bne_eq_false_iff_eq.mpr c25
           clear c25
           (first | rw [c25b0] | (simp only [i64_w, i32_w]; rw [c25b0]) | skip)
           have H' := ak_ H
           clear H
           go_wp2
           go_roundg k1
           case measure => have := HK1.out; omega
           case rel => exact ⟨(wrap64 (x29_1 + 1)), (by first | rfl | simp [*]), H', ⟨by have := HK1.out; omega⟩, ⟨by (with_reducible repeat (first | apply zn | apply zd | apply za)); exact BK145.out⟩, ⟨by repeat (first | (with_reducible first | exact HB.out | apply pa | apply pd | apply pe | refine zs ?_ GE145.out) | exact HB.out)⟩⟩
         rw [if_neg c25] at H
         have c25b0 : (t148 == 0) = false := beq_eq_false_iff_ne.mpr c25
         have c25b1 : (t148 != 0) = true := bne_iff_ne.mpr c25
         (first | rw [c25b0] | (simp only [i64_w, i32_w]; rw [c25b0]) | skip)
         simp only [Option.some.injEq, Prod.mk.injEq] at H
         obtain ⟨rfl, rfl⟩ := H
         go_wp2
         go_ret2
         exact ⟨by first | rfl | simp [*], by repeat (first | (with_reducible first | exact HB.out | apply pa | apply pd | apply pe | refine zs ?_ GE145.out) | exact HB.out)⟩
       rw [if_neg c20] at H
       have c20b0 : decide (x29_1 < (l0_2.length : Int)) = false := df_ c20
       clear c20
       (first | rw [c20b0] | (simp only [i64_w, i32_w]; rw [c20b0]) | skip)
       simp only [Option.some.injEq, Prod.mk.injEq] at H
       obtain ⟨rfl, rfl⟩ := H
       go_wp2
       go_ret2
       exact ⟨by first | rfl | simp [*], by repeat (first | (with_reducible first | exact HB.out | apply pa | apply pd | apply pe | refine zs ?_ GE145.out) | exact HB.out)⟩
   replace c11 := Bool.eq_false_iff.mpr c11
   subst c11
   have H1 : (some ((-1), 1)) = some (r1, r2) := by rw [if_neg (show ¬ (false = true) by decide)] at H; exact H
   clear H
   have H := H1
   clear H1
   simp only [Option.some.injEq, Prod.mk.injEq] at H
   obtain ⟨rfl, rfl⟩ := H
   go_wp2
   go_ret2
   exact ⟨by first | rfl | simp [*], by repeat (first | (with_reducible first | exact HB.out | apply pa | apply pd | apply pe | refine zs ?_ GE145.out) | exact HB.out)⟩
 replace c7 := Bool.eq_false_iff.mpr c7
 subst c7
 have H1 : (some ((-1), 10)) = some (r1, r2) := by rw [if_neg (show ¬ (false = true) by decide)] at H; exact H
 clear H
 have H := H1
 clear H1
 simp only [Option.some.injEq, Prod.mk.injEq] at H
 obtain ⟨rfl, rfl⟩ := H
 go_wp2
 go_ret2
 exact ⟨by first | rfl | simp [*], by repeat (first | (with_reducible first | exact HB.out | apply pa | apply pd | apply pe | refine zs ?_ GE145.out) | exact HB.out)⟩
def uR11_Good.f (a0_0 : Int) (a0_1 : Int) (a0_2 : Int) (a0_3 : Int) : Option (Bool) := if a0_0 ≥ 0 then (if a0_0 ≤ 1000 then (if a0_1 ≥ 1 then (if a0_1 ≤ 1099511627776 then (if a0_2 ≥ 1 then (if a0_2 ≤ 16 then (if a0_3 ≥ a0_1 then (some (decide (a0_3 ≤ 1099511627776))) else (some false)) else (some false)) else (some false)) else (some false)) else (some false)) else (some false)) else (some false)
theorem uR11_Good.calls (a0_0 : Int) (a0_1 : Int) (a0_2 : Int) (a0_3 : Int) (r : Bool) (w : World) (h : uR11_Good.f a0_0 a0_1 a0_2 a0_3 = some r) :
 Calls Tryd.prog 35 #[.agg #[.int .i64 a0_0, .int .i64 a0_1, .int .i64 a0_2, .int .i64 a0_3]] w fun e w' => e = .returned (.bool r) ∧ Below w.heap.size w w' := by
 have hu59 := Tryd.underlying59
 have HB := ak_ (Below.refl w.heap.size w)
 have H : (if a0_0 ≥ 0 then (if a0_0 ≤ 1000 then (if a0_1 ≥ 1 then (if a0_1 ≤ 1099511627776 then (if a0_2 ≥ 1 then (if a0_2 ≤ 16 then (if a0_3 ≥ a0_1 then (some (decide (a0_3 ≤ 1099511627776))) else (some false)) else (some false)) else (some false)) else (some false)) else (some false)) else (some false)) else (some false)) = some r := h
 clear h
 by_cases c2 : a0_0 ≥ 0
 · rw [if_pos c2] at H
   have c2b0 : decide (0 ≤ a0_0) = true := dt_ c2
   clear c2
   by_cases c3 : a0_0 ≤ 1000
   · rw [if_pos c3] at H
     have c3b0 : decide (a0_0 ≤ 1000) = true := dt_ c3
     clear c3
     by_cases c4 : a0_1 ≥ 1
     · rw [if_pos c4] at H
       have c4b0 : decide (1 ≤ a0_1) = true := dt_ c4
       clear c4
       by_cases c5 : a0_1 ≤ 1099511627776
       · rw [if_pos c5] at H
         have c5b0 : decide (a0_1 ≤ 1099511627776) = true := dt_ c5
         clear c5
         by_cases c6 : a0_2 ≥ 1
         · rw [if_pos c6] at H
           have c6b0 : decide (1 ≤ a0_2) = true := dt_ c6
           clear c6
           by_cases c7 : a0_2 ≤ 16
           · rw [if_pos c7] at H
             have c7b0 : decide (a0_2 ≤ 16) = true := dt_ c7
             clear c7
             by_cases c8 : a0_3 ≥ a0_1
             · rw [if_pos c8] at H
               have c8b0 : decide (a0_1 ≤ a0_3) = true := dt_ c8
               clear c8
               obtain rfl := Option.some.inj H
               go_enter Tryd.func35, Tryd.ntmps35
               go_wp2_with (first | ((with_reducible refine gate_dst (N := 1) rfl ?_); refine box_event ?hg (N := 1) ?hd (cs := #[.int .i64 a0_0, .int .i64 a0_1, .int .i64 a0_2, .int .i64 a0_3]) (t := 59) ?hr ?_; (case hd | hg => rfl); (case hr => first | (go_simp; done) | (go_simp; rfl)); intro gb157 hg w9 hbox hb; have n0_ := ak_ (ps (by with_reducible repeat first | exact HB.out | apply pa | apply pd | apply pe) hb); have n1_ := ak_ (hbox); have n2_ := ak_ ((by rw [hg]; exact (below_size (by with_reducible repeat first | exact HB.out | apply pa | apply pd | apply pe)) : w.heap.size ≤ gb157)); have n3_ := ak_ ((by rw [hg]; exact (below_size (by with_reducible repeat first | exact HB.out | apply pa | apply pd | apply pe)) : w.heap.size ≤ gb157)); clear HB; have HB := n0_; have BK157 := n1_; have GW157 := n2_; have GE157 := n3_; clear n0_ n1_ n2_ n3_ hb hbox hg; have hcz10_0 : w9.cell? ⟨gb157, 0, none⟩ = some (.int .i64 a0_0) := (zc BK157.out 0).trans rfl; have hcz10_1 : w9.cell? ⟨gb157, 1, none⟩ = some (.int .i64 a0_1) := (zc BK157.out 1).trans rfl; have hcz10_2 : w9.cell? ⟨gb157, 2, none⟩ = some (.int .i64 a0_2) := (zc BK157.out 2).trans rfl; have hcz10_3 : w9.cell? ⟨gb157, 3, none⟩ = some (.int .i64 a0_3) := (zc BK157.out 3).trans rfl; have hfz10_0 := zf BK157.out 0; have hfz10_1 := zf BK157.out 1; have hfz10_2 := zf BK157.out 2; have hfz10_3 := zf BK157.out 3))
               go_ret
               exact ⟨by first | rfl | simp [*], by repeat (first | (with_reducible first | exact HB.out | apply pa | apply pd | apply pe | refine zs ?_ GE157.out) | exact HB.out)⟩
             rw [if_neg c8] at H
             have c8b0 : decide (a0_1 ≤ a0_3) = false := df_ c8
             clear c8
             obtain rfl := Option.some.inj H
             go_enter Tryd.func35, Tryd.ntmps35
             go_wp2_with (first | ((with_reducible refine gate_dst (N := 1) rfl ?_); refine box_event ?hg (N := 1) ?hd (cs := #[.int .i64 a0_0, .int .i64 a0_1, .int .i64 a0_2, .int .i64 a0_3]) (t := 59) ?hr ?_; (case hd | hg => rfl); (case hr => first | (go_simp; done) | (go_simp; rfl)); intro gb157 hg w11 hbox hb; have n0_ := ak_ (ps (by with_reducible repeat first | exact HB.out | apply pa | apply pd | apply pe) hb); have n1_ := ak_ (hbox); have n2_ := ak_ ((by rw [hg]; exact (below_size (by with_reducible repeat first | exact HB.out | apply pa | apply pd | apply pe)) : w.heap.size ≤ gb157)); have n3_ := ak_ ((by rw [hg]; exact (below_size (by with_reducible repeat first | exact HB.out | apply pa | apply pd | apply pe)) : w.heap.size ≤ gb157)); clear HB; have HB := n0_; have BK157 := n1_; have GW157 := n2_; have GE157 := n3_; clear n0_ n1_ n2_ n3_ hb hbox hg; have hcz12_0 : w11.cell? ⟨gb157, 0, none⟩ = some (.int .i64 a0_0) := (zc BK157.out 0).trans rfl; have hcz12_1 : w11.cell? ⟨gb157, 1, none⟩ = some (.int .i64 a0_1) := (zc BK157.out 1).trans rfl; have hcz12_2 : w11.cell? ⟨gb157, 2, none⟩ = some (.int .i64 a0_2) := (zc BK157.out 2).trans rfl; have hcz12_3 : w11.cell? ⟨gb157, 3, none⟩ = some (.int .i64 a0_3) := (zc BK157.out 3).trans rfl; have hfz12_0 := zf BK157.out 0; have hfz12_1 := zf BK157.out 1; have hfz12_2 := zf BK157.out 2; have hfz12_3 := zf BK157.out 3))
             go_ret
             exact ⟨by first | rfl | simp [*], by repeat (first | (with_reducible first | exact HB.out | apply pa | apply pd | apply pe | refine zs ?_ GE157.out) | exact HB.out)⟩
           rw [if_neg c7] at H
           have c7b0 : decide (a0_2 ≤ 16) = false := df_ c7
           clear c7
           obtain rfl := Option.some.inj H
           go_enter Tryd.func35, Tryd.ntmps35
           go_wp2_with (first | ((with_reducible refine gate_dst (N := 1) rfl ?_); refine box_event ?hg (N := 1) ?hd (cs := #[.int .i64 a0_0, .int .i64 a0_1, .int .i64 a0_2, .int .i64 a0_3]) (t := 59) ?hr ?_; (case hd | hg => rfl); (case hr => first | (go_simp; done) | (go_simp; rfl)); intro gb157 hg w13 hbox hb; have n0_ := ak_ (ps (by with_reducible repeat first | exact HB.out | apply pa | apply pd | apply pe) hb); have n1_ := ak_ (hbox); have n2_ := ak_ ((by rw [hg]; exact (below_size (by with_reducible repeat first | exact HB.out | apply pa | apply pd | apply pe)) : w.heap.size ≤ gb157)); have n3_ := ak_ ((by rw [hg]; exact (below_size (by with_reducible repeat first | exact HB.out | apply pa | apply pd | apply pe)) : w.heap.size ≤ gb157)); clear HB; have HB := n0_; have BK157 := n1_; have GW157 := n2_; have GE157 := n3_; clear n0_ n1_ n2_ n3_ hb hbox hg; have hcz14_0 : w13.cell? ⟨gb157, 0, none⟩ = some (.int .i64 a0_0) := (zc BK157.out 0).trans rfl; have hcz14_1 : w13.cell? ⟨gb157, 1, none⟩ = some (.int .i64 a0_1) := (zc BK157.out 1).trans rfl; have hcz14_2 : w13.cell? ⟨gb157, 2, none⟩ = some (.int .i64 a0_2) := (zc BK157.out 2).trans rfl; have hcz14_3 : w13.cell? ⟨gb157, 3, none⟩ = some (.int .i64 a0_3) := (zc BK157.out 3).trans rfl; have hfz14_0 := zf BK157.out 0; have hfz14_1 := zf BK157.out 1; have hfz14_2 := zf BK157.out 2; have hfz14_3 := zf BK157.out 3))
           go_ret
           exact ⟨by first | rfl | simp [*], by repeat (first | (with_reducible first | exact HB.out | apply pa | apply pd | apply pe | refine zs ?_ GE157.out) | exact HB.out)⟩
         rw [if_neg c6] at H
         have c6b0 : decide (1 ≤ a0_2) = false := df_ c6
         clear c6
         obtain rfl := Option.some.inj H
         go_enter Tryd.func35, Tryd.ntmps35
         go_wp2_with (first | ((with_reducible refine gate_dst (N := 1) rfl ?_); refine box_event ?hg (N := 1) ?hd (cs := #[.int .i64 a0_0, .int .i64 a0_1, .int .i64 a0_2, .int .i64 a0_3]) (t := 59) ?hr ?_; (case hd | hg => rfl); (case hr => first | (go_simp; done) | (go_simp; rfl)); intro gb157 hg w15 hbox hb; have n0_ := ak_ (ps (by with_reducible repeat first | exact HB.out | apply pa | apply pd | apply pe) hb); have n1_ := ak_ (hbox); have n2_ := ak_ ((by rw [hg]; exact (below_size (by with_reducible repeat first | exact HB.out | apply pa | apply pd | apply pe)) : w.heap.size ≤ gb157)); have n3_ := ak_ ((by rw [hg]; exact (below_size (by with_reducible repeat first | exact HB.out | apply pa | apply pd | apply pe)) : w.heap.size ≤ gb157)); clear HB; have HB := n0_; have BK157 := n1_; have GW157 := n2_; have GE157 := n3_; clear n0_ n1_ n2_ n3_ hb hbox hg; have hcz16_0 : w15.cell? ⟨gb157, 0, none⟩ = some (.int .i64 a0_0) := (zc BK157.out 0).trans rfl; have hcz16_1 : w15.cell? ⟨gb157, 1, none⟩ = some (.int .i64 a0_1) := (zc BK157.out 1).trans rfl; have hcz16_2 : w15.cell? ⟨gb157, 2, none⟩ = some (.int .i64 a0_2) := (zc BK157.out 2).trans rfl; have hcz16_3 : w15.cell? ⟨gb157, 3, none⟩ = some (.int .i64 a0_3) := (zc BK157.out 3).trans rfl; have hfz16_0 := zf BK157.out 0; have hfz16_1 := zf BK157.out 1; have hfz16_2 := zf BK157.out 2; have hfz16_3 := zf BK157.out 3))
         go_ret
         exact ⟨by first | rfl | simp [*], by repeat (first | (with_reducible first | exact HB.out | apply pa | apply pd | apply pe | refine zs ?_ GE157.out) | exact HB.out)⟩
       rw [if_neg c5] at H
       have c5b0 : decide (a0_1 ≤ 1099511627776) = false := df_ c5
       clear c5
       obtain rfl := Option.some.inj H
       go_enter Tryd.func35, Tryd.ntmps35
       go_wp2_with (first | ((with_reducible refine gate_dst (N := 1) rfl ?_); refine box_event ?hg (N := 1) ?hd (cs := #[.int .i64 a0_0, .int .i64 a0_1, .int .i64 a0_2, .int .i64 a0_3]) (t := 59) ?hr ?_; (case hd | hg => rfl); (case hr => first | (go_simp; done) | (go_simp; rfl)); intro gb157 hg w17 hbox hb; have n0_ := ak_ (ps (by with_reducible repeat first | exact HB.out | apply pa | apply pd | apply pe) hb); have n1_ := ak_ (hbox); have n2_ := ak_ ((by rw [hg]; exact (below_size (by with_reducible repeat first | exact HB.out | apply pa | apply pd | apply pe)) : w.heap.size ≤ gb157)); have n3_ := ak_ ((by rw [hg]; exact (below_size (by with_reducible repeat first | exact HB.out | apply pa | apply pd | apply pe)) : w.heap.size ≤ gb157)); clear HB; have HB := n0_; have BK157 := n1_; have GW157 := n2_; have GE157 := n3_; clear n0_ n1_ n2_ n3_ hb hbox hg; have hcz18_0 : w17.cell? ⟨gb157, 0, none⟩ = some (.int .i64 a0_0) := (zc BK157.out 0).trans rfl; have hcz18_1 : w17.cell? ⟨gb157, 1, none⟩ = some (.int .i64 a0_1) := (zc BK157.out 1).trans rfl; have hcz18_2 : w17.cell? ⟨gb157, 2, none⟩ = some (.int .i64 a0_2) := (zc BK157.out 2).trans rfl; have hcz18_3 : w17.cell? ⟨gb157, 3, none⟩ = some (.int .i64 a0_3) := (zc BK157.out 3).trans rfl; have hfz18_0 := zf BK157.out 0; have hfz18_1 := zf BK157.out 1; have hfz18_2 := zf BK157.out 2; have hfz18_3 := zf BK157.out 3))
       go_ret
       exact ⟨by first | rfl | simp [*], by repeat (first | (with_reducible first | exact HB.out | apply pa | apply pd | apply pe | refine zs ?_ GE157.out) | exact HB.out)⟩
     rw [if_neg c4] at H
     have c4b0 : decide (1 ≤ a0_1) = false := df_ c4
     clear c4
     obtain rfl := Option.some.inj H
     go_enter Tryd.func35, Tryd.ntmps35
     go_wp2_with (first | ((with_reducible refine gate_dst (N := 1) rfl ?_); refine box_event ?hg (N := 1) ?hd (cs := #[.int .i64 a0_0, .int .i64 a0_1, .int .i64 a0_2, .int .i64 a0_3]) (t := 59) ?hr ?_; (case hd | hg => rfl); (case hr => first | (go_simp; done) | (go_simp; rfl)); intro gb157 hg w19 hbox hb; have n0_ := ak_ (ps (by with_reducible repeat first | exact HB.out | apply pa | apply pd | apply pe) hb); have n1_ := ak_ (hbox); have n2_ := ak_ ((by rw [hg]; exact (below_size (by with_reducible repeat first | exact HB.out | apply pa | apply pd | apply pe)) : w.heap.size ≤ gb157)); have n3_ := ak_ ((by rw [hg]; exact (below_size (by with_reducible repeat first | exact HB.out | apply pa | apply pd | apply pe)) : w.heap.size ≤ gb157)); clear HB; have HB := n0_; have BK157 := n1_; have GW157 := n2_; have GE157 := n3_; clear n0_ n1_ n2_ n3_ hb hbox hg; have hcz20_0 : w19.cell? ⟨gb157, 0, none⟩ = some (.int .i64 a0_0) := (zc BK157.out 0).trans rfl; have hcz20_1 : w19.cell? ⟨gb157, 1, none⟩ = some (.int .i64 a0_1) := (zc BK157.out 1).trans rfl; have hcz20_2 : w19.cell? ⟨gb157, 2, none⟩ = some (.int .i64 a0_2) := (zc BK157.out 2).trans rfl; have hcz20_3 : w19.cell? ⟨gb157, 3, none⟩ = some (.int .i64 a0_3) := (zc BK157.out 3).trans rfl; have hfz20_0 := zf BK157.out 0; have hfz20_1 := zf BK157.out 1; have hfz20_2 := zf BK157.out 2; have hfz20_3 := zf BK157.out 3))
     go_ret
     exact ⟨by first | rfl | simp [*], by repeat (first | (with_reducible first | exact HB.out | apply pa | apply pd | apply pe | refine zs ?_ GE157.out) | exact HB.out)⟩
   rw [if_neg c3] at H
   have c3b0 : decide (a0_0 ≤ 1000) = false := df_ c3
   clear c3
   obtain rfl := Option.some.inj H
   go_enter Tryd.func35, Tryd.ntmps35
   go_wp2_with (first | ((with_reducible refine gate_dst (N := 1) rfl ?_); refine box_event ?hg (N := 1) ?hd (cs := #[.int .i64 a0_0, .int .i64 a0_1, .int .i64 a0_2, .int .i64 a0_3]) (t := 59) ?hr ?_; (case hd | hg => rfl); (case hr => first | (go_simp; done) | (go_simp; rfl)); intro gb157 hg w21 hbox hb; have n0_ := ak_ (ps (by with_reducible repeat first | exact HB.out | apply pa | apply pd | apply pe) hb); have n1_ := ak_ (hbox); have n2_ := ak_ ((by rw [hg]; exact (below_size (by with_reducible repeat first | exact HB.out | apply pa | apply pd | apply pe)) : w.heap.size ≤ gb157)); have n3_ := ak_ ((by rw [hg]; exact (below_size (by with_reducible repeat first | exact HB.out | apply pa | apply pd | apply pe)) : w.heap.size ≤ gb157)); clear HB; have HB := n0_; have BK157 := n1_; have GW157 := n2_; have GE157 := n3_; clear n0_ n1_ n2_ n3_ hb hbox hg; have hcz22_0 : w21.cell? ⟨gb157, 0, none⟩ = some (.int .i64 a0_0) := (zc BK157.out 0).trans rfl; have hcz22_1 : w21.cell? ⟨gb157, 1, none⟩ = some (.int .i64 a0_1) := (zc BK157.out 1).trans rfl; have hcz22_2 : w21.cell? ⟨gb157, 2, none⟩ = some (.int .i64 a0_2) := (zc BK157.out 2).trans rfl; have hcz22_3 : w21.cell? ⟨gb157, 3, none⟩ = some (.int .i64 a0_3) := (zc BK157.out 3).trans rfl; have hfz22_0 := zf BK157.out 0; have hfz22_1 := zf BK157.out 1; have hfz22_2 := zf BK157.out 2; have hfz22_3 := zf BK157.out 3))
   go_ret
   exact ⟨by first | rfl | simp [*], by repeat (first | (with_reducible first | exact HB.out | apply pa | apply pd | apply pe | refine zs ?_ GE157.out) | exact HB.out)⟩
 rw [if_neg c2] at H
 have c2b0 : decide (0 ≤ a0_0) = false := df_ c2
 clear c2
 obtain rfl := Option.some.inj H
 go_enter Tryd.func35, Tryd.ntmps35
 go_wp2_with (first | ((with_reducible refine gate_dst (N := 1) rfl ?_); refine box_event ?hg (N := 1) ?hd (cs := #[.int .i64 a0_0, .int .i64 a0_1, .int .i64 a0_2, .int .i64 a0_3]) (t := 59) ?hr ?_; (case hd | hg => rfl); (case hr => first | (go_simp; done) | (go_simp; rfl)); intro gb157 hg w23 hbox hb; have n0_ := ak_ (ps (by with_reducible repeat first | exact HB.out | apply pa | apply pd | apply pe) hb); have n1_ := ak_ (hbox); have n2_ := ak_ ((by rw [hg]; exact (below_size (by with_reducible repeat first | exact HB.out | apply pa | apply pd | apply pe)) : w.heap.size ≤ gb157)); have n3_ := ak_ ((by rw [hg]; exact (below_size (by with_reducible repeat first | exact HB.out | apply pa | apply pd | apply pe)) : w.heap.size ≤ gb157)); clear HB; have HB := n0_; have BK157 := n1_; have GW157 := n2_; have GE157 := n3_; clear n0_ n1_ n2_ n3_ hb hbox hg; have hcz24_0 : w23.cell? ⟨gb157, 0, none⟩ = some (.int .i64 a0_0) := (zc BK157.out 0).trans rfl; have hcz24_1 : w23.cell? ⟨gb157, 1, none⟩ = some (.int .i64 a0_1) := (zc BK157.out 1).trans rfl; have hcz24_2 : w23.cell? ⟨gb157, 2, none⟩ = some (.int .i64 a0_2) := (zc BK157.out 2).trans rfl; have hcz24_3 : w23.cell? ⟨gb157, 3, none⟩ = some (.int .i64 a0_3) := (zc BK157.out 3).trans rfl; have hfz24_0 := zf BK157.out 0; have hfz24_1 := zf BK157.out 1; have hfz24_2 := zf BK157.out 2; have hfz24_3 := zf BK157.out 3))
 go_ret
 exact ⟨by first | rfl | simp [*], by repeat (first | (with_reducible first | exact HB.out | apply pa | apply pd | apply pe | refine zs ?_ GE157.out) | exact HB.out)⟩
end Go.Proofs.YtcgpbakimkhdpaaDoor.Q
