/- Part 4 of a claim's texts. -/
import Derived.Test.YtcgpbakimkhdpaaDoorPk1
import Derived.Test.YtcgpbakimkhdpaaDoorPk3
import Derived.Test.YtcgpbakimkhdpaaDoorPk2
import Derived.Lib.SliceRun
import Derived.Lib.Hide
import Derived.Outline
namespace Go.Proofs.YtcgpbakimkhdpaaDoor.Q
open Go.RowKit Go.Proofs.YtcgpbakimkhdpaaDoorW.PrintWords Go.Proofs.YtcgpbakimkhdpaaDoorW.PrintLast Go.Proofs.YtcgpbakimkhdpaaDoorW.PrintMore
attribute [local go_sem] max2_int min2_int max_two min_two max_three min_three max_four min_four
set_option linter.unusedVariables false
set_option linter.unusedSimpArgs false
set_option maxHeartbeats 8000000
set_option maxRecDepth 100000
open Go.Proofs.YtcgpbakimkhdpaaDoor.Q.H_
mutual
def uK.j0 : Nat → Bool → ByteArray → Int → List (S61) → Option (Int × Int)
 | 0, _, _, _, _ => none
 | k + 1, x18, x159000, x159001, x159002 => if x18 = true then (some ((-1), 1)) else (if (x159002.length : Int) < 1 then (some ((-1), 2)) else (if (x159002.length : Int) > 32 then (some ((-1), 4)) else (uK.l0 k 0 x159000 x159001 x159002)))
def uK.l0 : Nat → Int → ByteArray → Int → List (S61) → Option (Int × Int)
 | 0, _, _, _, _ => none
 | k + 1, x4, x159000, x159001, x159002 => if x4 < (x159002.length : Int) then (if 0 ≤ x4 then ((uR02_Good.f k ((rT x159002 x4).f0)).bind fun t162 => (if t162 = true then ((uR02_Good.f k ((rT x159002 x4).f1)).bind fun t163 => (uK.j2 k x4 (!t163) x159000 x159001 x159002 ((rT x159002 x4).f0) ((rT x159002 x4).f1) ((rT x159002 x4).f2) ((rT x159002 x4).f3.f0) ((rT x159002 x4).f3.f1) ((rT x159002 x4).f3.f2) ((rT x159002 x4).f3.f3) ((rT x159002 x4).f4.f0) ((rT x159002 x4).f4.f1) ((rT x159002 x4).f4.f2) ((rT x159002 x4).f4.f3) ((rT x159002 x4).f5))) else (uK.j2 k x4 true x159000 x159001 x159002 ((rT x159002 x4).f0) ((rT x159002 x4).f1) ((rT x159002 x4).f2) ((rT x159002 x4).f3.f0) ((rT x159002 x4).f3.f1) ((rT x159002 x4).f3.f2) ((rT x159002 x4).f3.f3) ((rT x159002 x4).f4.f0) ((rT x159002 x4).f4.f1) ((rT x159002 x4).f4.f2) ((rT x159002 x4).f4.f3) ((rT x159002 x4).f5)))) else (none)) else (some ((-1), 0))
def uK.j2 : Nat → Int → Bool → ByteArray → Int → List (S61) → ByteArray → ByteArray → Int → Int → Int → Int → Int → Int → Int → Int → Int → Int → Option (Int × Int)
 | 0, _, _, _, _, _, _, _, _, _, _, _, _, _, _, _, _, _ => none
 | k + 1, x4, x48, x159000, x159001, x159002, x162000, x162001, x162002, x162003, x162004, x162005, x162006, x162007, x162008, x162009, x162010, x162011 => if x48 = true then (some (x4, 10)) else (uK.l1 k x4 0 x159000 x159001 x159002 x162000 x162001 x162002 x162003 x162004 x162005 x162006 x162007 x162008 x162009 x162010 x162011)
def uK.l1 : Nat → Int → Int → ByteArray → Int → List (S61) → ByteArray → ByteArray → Int → Int → Int → Int → Int → Int → Int → Int → Int → Int → Option (Int × Int)
 | 0, _, _, _, _, _, _, _, _, _, _, _, _, _, _, _, _, _ => none
 | k + 1, x4, x6, x159000, x159001, x159002, x162000, x162001, x162002, x162003, x162004, x162005, x162006, x162007, x162008, x162009, x162010, x162011 => if x6 < x4 then (if 0 ≤ x6 then (if x6 < (x159002.length : Int) then (if ((rT x159002 x6).f0).toList = x162000.toList then (some (x4, 6)) else (uK.l1 k x4 (wrap64 (x6 + 1)) x159000 x159001 x159002 x162000 x162001 x162002 x162003 x162004 x162005 x162006 x162007 x162008 x162009 x162010 x162011)) else (none)) else (none)) else (if x162002 < 1 then (uK.j4 k x4 true x159000 x159001 x159002 x162000 x162001 x162002 x162003 x162004 x162005 x162006 x162007 x162008 x162009 x162010 x162011) else (if x162002 > 1099511627776 then (uK.j4 k x4 true x159000 x159001 x159002 x162000 x162001 x162002 x162003 x162004 x162005 x162006 x162007 x162008 x162009 x162010 x162011) else (if x162011 < 0 then (uK.j4 k x4 true x159000 x159001 x159002 x162000 x162001 x162002 x162003 x162004 x162005 x162006 x162007 x162008 x162009 x162010 x162011) else (uK.j4 k x4 (decide (x162011 > 255)) x159000 x159001 x159002 x162000 x162001 x162002 x162003 x162004 x162005 x162006 x162007 x162008 x162009 x162010 x162011))))
def uK.j4 : Nat → Int → Bool → ByteArray → Int → List (S61) → ByteArray → ByteArray → Int → Int → Int → Int → Int → Int → Int → Int → Int → Int → Option (Int × Int)
 | 0, _, _, _, _, _, _, _, _, _, _, _, _, _, _, _, _, _ => none
 | k + 1, x4, x82, x159000, x159001, x159002, x162000, x162001, x162002, x162003, x162004, x162005, x162006, x162007, x162008, x162009, x162010, x162011 => if x82 = true then (some (x4, 1)) else ((uR11_Good.f x162003 x162004 x162005 x162006).bind fun t165 => (if t165 = true then ((uR11_Good.f x162007 x162008 x162009 x162010).bind fun t166 => (if t166 = true then (uK.l0 k (wrap64 (x4 + 1)) x159000 x159001 x159002) else (some (x4, 3)))) else (some (x4, 3))))
end
def uK.f (k : Nat) (a0_0 : ByteArray) (a0_1 : Int) (l0_2 : List (S61)) : Option (Int × Int) := (uR02_Good.f k a0_0).bind fun t159 => (if t159 = true then (if a0_1 < 0 then (uK.j0 k true a0_0 a0_1 l0_2) else (uK.j0 k (decide (a0_1 > 1099511627776)) a0_0 a0_1 l0_2)) else (some ((-1), 10)))
theorem uK.calls (k : Nat) (a0_0 : ByteArray) (a0_1 : Int) (A0_2 : Option Addr) (c0_2 : Nat) (l0_2 : List (S61)) (r1 : Int) (r2 : Int) (w : World) (hr0_2 : Kd.C k61 w A0_2 l0_2.length l0_2) (hc0_2 : l0_2.length ≤ c0_2) (h : uK.f k a0_0 a0_1 l0_2 = some (r1, r2)) :
 Calls Tryd.prog 13 #[.agg #[.string a0_0, .int .i64 a0_1, .slice A0_2 l0_2.length c0_2]] w fun e w' => e = .returned (.tuple #[.int .i64 r1, .int .i64 r2]) ∧ Below w.heap.size w w' := by
 have hu24 := Tryd.underlying24
 have hu61 := Tryd.underlying61
 have hu59 := Tryd.underlying59
 have HR0_2 := ak_ hr0_2
 have HC0_2 := ak_ hc0_2
 clear hr0_2 hc0_2
 have HB := ak_ (Below.refl w.heap.size w)
 have H : ((uR02_Good.f k a0_0).bind fun t159 => (if t159 = true then (if a0_1 < 0 then (uK.j0 k true a0_0 a0_1 l0_2) else (uK.j0 k (decide (a0_1 > 1099511627776)) a0_0 a0_1 l0_2)) else (some ((-1), 10)))) = some (r1, r2) := h
 clear h
 replace H := ob_ H
 obtain ⟨t159, A20, H⟩ := H
 replace H : (if t159 = true then (if a0_1 < 0 then (uK.j0 k true a0_0 a0_1 l0_2) else (uK.j0 k (decide (a0_1 > 1099511627776)) a0_0 a0_1 l0_2)) else (some ((-1), 10))) = some (r1, r2) := H
 have A2 := ak_ A20
 clear A20
 have HF3 := ak_ H
 clear H
 go_enter Tryd.func13, Tryd.ntmps13
 go_upto_if 10 with (first | ((with_reducible refine gate_dst (N := 1) rfl ?_); refine box_event ?hg (N := 1) ?hd (cs := #[.string a0_0, .int .i64 a0_1, .slice A0_2 l0_2.length c0_2]) (t := 24) ?hr ?_; (case hd | hg => rfl); (case hr => first | (go_simp; done) | (go_simp; rfl)); intro gb158 hg w4 hbox hb; have n0_ := ak_ (ps (by with_reducible repeat first | exact HB.out | apply pa | apply pd | apply pe) hb); have n1_ := ak_ (hbox); have n2_ := ak_ ((by rw [hg]; exact (below_size (by with_reducible repeat first | exact HB.out | apply pa | apply pd | apply pe)) : w.heap.size ≤ gb158)); have n3_ := ak_ ((by rw [hg]; exact (below_size (by with_reducible repeat first | exact HB.out | apply pa | apply pd | apply pe)) : w.heap.size ≤ gb158)); clear HB; have HB := n0_; have BK158 := n1_; have GW158 := n2_; have GE158 := n3_; clear n0_ n1_ n2_ n3_ hb hbox hg; have hcz5_0 : w4.cell? ⟨gb158, 0, none⟩ = some (.string a0_0) := (zc BK158.out 0).trans rfl; have hcz5_1 : w4.cell? ⟨gb158, 1, none⟩ = some (.int .i64 a0_1) := (zc BK158.out 1).trans rfl; have hcz5_2 : w4.cell? ⟨gb158, 2, none⟩ = some (.slice A0_2 l0_2.length c0_2) := (zc BK158.out 2).trans rfl; have hfz5_0 := zf BK158.out 0; have hfz5_1 := zf BK158.out 1; have hfz5_2 := zf BK158.out 2) | (go_at_call 34; (with_reducible refine (uR02_Good.calls k a0_0 t159 _ A2.out).mono ?_); rintro e w' ⟨rfl, ⟨nd, rfl⟩⟩; (try first | exact ⟨rfl, _, World.drewN_drewN _ _ _⟩ | exact ⟨rfl, _, Eq.trans (World.drewN_drewN _ _ _) (congrArg (World.drewN _) (Nat.add_assoc _ _ _))⟩)))
 repeat (go_quiet (first | ((with_reducible refine gate_dst (N := 1) rfl ?_); refine box_event ?hg (N := 1) ?hd (cs := #[.string a0_0, .int .i64 a0_1, .slice A0_2 l0_2.length c0_2]) (t := 24) ?hr ?_; (case hd | hg => rfl); (case hr => first | (go_simp; done) | (go_simp; rfl)); intro gb158 hg w4 hbox hb; have n0_ := ak_ (ps (by with_reducible repeat first | exact HB.out | apply pa | apply pd | apply pe) hb); have n1_ := ak_ (hbox); have n2_ := ak_ ((by rw [hg]; exact (below_size (by with_reducible repeat first | exact HB.out | apply pa | apply pd | apply pe)) : w.heap.size ≤ gb158)); have n3_ := ak_ ((by rw [hg]; exact (below_size (by with_reducible repeat first | exact HB.out | apply pa | apply pd | apply pe)) : w.heap.size ≤ gb158)); clear HB; have HB := n0_; have BK158 := n1_; have GW158 := n2_; have GE158 := n3_; clear n0_ n1_ n2_ n3_ hb hbox hg; have hcz5_0 : w4.cell? ⟨gb158, 0, none⟩ = some (.string a0_0) := (zc BK158.out 0).trans rfl; have hcz5_1 : w4.cell? ⟨gb158, 1, none⟩ = some (.int .i64 a0_1) := (zc BK158.out 1).trans rfl; have hcz5_2 : w4.cell? ⟨gb158, 2, none⟩ = some (.slice A0_2 l0_2.length c0_2) := (zc BK158.out 2).trans rfl; have hfz5_0 := zf BK158.out 0; have hfz5_1 := zf BK158.out 1; have hfz5_2 := zf BK158.out 2) | (go_at_call 34; (with_reducible refine (uR02_Good.calls k a0_0 t159 _ A2.out).mono ?_); rintro e w' ⟨rfl, ⟨nd, rfl⟩⟩; (try first | exact ⟨rfl, _, World.drewN_drewN _ _ _⟩ | exact ⟨rfl, _, Eq.trans (World.drewN_drewN _ _ _) (congrArg (World.drewN _) (Nat.add_assoc _ _ _))⟩))); go_upto_if 10 with (first | ((with_reducible refine gate_dst (N := 1) rfl ?_); refine box_event ?hg (N := 1) ?hd (cs := #[.string a0_0, .int .i64 a0_1, .slice A0_2 l0_2.length c0_2]) (t := 24) ?hr ?_; (case hd | hg => rfl); (case hr => first | (go_simp; done) | (go_simp; rfl)); intro gb158 hg w4 hbox hb; have n0_ := ak_ (ps (by with_reducible repeat first | exact HB.out | apply pa | apply pd | apply pe) hb); have n1_ := ak_ (hbox); have n2_ := ak_ ((by rw [hg]; exact (below_size (by with_reducible repeat first | exact HB.out | apply pa | apply pd | apply pe)) : w.heap.size ≤ gb158)); have n3_ := ak_ ((by rw [hg]; exact (below_size (by with_reducible repeat first | exact HB.out | apply pa | apply pd | apply pe)) : w.heap.size ≤ gb158)); clear HB; have HB := n0_; have BK158 := n1_; have GW158 := n2_; have GE158 := n3_; clear n0_ n1_ n2_ n3_ hb hbox hg; have hcz5_0 : w4.cell? ⟨gb158, 0, none⟩ = some (.string a0_0) := (zc BK158.out 0).trans rfl; have hcz5_1 : w4.cell? ⟨gb158, 1, none⟩ = some (.int .i64 a0_1) := (zc BK158.out 1).trans rfl; have hcz5_2 : w4.cell? ⟨gb158, 2, none⟩ = some (.slice A0_2 l0_2.length c0_2) := (zc BK158.out 2).trans rfl; have hfz5_0 := zf BK158.out 0; have hfz5_1 := zf BK158.out 1; have hfz5_2 := zf BK158.out 2) | (go_at_call 34; (with_reducible refine (uR02_Good.calls k a0_0 t159 _ A2.out).mono ?_); rintro e w' ⟨rfl, ⟨nd, rfl⟩⟩; (try first | exact ⟨rfl, _, World.drewN_drewN _ _ _⟩ | exact ⟨rfl, _, Eq.trans (World.drewN_drewN _ _ _) (congrArg (World.drewN _) (Nat.add_assoc _ _ _))⟩))))
 (try simp only [Act.put, sa_, sz_, ss_])
 have H := HF3.out
 clear HF3
 by_cases c6 : t159 = true
 · subst c6
   have H1 : (if a0_1 < 0 then (uK.j0 k true a0_0 a0_1 l0_2) else (uK.j0 k (decide (a0_1 > 1099511627776)) a0_0 a0_1 l0_2)) = some (r1, r2) := by rw [if_pos rfl] at H; exact H
   clear H
   have H := H1
   clear H1
   have HC7 := ak_ H
   clear H
   go_upto_region 3 with (fail)
   repeat (go_quiet (fail); go_upto_region 3 with (fail))
   go_cut [18] (fun v18 wc => ∃ (kq : Nat) (x18_6 : Bool), v18 = .bool x18_6 ∧ Aside0 (uK.j0 kq x18_6 a0_0 a0_1 l0_2 = some (r1, r2)) ∧ Aside0 (kq ≤ k) ∧ Aside0 (wc.heap[gb158]? = some (.cells #[.string a0_0, .int .i64 a0_1, (.slice A0_2 l0_2.length c0_2)] 24 (0, 0))) ∧ Aside0 (Below w.heap.size w wc))
   case first =>
    have H := HC7.out
    clear HC7
    by_cases c8 : a0_1 < 0
    · rw [if_pos c8] at H
      have c8b0 : decide (a0_1 < 0) = true := dt_ c8
      clear c8
      (first | rw [c8b0] | (simp only [i64_w, i32_w]; rw [c8b0]) | skip)
      have H' := ak_ H
      clear H
      have hcz9_0 : w4.cell? ⟨gb158, 0, none⟩ = some (.string a0_0) := (zc BK158.out 0).trans rfl
      have hcz9_1 : w4.cell? ⟨gb158, 1, none⟩ = some (.int .i64 a0_1) := (zc BK158.out 1).trans rfl
      have hcz9_2 : w4.cell? ⟨gb158, 2, none⟩ = some (.slice A0_2 l0_2.length c0_2) := (zc BK158.out 2).trans rfl
      have hfz9_0 := zf BK158.out 0
      have hfz9_1 := zf BK158.out 1
      have hfz9_2 := zf BK158.out 2
      go_wp2
      repeat (go_quiet (fail); try go_wp2)
      go_meet
      case rel => exact ⟨_, (true), (by first | rfl | simp [*]), H', ⟨by first | omega | exact Nat.le_refl _⟩, ⟨by (with_reducible repeat (first | apply zn | apply zd | apply za)); exact BK158.out⟩, ⟨by repeat (first | (with_reducible first | exact HB.out | apply pa | apply pd | apply pe | refine zs ?_ GE158.out) | exact HB.out)⟩⟩
    rw [if_neg c8] at H
    have c8b0 : decide (a0_1 < 0) = false := df_ c8
    clear c8
    (first | rw [c8b0] | (simp only [i64_w, i32_w]; rw [c8b0]) | skip)
    have H' := ak_ H
    clear H
    have hcz10_0 : w4.cell? ⟨gb158, 0, none⟩ = some (.string a0_0) := (zc BK158.out 0).trans rfl
    have hcz10_1 : w4.cell? ⟨gb158, 1, none⟩ = some (.int .i64 a0_1) := (zc BK158.out 1).trans rfl
    have hcz10_2 : w4.cell? ⟨gb158, 2, none⟩ = some (.slice A0_2 l0_2.length c0_2) := (zc BK158.out 2).trans rfl
    have hfz10_0 := zf BK158.out 0
    have hfz10_1 := zf BK158.out 1
    have hfz10_2 := zf BK158.out 2
    go_wp2
    repeat (go_quiet (fail); try go_wp2)
    go_meet
    case rel => exact ⟨_, (decide (a0_1 > 1099511627776)), (by first | rfl | simp [*]), H', ⟨by first | omega | exact Nat.le_refl _⟩, ⟨by (with_reducible repeat (first | apply zn | apply zd | apply za)); exact BK158.out⟩, ⟨by repeat (first | (with_reducible first | exact HB.out | apply pa | apply pd | apply pe | refine zs ?_ GE158.out) | exact HB.out)⟩⟩
   case rest =>
    clear HC7
    try clear c1
    try clear p2
    try clear c6
    try clear c8
    try clear c8b0
    try clear hcz10_0
    try clear hcz10_1
    try clear hcz10_2
    try clear hcz5_0
    try clear hcz5_1
    try clear hcz5_2
    try clear hcz9_0
    try clear hcz9_1
    try clear hcz9_2
    try clear hfz10_0
    try clear hfz10_1
    try clear hfz10_2
    try clear hfz5_0
    try clear hfz5_1
    try clear hfz5_2
    try clear hfz9_0
    try clear hfz9_1
    try clear hfz9_2
    obtain ⟨kq, x18_6, rfl, HA, HJ6, BK158, HB⟩ := hcut
    cases kq with
    | zero => exact absurd HA.out (by simp [uK.j0])
    | succ kj6 =>
     have H := HA.out
     clear HA
     simp only [uK.j0] at H
     have HF11 := ak_ H
     clear H
     go_upto_if 18 with (fail)
     repeat (go_quiet (fail); go_upto_if 18 with (fail))
     have H := HF11.out
     clear HF11
     by_cases c12 : x18_6 = true
     · subst c12
       have H1 : (some ((-1), 1)) = some (r1, r2) := by rw [if_pos rfl] at H; exact H
       clear H
       have H := H1
       clear H1
       simp only [Option.some.injEq, Prod.mk.injEq] at H
       obtain ⟨rfl, rfl⟩ := H
       go_wp2
       repeat (go_quiet (fail); try go_wp2)
       go_ret2
       exact ⟨by first | rfl | simp [*], by repeat (first | (with_reducible first | exact HB.out | apply pa | apply pd | apply pe | refine zs ?_ GE158.out) | exact HB.out)⟩
     replace c12 := Bool.eq_false_iff.mpr c12
     subst c12
     have H1 : (if (l0_2.length : Int) < 1 then (some ((-1), 2)) else (if (l0_2.length : Int) > 32 then (some ((-1), 4)) else (uK.l0 kj6 0 a0_0 a0_1 l0_2))) = some (r1, r2) := by rw [if_neg (show ¬ (false = true) by decide)] at H; exact H
     clear H
     have H := H1
     clear H1
     have HF13 := ak_ H
     clear H
     have hcz14_0 : wc.cell? ⟨gb158, 0, none⟩ = some (.string a0_0) := (zc BK158.out 0).trans rfl
     have hcz14_1 : wc.cell? ⟨gb158, 1, none⟩ = some (.int .i64 a0_1) := (zc BK158.out 1).trans rfl
     have hcz14_2 : wc.cell? ⟨gb158, 2, none⟩ = some (.slice A0_2 l0_2.length c0_2) := (zc BK158.out 2).trans rfl
     have hfz14_0 := zf BK158.out 0
     have hfz14_1 := zf BK158.out 1
     have hfz14_2 := zf BK158.out 2
     go_upto_if 22 with (fail)
     repeat (go_quiet (fail); go_upto_if 22 with (fail))
     have H := HF13.out
     clear HF13
     by_cases c15 : (l0_2.length : Int) < 1
     · rw [if_pos c15] at H
       have c15b0 : decide ((l0_2.length : Int) < 1) = true := dt_ c15
       have c15b1 : decide (l0_2.length < 1) = true := dt_ (by omega)
       clear c15
       (first | rw [c15b0] | (simp only [i64_w, i32_w]; rw [c15b0]) | skip)
       simp only [Option.some.injEq, Prod.mk.injEq] at H
       obtain ⟨rfl, rfl⟩ := H
       go_wp2
       repeat (go_quiet (fail); try go_wp2)
       go_ret2
       exact ⟨by first | rfl | simp [*], by repeat (first | (with_reducible first | exact HB.out | apply pa | apply pd | apply pe | refine zs ?_ GE158.out) | exact HB.out)⟩
     rw [if_neg c15] at H
     have c15b0 : decide ((l0_2.length : Int) < 1) = false := df_ c15
     have c15b1 : decide (l0_2.length < 1) = false := df_ (by omega)
     clear c15
     (first | rw [c15b0] | (simp only [i64_w, i32_w]; rw [c15b0]) | skip)
     have HF16 := ak_ H
     clear H
     have hcz17_0 : wc.cell? ⟨gb158, 0, none⟩ = some (.string a0_0) := (zc BK158.out 0).trans rfl
     have hcz17_1 : wc.cell? ⟨gb158, 1, none⟩ = some (.int .i64 a0_1) := (zc BK158.out 1).trans rfl
     have hcz17_2 : wc.cell? ⟨gb158, 2, none⟩ = some (.slice A0_2 l0_2.length c0_2) := (zc BK158.out 2).trans rfl
     have hfz17_0 := zf BK158.out 0
     have hfz17_1 := zf BK158.out 1
     have hfz17_2 := zf BK158.out 2
     go_upto_if 26 with (fail)
     repeat (go_quiet (fail); go_upto_if 26 with (fail))
     have H := HF16.out
     clear HF16
     by_cases c18 : (l0_2.length : Int) > 32
     · rw [if_pos c18] at H
       have c18b0 : decide (32 < (l0_2.length : Int)) = true := dt_ c18
       have c18b1 : decide (32 < l0_2.length) = true := dt_ (by omega)
       clear c18
       (first | rw [c18b0] | (simp only [i64_w, i32_w]; rw [c18b0]) | skip)
       simp only [Option.some.injEq, Prod.mk.injEq] at H
       obtain ⟨rfl, rfl⟩ := H
       go_wp2
       repeat (go_quiet (fail); try go_wp2)
       go_ret2
       exact ⟨by first | rfl | simp [*], by repeat (first | (with_reducible first | exact HB.out | apply pa | apply pd | apply pe | refine zs ?_ GE158.out) | exact HB.out)⟩
     rw [if_neg c18] at H
     have c18b0 : decide (32 < (l0_2.length : Int)) = false := df_ c18
     have c18b1 : decide (32 < l0_2.length) = false := df_ (by omega)
     clear c18
     (first | rw [c18b0] | (simp only [i64_w, i32_w]; rw [c18b0]) | skip)
     have H' := ak_ H
     clear H
     go_wp2
     repeat (go_quiet (fail); try go_wp2)
     go_loopg [4] kj6 (fun kq v4 w' => ∃ (x4_2 : Int), v4 = .int .i64 x4_2 ∧ Aside0 (uK.l0 kq x4_2 a0_0 a0_1 l0_2 = some (r1, r2)) ∧ Aside0 (kq ≤ kj6) ∧ Aside0 (w'.heap[gb158]? = some (.cells #[.string a0_0, .int .i64 a0_1, (.slice A0_2 l0_2.length c0_2)] 24 (0, 0))) ∧ Aside0 (Below w.heap.size w w'))
     case atStart => exact ⟨(0), (by first | rfl | simp [*]), H', ⟨Nat.le_refl _⟩, ⟨by (with_reducible repeat (first | apply zn | apply zd | apply za)); exact BK158.out⟩, ⟨by repeat (first | (with_reducible first | exact HB.out | apply pa | apply pd | apply pe | refine zs ?_ GE158.out) | exact HB.out)⟩⟩
     case round =>
      clear H'
      try clear c1
      try clear p2
      try clear c6
      try clear c8
      try clear c8b0
      try clear c12
      try clear c13
      try clear c15
      try clear c15b0
      try clear c15b1
      try clear c18
      try clear c18b0
      try clear c18b1
      try clear hcz10_0
      try clear hcz10_1
      try clear hcz10_2
      try clear hcz14_0
      try clear hcz14_1
      try clear hcz14_2
      try clear hcz17_0
      try clear hcz17_1
      try clear hcz17_2
      try clear hcz5_0
      try clear hcz5_1
      try clear hcz5_2
      try clear hcz9_0
      try clear hcz9_1
      try clear hcz9_2
      try clear hfz10_0
      try clear hfz10_1
      try clear hfz10_2
      try clear hfz14_0
      try clear hfz14_1
      try clear hfz14_2
      try clear hfz17_0
      try clear hfz17_1
      try clear hfz17_2
      try clear hfz5_0
      try clear hfz5_1
      try clear hfz5_2
      try clear hfz9_0
      try clear hfz9_1
      try clear hfz9_2
      try clear p2
      obtain ⟨x4_2, rfl, HA, HK2, BK158, HB⟩ := hrel
      cases gk with
      | zero => exact absurd HA.out (by simp [uK.l0])
      | succ k2 =>
       have H := HA.out
       clear HA
       simp only [uK.l0] at H
       have HF19 := ak_ H
       clear H
       have hcz20_0 : wr.cell? ⟨gb158, 0, none⟩ = some (.string a0_0) := (zc BK158.out 0).trans rfl
       have hcz20_1 : wr.cell? ⟨gb158, 1, none⟩ = some (.int .i64 a0_1) := (zc BK158.out 1).trans rfl
       have hcz20_2 : wr.cell? ⟨gb158, 2, none⟩ = some (.slice A0_2 l0_2.length c0_2) := (zc BK158.out 2).trans rfl
       have hfz20_0 := zf BK158.out 0
       have hfz20_1 := zf BK158.out 1
       have hfz20_2 := zf BK158.out 2
       go_upto_if 31 with (fail)
       repeat (go_quiet (fail); go_upto_if 31 with (fail))
       have H := HF19.out
       clear HF19
       by_cases c21 : x4_2 < (l0_2.length : Int)
       · rw [if_pos c21] at H
         have c21b0 : decide (x4_2 < (l0_2.length : Int)) = true := dt_ c21
         clear c21
         (first | rw [c21b0] | (simp only [i64_w, i32_w]; rw [c21b0]) | skip)
         by_cases c22 : 0 ≤ x4_2
         · rw [if_pos c22] at H
           have c22b0 : decide (0 ≤ x4_2) = true := dt_ c22
           clear c22
           have HC23 := ak_ H
           clear H
           have hcz24_0 : wr.cell? ⟨gb158, 0, none⟩ = some (.string a0_0) := (zc BK158.out 0).trans rfl
           have hcz24_1 : wr.cell? ⟨gb158, 1, none⟩ = some (.int .i64 a0_1) := (zc BK158.out 1).trans rfl
           have hcz24_2 : wr.cell? ⟨gb158, 2, none⟩ = some (.slice A0_2 l0_2.length c0_2) := (zc BK158.out 2).trans rfl
           have hfz24_0 := zf BK158.out 0
           have hfz24_1 := zf BK158.out 1
           have hfz24_2 := zf BK158.out 2
           have p160 : 0 ≤ (x4_2 : Int) := of_decide_eq_true (by assumption)
           have q160 : x4_2 < (l0_2.length : Int) := of_decide_eq_true (by assumption)
           obtain ⟨ad160, e160, hx160_0, hx160_1, hx160_2, hx160_3, hx160_4, hx160_5, hx160_6, hx160_7, hx160_8, hx160_9, hx160_10, hx160_11⟩ := at_T61 HR0_2.out x4_2 p160 q160
           cases e160
           replace hx160_0 := (HB.out.cell (bl_ w _ hx160_0)).trans hx160_0
           replace hx160_1 := (HB.out.cell (bl_ w _ hx160_1)).trans hx160_1
           replace hx160_2 := (HB.out.cell (bl_ w _ hx160_2)).trans hx160_2
           replace hx160_3 := (HB.out.cell (bl_ w _ hx160_3)).trans hx160_3
           replace hx160_4 := (HB.out.cell (bl_ w _ hx160_4)).trans hx160_4
           replace hx160_5 := (HB.out.cell (bl_ w _ hx160_5)).trans hx160_5
           replace hx160_6 := (HB.out.cell (bl_ w _ hx160_6)).trans hx160_6
           replace hx160_7 := (HB.out.cell (bl_ w _ hx160_7)).trans hx160_7
           replace hx160_8 := (HB.out.cell (bl_ w _ hx160_8)).trans hx160_8
           replace hx160_9 := (HB.out.cell (bl_ w _ hx160_9)).trans hx160_9
           replace hx160_10 := (HB.out.cell (bl_ w _ hx160_10)).trans hx160_10
           replace hx160_11 := (HB.out.cell (bl_ w _ hx160_11)).trans hx160_11
           replace p160 := eq_true p160
           replace q160 := eq_true q160
           go_upto_region 13 with (first | ((with_reducible refine gate_dst (N := 5) rfl ?_); refine box_event ?hg (N := 5) ?hd (cs := #[.string ⟨#[]⟩, .string ⟨#[]⟩, .int .i64 0, .int .i64 0, .int .i64 0, .int .i64 0, .int .i64 0, .int .i64 0, .int .i64 0, .int .i64 0, .int .i64 0, .int .i64 0]) (t := 61) ?hr ?_; (case hd | hg => rfl); (case hr => first | (go_simp; done) | (go_simp; rfl)); intro gb161 hg w25 hbox hb; have n0_ := ak_ (blk_below (g := gb158) (o := .cells #[.string a0_0, .int .i64 a0_1, .slice (some ad160) l0_2.length c0_2] 24 (0, 0)) (by (with_reducible repeat (first | apply zn | apply zd | apply za)); exact BK158.out) hb); have n1_ := ak_ (ps (by with_reducible repeat first | exact HB.out | apply pa | apply pd | apply pe | refine zs ?_ GE158.out) hb); have n2_ := ak_ (hbox); have n3_ := ak_ ((by rw [hg]; exact (below_size (by with_reducible repeat first | exact HB.out | apply pa | apply pd | apply pe | refine zs ?_ GE158.out)) : w.heap.size ≤ gb161)); have n4_ := ak_ ((by rw [hg]; exact (below_size (by with_reducible repeat first | exact HB.out | apply pa | apply pd | apply pe | refine zs ?_ GE158.out)) : w.heap.size ≤ gb161)); have n5_ := ak_ ((by rw [hg]; exact Nat.ne_of_lt (blk_lt (g := gb158) (by (with_reducible repeat (first | apply zn | apply zd | apply za)); exact BK158.out)) : gb158 ≠ gb161)); have n6_ := ak_ ((by rw [hg]; exact Nat.ne_of_gt (blk_lt (g := gb158) (by (with_reducible repeat (first | apply zn | apply zd | apply za)); exact BK158.out)) : gb161 ≠ gb158)); clear BK158 HB; have BK158 := n0_; have HB := n1_; have BK161 := n2_; have GW161 := n3_; have GE161 := n4_; have NB158_161 := n5_; have NB161_158 := n6_; clear n0_ n1_ n2_ n3_ n4_ n5_ n6_ hb hbox hg; have hnb26 := NB161_158.out; have hnc26 := NB158_161.out; have hcz27_0 : w25.cell? ⟨gb161, 0, none⟩ = some (.string ⟨#[]⟩) := (zc BK161.out 0).trans rfl; have hcz27_1 : w25.cell? ⟨gb161, 1, none⟩ = some (.string ⟨#[]⟩) := (zc BK161.out 1).trans rfl; have hcz27_2 : w25.cell? ⟨gb161, 2, none⟩ = some (.int .i64 0) := (zc BK161.out 2).trans rfl; have hcz27_3 : w25.cell? ⟨gb161, 3, none⟩ = some (.int .i64 0) := (zc BK161.out 3).trans rfl; have hcz27_4 : w25.cell? ⟨gb161, 4, none⟩ = some (.int .i64 0) := (zc BK161.out 4).trans rfl; have hcz27_5 : w25.cell? ⟨gb161, 5, none⟩ = some (.int .i64 0) := (zc BK161.out 5).trans rfl; have hcz27_6 : w25.cell? ⟨gb161, 6, none⟩ = some (.int .i64 0) := (zc BK161.out 6).trans rfl; have hcz27_7 : w25.cell? ⟨gb161, 7, none⟩ = some (.int .i64 0) := (zc BK161.out 7).trans rfl; have hcz27_8 : w25.cell? ⟨gb161, 8, none⟩ = some (.int .i64 0) := (zc BK161.out 8).trans rfl; have hcz27_9 : w25.cell? ⟨gb161, 9, none⟩ = some (.int .i64 0) := (zc BK161.out 9).trans rfl; have hcz27_10 : w25.cell? ⟨gb161, 10, none⟩ = some (.int .i64 0) := (zc BK161.out 10).trans rfl; have hcz27_11 : w25.cell? ⟨gb161, 11, none⟩ = some (.int .i64 0) := (zc BK161.out 11).trans rfl; have hfz27_0 := zf BK161.out 0; have hfz27_1 := zf BK161.out 1; have hfz27_2 := zf BK161.out 2; have hfz27_3 := zf BK161.out 3; have hfz27_4 := zf BK161.out 4; have hfz27_5 := zf BK161.out 5; have hfz27_6 := zf BK161.out 6; have hfz27_7 := zf BK161.out 7; have hfz27_8 := zf BK161.out 8; have hfz27_9 := zf BK161.out 9; have hfz27_10 := zf BK161.out 10; have hfz27_11 := zf BK161.out 11))
           repeat (go_quiet (first | ((with_reducible refine gate_dst (N := 5) rfl ?_); refine box_event ?hg (N := 5) ?hd (cs := #[.string ⟨#[]⟩, .string ⟨#[]⟩, .int .i64 0, .int .i64 0, .int .i64 0, .int .i64 0, .int .i64 0, .int .i64 0, .int .i64 0, .int .i64 0, .int .i64 0, .int .i64 0]) (t := 61) ?hr ?_; (case hd | hg => rfl); (case hr => first | (go_simp; done) | (go_simp; rfl)); intro gb161 hg w25 hbox hb; have n0_ := ak_ (blk_below (g := gb158) (o := .cells #[.string a0_0, .int .i64 a0_1, .slice (some ad160) l0_2.length c0_2] 24 (0, 0)) (by (with_reducible repeat (first | apply zn | apply zd | apply za)); exact BK158.out) hb); have n1_ := ak_ (ps (by with_reducible repeat first | exact HB.out | apply pa | apply pd | apply pe | refine zs ?_ GE158.out) hb); have n2_ := ak_ (hbox); have n3_ := ak_ ((by rw [hg]; exact (below_size (by with_reducible repeat first | exact HB.out | apply pa | apply pd | apply pe | refine zs ?_ GE158.out)) : w.heap.size ≤ gb161)); have n4_ := ak_ ((by rw [hg]; exact (below_size (by with_reducible repeat first | exact HB.out | apply pa | apply pd | apply pe | refine zs ?_ GE158.out)) : w.heap.size ≤ gb161)); have n5_ := ak_ ((by rw [hg]; exact Nat.ne_of_lt (blk_lt (g := gb158) (by (with_reducible repeat (first | apply zn | apply zd | apply za)); exact BK158.out)) : gb158 ≠ gb161)); have n6_ := ak_ ((by rw [hg]; exact Nat.ne_of_gt (blk_lt (g := gb158) (by (with_reducible repeat (first | apply zn | apply zd | apply za)); exact BK158.out)) : gb161 ≠ gb158)); clear BK158 HB; have BK158 := n0_; have HB := n1_; have BK161 := n2_; have GW161 := n3_; have GE161 := n4_; have NB158_161 := n5_; have NB161_158 := n6_; clear n0_ n1_ n2_ n3_ n4_ n5_ n6_ hb hbox hg; have hnb26 := NB161_158.out; have hnc26 := NB158_161.out; have hcz27_0 : w25.cell? ⟨gb161, 0, none⟩ = some (.string ⟨#[]⟩) := (zc BK161.out 0).trans rfl; have hcz27_1 : w25.cell? ⟨gb161, 1, none⟩ = some (.string ⟨#[]⟩) := (zc BK161.out 1).trans rfl; have hcz27_2 : w25.cell? ⟨gb161, 2, none⟩ = some (.int .i64 0) := (zc BK161.out 2).trans rfl; have hcz27_3 : w25.cell? ⟨gb161, 3, none⟩ = some (.int .i64 0) := (zc BK161.out 3).trans rfl; have hcz27_4 : w25.cell? ⟨gb161, 4, none⟩ = some (.int .i64 0) := (zc BK161.out 4).trans rfl; have hcz27_5 : w25.cell? ⟨gb161, 5, none⟩ = some (.int .i64 0) := (zc BK161.out 5).trans rfl; have hcz27_6 : w25.cell? ⟨gb161, 6, none⟩ = some (.int .i64 0) := (zc BK161.out 6).trans rfl; have hcz27_7 : w25.cell? ⟨gb161, 7, none⟩ = some (.int .i64 0) := (zc BK161.out 7).trans rfl; have hcz27_8 : w25.cell? ⟨gb161, 8, none⟩ = some (.int .i64 0) := (zc BK161.out 8).trans rfl; have hcz27_9 : w25.cell? ⟨gb161, 9, none⟩ = some (.int .i64 0) := (zc BK161.out 9).trans rfl; have hcz27_10 : w25.cell? ⟨gb161, 10, none⟩ = some (.int .i64 0) := (zc BK161.out 10).trans rfl; have hcz27_11 : w25.cell? ⟨gb161, 11, none⟩ = some (.int .i64 0) := (zc BK161.out 11).trans rfl; have hfz27_0 := zf BK161.out 0; have hfz27_1 := zf BK161.out 1; have hfz27_2 := zf BK161.out 2; have hfz27_3 := zf BK161.out 3; have hfz27_4 := zf BK161.out 4; have hfz27_5 := zf BK161.out 5; have hfz27_6 := zf BK161.out 6; have hfz27_7 := zf BK161.out 7; have hfz27_8 := zf BK161.out 8; have hfz27_9 := zf BK161.out 9; have hfz27_10 := zf BK161.out 10; have hfz27_11 := zf BK161.out 11)); go_upto_region 13 with (first | ((with_reducible refine gate_dst (N := 5) rfl ?_); refine box_event ?hg (N := 5) ?hd (cs := #[.string ⟨#[]⟩, .string ⟨#[]⟩, .int .i64 0, .int .i64 0, .int .i64 0, .int .i64 0, .int .i64 0, .int .i64 0, .int .i64 0, .int .i64 0, .int .i64 0, .int .i64 0]) (t := 61) ?hr ?_; (case hd | hg => rfl); (case hr => first | (go_simp; done) | (go_simp; rfl)); intro gb161 hg w25 hbox hb; have n0_ := ak_ (blk_below (g := gb158) (o := .cells #[.string a0_0, .int .i64 a0_1, .slice (some ad160) l0_2.length c0_2] 24 (0, 0)) (by (with_reducible repeat (first | apply zn | apply zd | apply za)); exact BK158.out) hb); have n1_ := ak_ (ps (by with_reducible repeat first | exact HB.out | apply pa | apply pd | apply pe | refine zs ?_ GE158.out) hb); have n2_ := ak_ (hbox); have n3_ := ak_ ((by rw [hg]; exact (below_size (by with_reducible repeat first | exact HB.out | apply pa | apply pd | apply pe | refine zs ?_ GE158.out)) : w.heap.size ≤ gb161)); have n4_ := ak_ ((by rw [hg]; exact (below_size (by with_reducible repeat first | exact HB.out | apply pa | apply pd | apply pe | refine zs ?_ GE158.out)) : w.heap.size ≤ gb161)); have n5_ := ak_ ((by rw [hg]; exact Nat.ne_of_lt (blk_lt (g := gb158) (by (with_reducible repeat (first | apply zn | apply zd | apply za)); exact BK158.out)) : gb158 ≠ gb161)); have n6_ := ak_ ((by rw [hg]; exact Nat.ne_of_gt (blk_lt (g := gb158) (by (with_reducible repeat (first | apply zn | apply zd | apply za)); exact BK158.out)) : gb161 ≠ gb158)); clear BK158 HB; have BK158 := n0_; have HB := n1_; have BK161 := n2_; have GW161 := n3_; have GE161 := n4_; have NB158_161 := n5_; have NB161_158 := n6_; clear n0_ n1_ n2_ n3_ n4_ n5_ n6_ hb hbox hg; have hnb26 := NB161_158.out; have hnc26 := NB158_161.out; have hcz27_0 : w25.cell? ⟨gb161, 0, none⟩ = some (.string ⟨#[]⟩) := (zc BK161.out 0).trans rfl; have hcz27_1 : w25.cell? ⟨gb161, 1, none⟩ = some (.string ⟨#[]⟩) := (zc BK161.out 1).trans rfl; have hcz27_2 : w25.cell? ⟨gb161, 2, none⟩ = some (.int .i64 0) := (zc BK161.out 2).trans rfl; have hcz27_3 : w25.cell? ⟨gb161, 3, none⟩ = some (.int .i64 0) := (zc BK161.out 3).trans rfl; have hcz27_4 : w25.cell? ⟨gb161, 4, none⟩ = some (.int .i64 0) := (zc BK161.out 4).trans rfl; have hcz27_5 : w25.cell? ⟨gb161, 5, none⟩ = some (.int .i64 0) := (zc BK161.out 5).trans rfl; have hcz27_6 : w25.cell? ⟨gb161, 6, none⟩ = some (.int .i64 0) := (zc BK161.out 6).trans rfl; have hcz27_7 : w25.cell? ⟨gb161, 7, none⟩ = some (.int .i64 0) := (zc BK161.out 7).trans rfl; have hcz27_8 : w25.cell? ⟨gb161, 8, none⟩ = some (.int .i64 0) := (zc BK161.out 8).trans rfl; have hcz27_9 : w25.cell? ⟨gb161, 9, none⟩ = some (.int .i64 0) := (zc BK161.out 9).trans rfl; have hcz27_10 : w25.cell? ⟨gb161, 10, none⟩ = some (.int .i64 0) := (zc BK161.out 10).trans rfl; have hcz27_11 : w25.cell? ⟨gb161, 11, none⟩ = some (.int .i64 0) := (zc BK161.out 11).trans rfl; have hfz27_0 := zf BK161.out 0; have hfz27_1 := zf BK161.out 1; have hfz27_2 := zf BK161.out 2; have hfz27_3 := zf BK161.out 3; have hfz27_4 := zf BK161.out 4; have hfz27_5 := zf BK161.out 5; have hfz27_6 := zf BK161.out 6; have hfz27_7 := zf BK161.out 7; have hfz27_8 := zf BK161.out 8; have hfz27_9 := zf BK161.out 9; have hfz27_10 := zf BK161.out 10; have hfz27_11 := zf BK161.out 11)))
           (try simp only [Act.put, sa_, sz_, ss_])
           go_cut [48] (fun v48 wc => ∃ (kq : Nat) (x48_22 : Bool), v48 = .bool x48_22 ∧ Aside0 (uK.j2 kq x4_2 x48_22 a0_0 a0_1 l0_2 ((rT l0_2 x4_2).f0) ((rT l0_2 x4_2).f1) ((rT l0_2 x4_2).f2) ((rT l0_2 x4_2).f3.f0) ((rT l0_2 x4_2).f3.f1) ((rT l0_2 x4_2).f3.f2) ((rT l0_2 x4_2).f3.f3) ((rT l0_2 x4_2).f4.f0) ((rT l0_2 x4_2).f4.f1) ((rT l0_2 x4_2).f4.f2) ((rT l0_2 x4_2).f4.f3) ((rT l0_2 x4_2).f5) = some (r1, r2)) ∧ Aside0 (kq ≤ k2) ∧ Aside0 (wc.heap[gb158]? = some (.cells #[.string a0_0, .int .i64 a0_1, (.slice (some ad160) l0_2.length c0_2)] 24 (0, 0))) ∧ Aside0 (wc.heap[gb161]? = some (.cells #[.string ((rT l0_2 x4_2).f0), .string ((rT l0_2 x4_2).f1), .int .i64 ((rT l0_2 x4_2).f2), .int .i64 ((rT l0_2 x4_2).f3.f0), .int .i64 ((rT l0_2 x4_2).f3.f1), .int .i64 ((rT l0_2 x4_2).f3.f2), .int .i64 ((rT l0_2 x4_2).f3.f3), .int .i64 ((rT l0_2 x4_2).f4.f0), .int .i64 ((rT l0_2 x4_2).f4.f1), .int .i64 ((rT l0_2 x4_2).f4.f2), .int .i64 ((rT l0_2 x4_2).f4.f3), .int .i64 ((rT l0_2 x4_2).f5)] 61 (0, 0))) ∧ Aside0 (Below w.heap.size w wc))
           case first =>
            have H := HC23.out
            clear HC23
            replace H := ob_ H
            obtain ⟨t162, A280, H⟩ := H
            replace H : (if t162 = true then ((uR02_Good.f k2 ((rT l0_2 x4_2).f1)).bind fun t163 => (uK.j2 k2 x4_2 (!t163) a0_0 a0_1 l0_2 ((rT l0_2 x4_2).f0) ((rT l0_2 x4_2).f1) ((rT l0_2 x4_2).f2) ((rT l0_2 x4_2).f3.f0) ((rT l0_2 x4_2).f3.f1) ((rT l0_2 x4_2).f3.f2) ((rT l0_2 x4_2).f3.f3) ((rT l0_2 x4_2).f4.f0) ((rT l0_2 x4_2).f4.f1) ((rT l0_2 x4_2).f4.f2) ((rT l0_2 x4_2).f4.f3) ((rT l0_2 x4_2).f5))) else (uK.j2 k2 x4_2 true a0_0 a0_1 l0_2 ((rT l0_2 x4_2).f0) ((rT l0_2 x4_2).f1) ((rT l0_2 x4_2).f2) ((rT l0_2 x4_2).f3.f0) ((rT l0_2 x4_2).f3.f1) ((rT l0_2 x4_2).f3.f2) ((rT l0_2 x4_2).f3.f3) ((rT l0_2 x4_2).f4.f0) ((rT l0_2 x4_2).f4.f1) ((rT l0_2 x4_2).f4.f2) ((rT l0_2 x4_2).f4.f3) ((rT l0_2 x4_2).f5))) = some (r1, r2) := H
            have A28 := ak_ A280
            clear A280
            by_cases c29 : t162 = true
            · subst c29
              have H1 : ((uR02_Good.f k2 ((rT l0_2 x4_2).f1)).bind fun t163 => (uK.j2 k2 x4_2 (!t163) a0_0 a0_1 l0_2 ((rT l0_2 x4_2).f0) ((rT l0_2 x4_2).f1) ((rT l0_2 x4_2).f2) ((rT l0_2 x4_2).f3.f0) ((rT l0_2 x4_2).f3.f1) ((rT l0_2 x4_2).f3.f2) ((rT l0_2 x4_2).f3.f3) ((rT l0_2 x4_2).f4.f0) ((rT l0_2 x4_2).f4.f1) ((rT l0_2 x4_2).f4.f2) ((rT l0_2 x4_2).f4.f3) ((rT l0_2 x4_2).f5))) = some (r1, r2) := by rw [if_pos rfl] at H; exact H
              clear H
              have H := H1
              clear H1
              replace H := ob_ H
              obtain ⟨t163, A300, H⟩ := H
              replace H : (uK.j2 k2 x4_2 (!t163) a0_0 a0_1 l0_2 ((rT l0_2 x4_2).f0) ((rT l0_2 x4_2).f1) ((rT l0_2 x4_2).f2) ((rT l0_2 x4_2).f3.f0) ((rT l0_2 x4_2).f3.f1) ((rT l0_2 x4_2).f3.f2) ((rT l0_2 x4_2).f3.f3) ((rT l0_2 x4_2).f4.f0) ((rT l0_2 x4_2).f4.f1) ((rT l0_2 x4_2).f4.f2) ((rT l0_2 x4_2).f4.f3) ((rT l0_2 x4_2).f5)) = some (r1, r2) := H
              have A30 := ak_ A300
              clear A300
              have H' := ak_ H
              clear H
              have hnb31 := NB161_158.out
              have hnc31 := NB158_161.out
              have hcz32_0 : w25.cell? ⟨gb161, 0, none⟩ = some (.string ⟨#[]⟩) := (zc BK161.out 0).trans rfl
              have hcz32_1 : w25.cell? ⟨gb161, 1, none⟩ = some (.string ⟨#[]⟩) := (zc BK161.out 1).trans rfl
              have hcz32_2 : w25.cell? ⟨gb161, 2, none⟩ = some (.int .i64 0) := (zc BK161.out 2).trans rfl
              have hcz32_3 : w25.cell? ⟨gb161, 3, none⟩ = some (.int .i64 0) := (zc BK161.out 3).trans rfl
              have hcz32_4 : w25.cell? ⟨gb161, 4, none⟩ = some (.int .i64 0) := (zc BK161.out 4).trans rfl
              have hcz32_5 : w25.cell? ⟨gb161, 5, none⟩ = some (.int .i64 0) := (zc BK161.out 5).trans rfl
              have hcz32_6 : w25.cell? ⟨gb161, 6, none⟩ = some (.int .i64 0) := (zc BK161.out 6).trans rfl
              have hcz32_7 : w25.cell? ⟨gb161, 7, none⟩ = some (.int .i64 0) := (zc BK161.out 7).trans rfl
              have hcz32_8 : w25.cell? ⟨gb161, 8, none⟩ = some (.int .i64 0) := (zc BK161.out 8).trans rfl
              have hcz32_9 : w25.cell? ⟨gb161, 9, none⟩ = some (.int .i64 0) := (zc BK161.out 9).trans rfl
              have hcz32_10 : w25.cell? ⟨gb161, 10, none⟩ = some (.int .i64 0) := (zc BK161.out 10).trans rfl
              have hcz32_11 : w25.cell? ⟨gb161, 11, none⟩ = some (.int .i64 0) := (zc BK161.out 11).trans rfl
              have hfz32_0 := zf BK161.out 0
              have hfz32_1 := zf BK161.out 1
              have hfz32_2 := zf BK161.out 2
              have hfz32_3 := zf BK161.out 3
              have hfz32_4 := zf BK161.out 4
              have hfz32_5 := zf BK161.out 5
              have hfz32_6 := zf BK161.out 6
              have hfz32_7 := zf BK161.out 7
              have hfz32_8 := zf BK161.out 8
              have hfz32_9 := zf BK161.out 9
              have hfz32_10 := zf BK161.out 10
              have hfz32_11 := zf BK161.out 11
              go_wp2_with (first | (go_at_call 34; (with_reducible refine (uR02_Good.calls k2 ((rT l0_2 x4_2).f0) true _ A28.out).mono ?_); rintro e w' ⟨rfl, ⟨nd, rfl⟩⟩; (try first | exact ⟨rfl, _, World.drewN_drewN _ _ _⟩ | exact ⟨rfl, _, Eq.trans (World.drewN_drewN _ _ _) (congrArg (World.drewN _) (Nat.add_assoc _ _ _))⟩)) | (go_at_call 34; (with_reducible refine (uR02_Good.calls k2 ((rT l0_2 x4_2).f1) t163 _ A30.out).mono ?_); rintro e w' ⟨rfl, ⟨nd, rfl⟩⟩; (try first | exact ⟨rfl, _, World.drewN_drewN _ _ _⟩ | exact ⟨rfl, _, Eq.trans (World.drewN_drewN _ _ _) (congrArg (World.drewN _) (Nat.add_assoc _ _ _))⟩)))
              repeat (go_quiet (first | (go_at_call 34; (with_reducible refine (uR02_Good.calls k2 ((rT l0_2 x4_2).f0) true _ A28.out).mono ?_); rintro e w' ⟨rfl, ⟨nd, rfl⟩⟩; (try first | exact ⟨rfl, _, World.drewN_drewN _ _ _⟩ | exact ⟨rfl, _, Eq.trans (World.drewN_drewN _ _ _) (congrArg (World.drewN _) (Nat.add_assoc _ _ _))⟩)) | (go_at_call 34; (with_reducible refine (uR02_Good.calls k2 ((rT l0_2 x4_2).f1) t163 _ A30.out).mono ?_); rintro e w' ⟨rfl, ⟨nd, rfl⟩⟩; (try first | exact ⟨rfl, _, World.drewN_drewN _ _ _⟩ | exact ⟨rfl, _, Eq.trans (World.drewN_drewN _ _ _) (congrArg (World.drewN _) (Nat.add_assoc _ _ _))⟩))); try go_wp2_with (first | (go_at_call 34; (with_reducible refine (uR02_Good.calls k2 ((rT l0_2 x4_2).f0) true _ A28.out).mono ?_); rintro e w' ⟨rfl, ⟨nd, rfl⟩⟩; (try first | exact ⟨rfl, _, World.drewN_drewN _ _ _⟩ | exact ⟨rfl, _, Eq.trans (World.drewN_drewN _ _ _) (congrArg (World.drewN _) (Nat.add_assoc _ _ _))⟩)) | (go_at_call 34; (with_reducible refine (uR02_Good.calls k2 ((rT l0_2 x4_2).f1) t163 _ A30.out).mono ?_); rintro e w' ⟨rfl, ⟨nd, rfl⟩⟩; (try first | exact ⟨rfl, _, World.drewN_drewN _ _ _⟩ | exact ⟨rfl, _, Eq.trans (World.drewN_drewN _ _ _) (congrArg (World.drewN _) (Nat.add_assoc _ _ _))⟩))))
              go_meet
              case rel => exact ⟨_, (!t163), (by first | rfl | simp [*]), H', ⟨by have := HJ6.out; have := HK2.out; first | omega | exact Nat.le_refl _⟩, ⟨by (repeat (first | (with_reducible first | apply zn | apply zd | apply za) | refine zr ?_ NB158_161.out _)); (with_reducible repeat (first | apply zn | apply zd | apply za)); exact BK158.out⟩, ⟨by (with_reducible repeat (first | apply zn | apply zd | apply za)); refine zp (cs := #[.string ((rT l0_2 x4_2).f0), .string ((rT l0_2 x4_2).f1), .int .i64 ((rT l0_2 x4_2).f2), .int .i64 ((rT l0_2 x4_2).f3.f0), .int .i64 ((rT l0_2 x4_2).f3.f1), .int .i64 ((rT l0_2 x4_2).f3.f2), .int .i64 ((rT l0_2 x4_2).f3.f3), .int .i64 ((rT l0_2 x4_2).f4.f0), .int .i64 ((rT l0_2 x4_2).f4.f1), .int .i64 ((rT l0_2 x4_2).f4.f2), .int .i64 ((rT l0_2 x4_2).f4.f3), .int .i64 0]) ?_ 11 _ rfl; (with_reducible repeat (first | apply zn | apply zd | apply za)); refine zp (cs := #[.string ((rT l0_2 x4_2).f0), .string ((rT l0_2 x4_2).f1), .int .i64 ((rT l0_2 x4_2).f2), .int .i64 ((rT l0_2 x4_2).f3.f0), .int .i64 ((rT l0_2 x4_2).f3.f1), .int .i64 ((rT l0_2 x4_2).f3.f2), .int .i64 ((rT l0_2 x4_2).f3.f3), .int .i64 ((rT l0_2 x4_2).f4.f0), .int .i64 ((rT l0_2 x4_2).f4.f1), .int .i64 ((rT l0_2 x4_2).f4.f2), .int .i64 0, .int .i64 0]) ?_ 10 _ rfl; (with_reducible repeat (first | apply zn | apply zd | apply za)); refine zp (cs := #[.string ((rT l0_2 x4_2).f0), .string ((rT l0_2 x4_2).f1), .int .i64 ((rT l0_2 x4_2).f2), .int .i64 ((rT l0_2 x4_2).f3.f0), .int .i64 ((rT l0_2 x4_2).f3.f1), .int .i64 ((rT l0_2 x4_2).f3.f2), .int .i64 ((rT l0_2 x4_2).f3.f3), .int .i64 ((rT l0_2 x4_2).f4.f0), .int .i64 ((rT l0_2 x4_2).f4.f1), .int .i64 0, .int .i64 0, .int .i64 0]) ?_ 9 _ rfl; (with_reducible repeat (first | apply zn | apply zd | apply za)); refine zp (cs := #[.string ((rT l0_2 x4_2).f0), .string ((rT l0_2 x4_2).f1), .int .i64 ((rT l0_2 x4_2).f2), .int .i64 ((rT l0_2 x4_2).f3.f0), .int .i64 ((rT l0_2 x4_2).f3.f1), .int .i64 ((rT l0_2 x4_2).f3.f2), .int .i64 ((rT l0_2 x4_2).f3.f3), .int .i64 ((rT l0_2 x4_2).f4.f0), .int .i64 0, .int .i64 0, .int .i64 0, .int .i64 0]) ?_ 8 _ rfl; (with_reducible repeat (first | apply zn | apply zd | apply za)); refine zp (cs := #[.string ((rT l0_2 x4_2).f0), .string ((rT l0_2 x4_2).f1), .int .i64 ((rT l0_2 x4_2).f2), .int .i64 ((rT l0_2 x4_2).f3.f0), .int .i64 ((rT l0_2 x4_2).f3.f1), .int .i64 ((rT l0_2 x4_2).f3.f2), .int .i64 ((rT l0_2 x4_2).f3.f3), .int .i64 0, .int .i64 0, .int .i64 0, .int .i64 0, .int .i64 0]) ?_ 7 _ rfl; (with_reducible repeat (first | apply zn | apply zd | apply za)); refine zp (cs := #[.string ((rT l0_2 x4_2).f0), .string ((rT l0_2 x4_2).f1), .int .i64 ((rT l0_2 x4_2).f2), .int .i64 ((rT l0_2 x4_2).f3.f0), .int .i64 ((rT l0_2 x4_2).f3.f1), .int .i64 ((rT l0_2 x4_2).f3.f2), .int .i64 0, .int .i64 0, .int .i64 0, .int .i64 0, .int .i64 0, .int .i64 0]) ?_ 6 _ rfl; (with_reducible repeat (first | apply zn | apply zd | apply za)); refine zp (cs := #[.string ((rT l0_2 x4_2).f0), .string ((rT l0_2 x4_2).f1), .int .i64 ((rT l0_2 x4_2).f2), .int .i64 ((rT l0_2 x4_2).f3.f0), .int .i64 ((rT l0_2 x4_2).f3.f1), .int .i64 0, .int .i64 0, .int .i64 0, .int .i64 0, .int .i64 0, .int .i64 0, .int .i64 0]) ?_ 5 _ rfl; (with_reducible repeat (first | apply zn | apply zd | apply za)); refine zp (cs := #[.string ((rT l0_2 x4_2).f0), .string ((rT l0_2 x4_2).f1), .int .i64 ((rT l0_2 x4_2).f2), .int .i64 ((rT l0_2 x4_2).f3.f0), .int .i64 0, .int .i64 0, .int .i64 0, .int .i64 0, .int .i64 0, .int .i64 0, .int .i64 0, .int .i64 0]) ?_ 4 _ rfl; (with_reducible repeat (first | apply zn | apply zd | apply za)); refine zp (cs := #[.string ((rT l0_2 x4_2).f0), .string ((rT l0_2 x4_2).f1), .int .i64 ((rT l0_2 x4_2).f2), .int .i64 0, .int .i64 0, .int .i64 0, .int .i64 0, .int .i64 0, .int .i64 0, .int .i64 0, .int .i64 0, .int .i64 0]) ?_ 3 _ rfl; (with_reducible repeat (first | apply zn | apply zd | apply za)); refine zp (cs := #[.string ((rT l0_2 x4_2).f0), .string ((rT l0_2 x4_2).f1), .int .i64 0, .int .i64 0, .int .i64 0, .int .i64 0, .int .i64 0, .int .i64 0, .int .i64 0, .int .i64 0, .int .i64 0, .int .i64 0]) ?_ 2 _ rfl; (with_reducible repeat (first | apply zn | apply zd | apply za)); refine zp (cs := #[.string ((rT l0_2 x4_2).f0), .string ⟨#[]⟩, .int .i64 0, .int .i64 0, .int .i64 0, .int .i64 0, .int .i64 0, .int .i64 0, .int .i64 0, .int .i64 0, .int .i64 0, .int .i64 0]) ?_ 1 _ rfl; (with_reducible repeat (first | apply zn | apply zd | apply za)); refine zp (cs := #[.string ⟨#[]⟩, .string ⟨#[]⟩, .int .i64 0, .int .i64 0, .int .i64 0, .int .i64 0, .int .i64 0, .int .i64 0, .int .i64 0, .int .i64 0, .int .i64 0, .int .i64 0]) ?_ 0 _ rfl; (with_reducible repeat (first | apply zn | apply zd | apply za)); exact BK161.out⟩, ⟨by repeat (first | (with_reducible first | exact HB.out | apply pa | apply pd | apply pe | refine zs ?_ GE158.out | refine zs ?_ GE161.out) | exact HB.out)⟩⟩
            replace c29 := Bool.eq_false_iff.mpr c29
            subst c29
            have H1 : (uK.j2 k2 x4_2 true a0_0 a0_1 l0_2 ((rT l0_2 x4_2).f0) ((rT l0_2 x4_2).f1) ((rT l0_2 x4_2).f2) ((rT l0_2 x4_2).f3.f0) ((rT l0_2 x4_2).f3.f1) ((rT l0_2 x4_2).f3.f2) ((rT l0_2 x4_2).f3.f3) ((rT l0_2 x4_2).f4.f0) ((rT l0_2 x4_2).f4.f1) ((rT l0_2 x4_2).f4.f2) ((rT l0_2 x4_2).f4.f3) ((rT l0_2 x4_2).f5)) = some (r1, r2) := by rw [if_neg (show ¬ (false = true) by decide)] at H; exact H
            clear H
            have H := H1
            clear H1
            have H' := ak_ H
            clear H
            have hnb33 := NB161_158.out
            have hnc33 := NB158_161.out
            have hcz34_0 : w25.cell? ⟨gb161, 0, none⟩ = some (.string ⟨#[]⟩) := (zc BK161.out 0).trans rfl
            have hcz34_1 : w25.cell? ⟨gb161, 1, none⟩ = some (.string ⟨#[]⟩) := (zc BK161.out 1).trans rfl
            have hcz34_2 : w25.cell? ⟨gb161, 2, none⟩ = some (.int .i64 0) := (zc BK161.out 2).trans rfl
            have hcz34_3 : w25.cell? ⟨gb161, 3, none⟩ = some (.int .i64 0) := (zc BK161.out 3).trans rfl
            have hcz34_4 : w25.cell? ⟨gb161, 4, none⟩ = some (.int .i64 0) := (zc BK161.out 4).trans rfl
            have hcz34_5 : w25.cell? ⟨gb161, 5, none⟩ = some (.int .i64 0) := (zc BK161.out 5).trans rfl
            have hcz34_6 : w25.cell? ⟨gb161, 6, none⟩ = some (.int .i64 0) := (zc BK161.out 6).trans rfl
            have hcz34_7 : w25.cell? ⟨gb161, 7, none⟩ = some (.int .i64 0) := (zc BK161.out 7).trans rfl
            have hcz34_8 : w25.cell? ⟨gb161, 8, none⟩ = some (.int .i64 0) := (zc BK161.out 8).trans rfl
            have hcz34_9 : w25.cell? ⟨gb161, 9, none⟩ = some (.int .i64 0) := (zc BK161.out 9).trans rfl
            have hcz34_10 : w25.cell? ⟨gb161, 10, none⟩ = some (.int .i64 0) := (zc BK161.out 10).trans rfl
            have hcz34_11 : w25.cell? ⟨gb161, 11, none⟩ = some (.int .i64 0) := (zc BK161.out 11).trans rfl
            have hfz34_0 := zf BK161.out 0
            have hfz34_1 := zf BK161.out 1
            have hfz34_2 := zf BK161.out 2
            have hfz34_3 := zf BK161.out 3
            have hfz34_4 := zf BK161.out 4
            have hfz34_5 := zf BK161.out 5
            have hfz34_6 := zf BK161.out 6
            have hfz34_7 := zf BK161.out 7
            have hfz34_8 := zf BK161.out 8
            have hfz34_9 := zf BK161.out 9
            have hfz34_10 := zf BK161.out 10
            have hfz34_11 := zf BK161.out 11
            go_wp2_with (first | (go_at_call 34; (with_reducible refine (uR02_Good.calls k2 ((rT l0_2 x4_2).f0) false _ A28.out).mono ?_); rintro e w' ⟨rfl, ⟨nd, rfl⟩⟩; (try first | exact ⟨rfl, _, World.drewN_drewN _ _ _⟩ | exact ⟨rfl, _, Eq.trans (World.drewN_drewN _ _ _) (congrArg (World.drewN _) (Nat.add_assoc _ _ _))⟩)))
            repeat (go_quiet (first | (go_at_call 34; (with_reducible refine (uR02_Good.calls k2 ((rT l0_2 x4_2).f0) false _ A28.out).mono ?_); rintro e w' ⟨rfl, ⟨nd, rfl⟩⟩; (try first | exact ⟨rfl, _, World.drewN_drewN _ _ _⟩ | exact ⟨rfl, _, Eq.trans (World.drewN_drewN _ _ _) (congrArg (World.drewN _) (Nat.add_assoc _ _ _))⟩))); try go_wp2_with (first | (go_at_call 34; (with_reducible refine (uR02_Good.calls k2 ((rT l0_2 x4_2).f0) false _ A28.out).mono ?_); rintro e w' ⟨rfl, ⟨nd, rfl⟩⟩; (try first | exact ⟨rfl, _, World.drewN_drewN _ _ _⟩ | exact ⟨rfl, _, Eq.trans (World.drewN_drewN _ _ _) (congrArg (World.drewN _) (Nat.add_assoc _ _ _))⟩))))
            go_meet
            case rel => exact ⟨_, (true), (by first | rfl | simp [*]), H', ⟨by have := HJ6.out; have := HK2.out; first | omega | exact Nat.le_refl _⟩, ⟨by (repeat (first | (with_reducible first | apply zn | apply zd | apply za) | refine zr ?_ NB158_161.out _)); (with_reducible repeat (first | apply zn | apply zd | apply za)); exact BK158.out⟩, ⟨by (with_reducible repeat (first | apply zn | apply zd | apply za)); refine zp (cs := #[.string ((rT l0_2 x4_2).f0), .string ((rT l0_2 x4_2).f1), .int .i64 ((rT l0_2 x4_2).f2), .int .i64 ((rT l0_2 x4_2).f3.f0), .int .i64 ((rT l0_2 x4_2).f3.f1), .int .i64 ((rT l0_2 x4_2).f3.f2), .int .i64 ((rT l0_2 x4_2).f3.f3), .int .i64 ((rT l0_2 x4_2).f4.f0), .int .i64 ((rT l0_2 x4_2).f4.f1), .int .i64 ((rT l0_2 x4_2).f4.f2), .int .i64 ((rT l0_2 x4_2).f4.f3), .int .i64 0]) ?_ 11 _ rfl; (with_reducible repeat (first | apply zn | apply zd | apply za)); refine zp (cs := #[.string ((rT l0_2 x4_2).f0), .string ((rT l0_2 x4_2).f1), .int .i64 ((rT l0_2 x4_2).f2), .int .i64 ((rT l0_2 x4_2).f3.f0), .int .i64 ((rT l0_2 x4_2).f3.f1), .int .i64 ((rT l0_2 x4_2).f3.f2), .int .i64 ((rT l0_2 x4_2).f3.f3), .int .i64 ((rT l0_2 x4_2).f4.f0), .int .i64 ((rT l0_2 x4_2).f4.f1), .int .i64 ((rT l0_2 x4_2).f4.f2), .int .i64 0, .int .i64 0]) ?_ 10 _ rfl; (with_reducible repeat (first | apply zn | apply zd | apply za)); refine zp (cs := #[.string ((rT l0_2 x4_2).f0), .string ((rT l0_2 x4_2).f1), .int .i64 ((rT l0_2 x4_2).f2), .int .i64 ((rT l0_2 x4_2).f3.f0), .int .i64 ((rT l0_2 x4_2).f3.f1), .int .i64 ((rT l0_2 x4_2).f3.f2), .int .i64 ((rT l0_2 x4_2).f3.f3), .int .i64 ((rT l0_2 x4_2).f4.f0), .int .i64 ((rT l0_2 x4_2).f4.f1), .int .i64 0, .int .i64 0, .int .i64 0]) ?_ 9 _ rfl; (with_reducible repeat (first | apply zn | apply zd | apply za)); refine zp (cs := #[.string ((rT l0_2 x4_2).f0), .string ((rT l0_2 x4_2).f1), .int .i64 ((rT l0_2 x4_2).f2), .int .i64 ((rT l0_2 x4_2).f3.f0), .int .i64 ((rT l0_2 x4_2).f3.f1), .int .i64 ((rT l0_2 x4_2).f3.f2), .int .i64 ((rT l0_2 x4_2).f3.f3), .int .i64 ((rT l0_2 x4_2).f4.f0), .int .i64 0, .int .i64 0, .int .i64 0, .int .i64 0]) ?_ 8 _ rfl; (with_reducible repeat (first | apply zn | apply zd | apply za)); refine zp (cs := #[.string ((rT l0_2 x4_2).f0), .string ((rT l0_2 x4_2).f1), .int .i64 ((rT l0_2 x4_2).f2), .int .i64 ((rT l0_2 x4_2).f3.f0), .int .i64 ((rT l0_2 x4_2).f3.f1), .int .i64 ((rT l0_2 x4_2).f3.f2), .int .i64 ((rT l0_2 x4_2).f3.f3), .int .i64 0, .int .i64 0, .int .i64 0, .int .i64 0, .int .i64 0]) ?_ 7 _ rfl; (with_reducible repeat (first | apply zn | apply zd | apply za)); refine zp (cs := #[.string ((rT l0_2 x4_2).f0), .string ((rT l0_2 x4_2).f1), .int .i64 ((rT l0_2 x4_2).f2), .int .i64 ((rT l0_2 x4_2).f3.f0), .int .i64 ((rT l0_2 x4_2).f3.f1), .int .i64 ((rT l0_2 x4_2).f3.f2), .int .i64 0, .int .i64 0, .int .i64 0, .int .i64 0, .int .i64 0, .int .i64 0]) ?_ 6 _ rfl; (with_reducible repeat (first | apply zn | apply zd | apply za)); refine zp (cs := #[.string ((rT l0_2 x4_2).f0), .string ((rT l0_2 x4_2).f1), .int .i64 ((rT l0_2 x4_2).f2), .int .i64 ((rT l0_2 x4_2).f3.f0), .int .i64 ((rT l0_2 x4_2).f3.f1), .int .i64 0, .int .i64 0, .int .i64 0, .int .i64 0, .int .i64 0, .int .i64 0, .int .i64 0]) ?_ 5 _ rfl; (with_reducible repeat (first | apply zn | apply zd | apply za)); refine zp (cs := #[.string ((rT l0_2 x4_2).f0), .string ((rT l0_2 x4_2).f1), .int .i64 ((rT l0_2 x4_2).f2), .int .i64 ((rT l0_2 x4_2).f3.f0), .int .i64 0, .int .i64 0, .int .i64 0, .int .i64 0, .int .i64 0, .int .i64 0, .int .i64 0, .int .i64 0]) ?_ 4 _ rfl; (with_reducible repeat (first | apply zn | apply zd | apply za)); refine zp (cs := #[.string ((rT l0_2 x4_2).f0), .string ((rT l0_2 x4_2).f1), .int .i64 ((rT l0_2 x4_2).f2), .int .i64 0, .int .i64 0, .int .i64 0, .int .i64 0, .int .i64 0, .int .i64 0, .int .i64 0, .int .i64 0, .int .i64 0]) ?_ 3 _ rfl; (with_reducible repeat (first | apply zn | apply zd | apply za)); refine zp (cs := #[.string ((rT l0_2 x4_2).f0), .string ((rT l0_2 x4_2).f1), .int .i64 0, .int .i64 0, .int .i64 0, .int .i64 0, .int .i64 0, .int .i64 0, .int .i64 0, .int .i64 0, .int .i64 0, .int .i64 0]) ?_ 2 _ rfl; (with_reducible repeat (first | apply zn | apply zd | apply za)); refine zp (cs := #[.string ((rT l0_2 x4_2).f0), .string ⟨#[]⟩, .int .i64 0, .int .i64 0, .int .i64 0, .int .i64 0, .int .i64 0, .int .i64 0, .int .i64 0, .int .i64 0, .int .i64 0, .int .i64 0]) ?_ 1 _ rfl; (with_reducible repeat (first | apply zn | apply zd | apply za)); refine zp (cs := #[.string ⟨#[]⟩, .string ⟨#[]⟩, .int .i64 0, .int .i64 0, .int .i64 0, .int .i64 0, .int .i64 0, .int .i64 0, .int .i64 0, .int .i64 0, .int .i64 0, .int .i64 0]) ?_ 0 _ rfl; (with_reducible repeat (first | apply zn | apply zd | apply za)); exact BK161.out⟩, ⟨by repeat (first | (with_reducible first | exact HB.out | apply pa | apply pd | apply pe | refine zs ?_ GE158.out | refine zs ?_ GE161.out) | exact HB.out)⟩⟩
           case rest =>
            clear HC23
            try clear c1
            try clear p1
            try clear q1
            try clear hx1
            try clear c2
            try clear p2
            try clear c3
            try clear c6
            try clear c8
            try clear c8b0
            try clear c12
            try clear c13
            try clear c15
            try clear c15b0
            try clear c15b1
            try clear p16
            try clear q16
            try clear hx16
            try clear c18
            try clear c18b0
            try clear c18b1
            try clear c21
            try clear c21b0
            try clear c22
            try clear c22b0
            try clear c26
            try clear c29
            try clear c31
            try clear c33
            try clear hcz10_0
            try clear hcz10_1
            try clear hcz10_2
            try clear hcz14_0
            try clear hcz14_1
            try clear hcz14_2
            try clear hcz17_0
            try clear hcz17_1
            try clear hcz17_2
            try clear hcz20_0
            try clear hcz20_1
            try clear hcz20_2
            try clear hcz24_0
            try clear hcz24_1
            try clear hcz24_2
            try clear hcz27_0
            try clear hcz27_1
            try clear hcz27_10
            try clear hcz27_11
            try clear hcz27_2
            try clear hcz27_3
            try clear hcz27_4
            try clear hcz27_5
            try clear hcz27_6
            try clear hcz27_7
            try clear hcz27_8
            try clear hcz27_9
            try clear hcz32_0
            try clear hcz32_1
            try clear hcz32_10
            try clear hcz32_11
            try clear hcz32_2
            try clear hcz32_3
            try clear hcz32_4
            try clear hcz32_5
            try clear hcz32_6
            try clear hcz32_7
            try clear hcz32_8
            try clear hcz32_9
            try clear hcz34_0
            try clear hcz34_1
            try clear hcz34_10
            try clear hcz34_11
            try clear hcz34_2
            try clear hcz34_3
            try clear hcz34_4
            try clear hcz34_5
            try clear hcz34_6
            try clear hcz34_7
            try clear hcz34_8
            try clear hcz34_9
            try clear hcz5_0
            try clear hcz5_1
            try clear hcz5_2
            try clear hcz9_0
            try clear hcz9_1
            try clear hcz9_2
            try clear hfz10_0
            try clear hfz10_1
            try clear hfz10_2
            try clear hfz14_0
            try clear hfz14_1
            try clear hfz14_2
            try clear hfz17_0
            try clear hfz17_1
            try clear hfz17_2
            try clear hfz20_0
            try clear hfz20_1
            try clear hfz20_2
            try clear hfz24_0
            try clear hfz24_1
            try clear hfz24_2
            try clear hfz27_0
            try clear hfz27_1
            try clear hfz27_10
            try clear hfz27_11
            try clear hfz27_2
            try clear hfz27_3
            try clear hfz27_4
            try clear hfz27_5
            try clear hfz27_6
            try clear hfz27_7
            try clear hfz27_8
            try clear hfz27_9
            try clear hfz32_0
            try clear hfz32_1
            try clear hfz32_10
            try clear hfz32_11
            try clear hfz32_2
            try clear hfz32_3
            try clear hfz32_4
            try clear hfz32_5
            try clear hfz32_6
            try clear hfz32_7
            try clear hfz32_8
            try clear hfz32_9
            try clear hfz34_0
            try clear hfz34_1
            try clear hfz34_10
            try clear hfz34_11
            try clear hfz34_2
            try clear hfz34_3
            try clear hfz34_4
            try clear hfz34_5
            try clear hfz34_6
            try clear hfz34_7
            try clear hfz34_8
            try clear hfz34_9
            try clear hfz5_0
            try clear hfz5_1
            try clear hfz5_2
            try clear hfz9_0
            try clear hfz9_1
            try clear hfz9_2
            try clear hx160_0
            try clear hx160_1
            try clear hx160_10
            try clear hx160_11
            try clear hx160_2
            try clear hx160_3
            try clear hx160_4
            try clear hx160_5
            try clear hx160_6
            try clear hx160_7
            try clear hx160_8
            try clear hx160_9
            try clear p160
            try clear p2
            try clear q160
            obtain ⟨kq, x48_22, rfl, HA, HJ22, BK158, BK161, HB⟩ := hcut
            cases kq with
            | zero => exact absurd HA.out (by simp [uK.j2])
            | succ kj22 =>
             have H := HA.out
             clear HA
             simp only [uK.j2] at H
             have HF35 := ak_ H
             clear H
             go_upto_if 48 with (fail)
             repeat (go_quiet (fail); go_upto_if 48 with (fail))
             have H := HF35.out
             clear HF35
             by_cases c36 : x48_22 = true
             · subst c36
               have H1 : (some (x4_2, 10)) = some (r1, r2) := by rw [if_pos rfl] at H; exact H
               clear H
               have H := H1
               clear H1
               simp only [Option.some.injEq, Prod.mk.injEq] at H
               obtain ⟨rfl, rfl⟩ := H
               go_wp2
               repeat (go_quiet (fail); try go_wp2)
               go_ret2
               exact ⟨by first | rfl | simp [*], by repeat (first | (with_reducible first | exact HB.out | apply pa | apply pd | apply pe | refine zs ?_ GE158.out | refine zs ?_ GE161.out) | exact HB.out)⟩
             replace c36 := Bool.eq_false_iff.mpr c36
             subst c36
             have H1 : (uK.l1 kj22 x4_2 0 a0_0 a0_1 l0_2 ((rT l0_2 x4_2).f0) ((rT l0_2 x4_2).f1) ((rT l0_2 x4_2).f2) ((rT l0_2 x4_2).f3.f0) ((rT l0_2 x4_2).f3.f1) ((rT l0_2 x4_2).f3.f2) ((rT l0_2 x4_2).f3.f3) ((rT l0_2 x4_2).f4.f0) ((rT l0_2 x4_2).f4.f1) ((rT l0_2 x4_2).f4.f2) ((rT l0_2 x4_2).f4.f3) ((rT l0_2 x4_2).f5)) = some (r1, r2) := by rw [if_neg (show ¬ (false = true) by decide)] at H; exact H
             clear H
             have H := H1
             clear H1
             have H' := ak_ H
             clear H
             go_wp2
             repeat (go_quiet (fail); try go_wp2)
             go_loopg [6] kj22 (fun kq v6 w' => ∃ (x6_4 : Int), v6 = .int .i64 x6_4 ∧ Aside0 (uK.l1 kq x4_2 x6_4 a0_0 a0_1 l0_2 ((rT l0_2 x4_2).f0) ((rT l0_2 x4_2).f1) ((rT l0_2 x4_2).f2) ((rT l0_2 x4_2).f3.f0) ((rT l0_2 x4_2).f3.f1) ((rT l0_2 x4_2).f3.f2) ((rT l0_2 x4_2).f3.f3) ((rT l0_2 x4_2).f4.f0) ((rT l0_2 x4_2).f4.f1) ((rT l0_2 x4_2).f4.f2) ((rT l0_2 x4_2).f4.f3) ((rT l0_2 x4_2).f5) = some (r1, r2)) ∧ Aside0 (kq ≤ kj22) ∧ Aside0 (w'.heap[gb158]? = some (.cells #[.string a0_0, .int .i64 a0_1, (.slice (some ad160) l0_2.length c0_2)] 24 (0, 0))) ∧ Aside0 (w'.heap[gb161]? = some (.cells #[.string ((rT l0_2 x4_2).f0), .string ((rT l0_2 x4_2).f1), .int .i64 ((rT l0_2 x4_2).f2), .int .i64 ((rT l0_2 x4_2).f3.f0), .int .i64 ((rT l0_2 x4_2).f3.f1), .int .i64 ((rT l0_2 x4_2).f3.f2), .int .i64 ((rT l0_2 x4_2).f3.f3), .int .i64 ((rT l0_2 x4_2).f4.f0), .int .i64 ((rT l0_2 x4_2).f4.f1), .int .i64 ((rT l0_2 x4_2).f4.f2), .int .i64 ((rT l0_2 x4_2).f4.f3), .int .i64 ((rT l0_2 x4_2).f5)] 61 (0, 0))) ∧ Aside0 (Below w.heap.size w w'))
             case atStart => exact ⟨(0), (by first | rfl | simp [*]), H', ⟨Nat.le_refl _⟩, ⟨by (with_reducible repeat (first | apply zn | apply zd | apply za)); exact BK158.out⟩, ⟨by (with_reducible repeat (first | apply zn | apply zd | apply za)); exact BK161.out⟩, ⟨by repeat (first | (with_reducible first | exact HB.out | apply pa | apply pd | apply pe | refine zs ?_ GE158.out | refine zs ?_ GE161.out) | exact HB.out)⟩⟩
             case round =>
              clear H'
              try clear c1
              try clear p1
              try clear q1
              try clear hx1
              try clear c2
              try clear p2
              try clear c3
              try clear c6
              try clear c8
              try clear c8b0
              try clear c12
              try clear c13
              try clear c15
              try clear c15b0
              try clear c15b1
              try clear p16
              try clear q16
              try clear hx16
              try clear c18
              try clear c18b0
              try clear c18b1
              try clear c21
              try clear c21b0
              try clear c22
              try clear c22b0
              try clear c26
              try clear c29
              try clear c31
              try clear c33
              try clear c36
              try clear hcz10_0
              try clear hcz10_1
              try clear hcz10_2
              try clear hcz14_0
              try clear hcz14_1
              try clear hcz14_2
              try clear hcz17_0
              try clear hcz17_1
              try clear hcz17_2
              try clear hcz20_0
              try clear hcz20_1
              try clear hcz20_2
              try clear hcz24_0
              try clear hcz24_1
              try clear hcz24_2
              try clear hcz27_0
              try clear hcz27_1
              try clear hcz27_10
              try clear hcz27_11
              try clear hcz27_2
              try clear hcz27_3
              try clear hcz27_4
              try clear hcz27_5
              try clear hcz27_6
              try clear hcz27_7
              try clear hcz27_8
              try clear hcz27_9
              try clear hcz32_0
              try clear hcz32_1
              try clear hcz32_10
              try clear hcz32_11
              try clear hcz32_2
              try clear hcz32_3
              try clear hcz32_4
              try clear hcz32_5
              try clear hcz32_6
              try clear hcz32_7
              try clear hcz32_8
              try clear hcz32_9
              try clear hcz34_0
              try clear hcz34_1
              try clear hcz34_10
              try clear hcz34_11
              try clear hcz34_2
              try clear hcz34_3
              try clear hcz34_4
              try clear hcz34_5
              try clear hcz34_6
              try clear hcz34_7
              try clear hcz34_8
              try clear hcz34_9
              try clear hcz5_0
              try clear hcz5_1
              try clear hcz5_2
              try clear hcz9_0
              try clear hcz9_1
              try clear hcz9_2
              try clear hfz10_0
              try clear hfz10_1
              try clear hfz10_2
              try clear hfz14_0
              try clear hfz14_1
              try clear hfz14_2
              try clear hfz17_0
              try clear hfz17_1
              try clear hfz17_2
              try clear hfz20_0
              try clear hfz20_1
              try clear hfz20_2
              try clear hfz24_0
              try clear hfz24_1
              try clear hfz24_2
              try clear hfz27_0
              try clear hfz27_1
              try clear hfz27_10
              try clear hfz27_11
              try clear hfz27_2
              try clear hfz27_3
              try clear hfz27_4
              try clear hfz27_5
              try clear hfz27_6
              try clear hfz27_7
              try clear hfz27_8
              try clear hfz27_9
              try clear hfz32_0
              try clear hfz32_1
              try clear hfz32_10
              try clear hfz32_11
              try clear hfz32_2
              try clear hfz32_3
              try clear hfz32_4
              try clear hfz32_5
              try clear hfz32_6
              try clear hfz32_7
              try clear hfz32_8
              try clear hfz32_9
              try clear hfz34_0
              try clear hfz34_1
              try clear hfz34_10
              try clear hfz34_11
              try clear hfz34_2
              try clear hfz34_3
              try clear hfz34_4
              try clear hfz34_5
              try clear hfz34_6
              try clear hfz34_7
              try clear hfz34_8
              try clear hfz34_9
              try clear hfz5_0
              try clear hfz5_1
              try clear hfz5_2
              try clear hfz9_0
              try clear hfz9_1
              try clear hfz9_2
              try clear hx160_0
              try clear hx160_1
              try clear hx160_10
              try clear hx160_11
              try clear hx160_2
              try clear hx160_3
              try clear hx160_4
              try clear hx160_5
              try clear hx160_6
              try clear hx160_7
              try clear hx160_8
              try clear hx160_9
              try clear p1
              try clear p16
              try clear p160
              try clear p2
              try clear q1
              try clear q16
              try clear q160
              obtain ⟨x6_4, rfl, HA, HK4, BK158, BK161, HB⟩ := hrel
              cases gk with
              | zero => exact absurd HA.out (by simp [uK.l1])
              | succ k4 =>
               have H := HA.out
               clear HA
               simp only [uK.l1] at H
               have HF37 := ak_ H
               clear H
               go_upto_if 52 with (fail)
               repeat (go_quiet (fail); go_upto_if 52 with (fail))
               have H := HF37.out
               clear HF37
               by_cases c38 : x6_4 < x4_2
               · rw [if_pos c38] at H
                 have c38b0 : decide (x6_4 < x4_2) = true := dt_ c38
                 clear c38
                 (first | rw [c38b0] | (simp only [i64_w, i32_w]; rw [c38b0]) | skip)
                 by_cases c39 : 0 ≤ x6_4
                 · rw [if_pos c39] at H
                   have c39b0 : decide (0 ≤ x6_4) = true := dt_ c39
                   clear c39
                   by_cases c40 : x6_4 < (l0_2.length : Int)
                   · rw [if_pos c40] at H
                     have c40b0 : decide (x6_4 < (l0_2.length : Int)) = true := dt_ c40
                     clear c40
                     have HF41 := ak_ H
                     clear H
                     have hnb42 := NB158_161.out
                     have hnc42 := NB161_158.out
                     have hcz43_0 : wr.cell? ⟨gb158, 0, none⟩ = some (.string a0_0) := (zc BK158.out 0).trans rfl
                     have hcz43_1 : wr.cell? ⟨gb158, 1, none⟩ = some (.int .i64 a0_1) := (zc BK158.out 1).trans rfl
                     have hcz43_2 : wr.cell? ⟨gb158, 2, none⟩ = some (.slice (some ad160) l0_2.length c0_2) := (zc BK158.out 2).trans rfl
                     have hfz43_0 := zf BK158.out 0
                     have hfz43_1 := zf BK158.out 1
                     have hfz43_2 := zf BK158.out 2
                     have p164 : 0 ≤ (x6_4 : Int) := of_decide_eq_true (by assumption)
                     have q164 : x6_4 < (l0_2.length : Int) := of_decide_eq_true (by assumption)
                     obtain ⟨ad164, e164, hx164_0, hx164_1, hx164_2, hx164_3, hx164_4, hx164_5, hx164_6, hx164_7, hx164_8, hx164_9, hx164_10, hx164_11⟩ := at_T61 HR0_2.out x6_4 p164 q164
                     obtain rfl : ad160 = ad164 := (by injection e164)
                     replace hx164_0 := (HB.out.cell (bl_ w _ hx164_0)).trans hx164_0
                     replace hx164_1 := (HB.out.cell (bl_ w _ hx164_1)).trans hx164_1
                     replace hx164_2 := (HB.out.cell (bl_ w _ hx164_2)).trans hx164_2
                     replace hx164_3 := (HB.out.cell (bl_ w _ hx164_3)).trans hx164_3
                     replace hx164_4 := (HB.out.cell (bl_ w _ hx164_4)).trans hx164_4
                     replace hx164_5 := (HB.out.cell (bl_ w _ hx164_5)).trans hx164_5
                     replace hx164_6 := (HB.out.cell (bl_ w _ hx164_6)).trans hx164_6
                     replace hx164_7 := (HB.out.cell (bl_ w _ hx164_7)).trans hx164_7
                     replace hx164_8 := (HB.out.cell (bl_ w _ hx164_8)).trans hx164_8
                     replace hx164_9 := (HB.out.cell (bl_ w _ hx164_9)).trans hx164_9
                     replace hx164_10 := (HB.out.cell (bl_ w _ hx164_10)).trans hx164_10
                     replace hx164_11 := (HB.out.cell (bl_ w _ hx164_11)).trans hx164_11
                     replace p164 := eq_true p164
                     replace q164 := eq_true q164
                     have hcz44_0 : wr.cell? ⟨gb161, 0, none⟩ = some (.string ((rT l0_2 x4_2).f0)) := (zc BK161.out 0).trans rfl
                     have hcz44_1 : wr.cell? ⟨gb161, 1, none⟩ = some (.string ((rT l0_2 x4_2).f1)) := (zc BK161.out 1).trans rfl
                     have hcz44_2 : wr.cell? ⟨gb161, 2, none⟩ = some (.int .i64 ((rT l0_2 x4_2).f2)) := (zc BK161.out 2).trans rfl
                     have hcz44_3 : wr.cell? ⟨gb161, 3, none⟩ = some (.int .i64 ((rT l0_2 x4_2).f3.f0)) := (zc BK161.out 3).trans rfl
                     have hcz44_4 : wr.cell? ⟨gb161, 4, none⟩ = some (.int .i64 ((rT l0_2 x4_2).f3.f1)) := (zc BK161.out 4).trans rfl
                     have hcz44_5 : wr.cell? ⟨gb161, 5, none⟩ = some (.int .i64 ((rT l0_2 x4_2).f3.f2)) := (zc BK161.out 5).trans rfl
                     have hcz44_6 : wr.cell? ⟨gb161, 6, none⟩ = some (.int .i64 ((rT l0_2 x4_2).f3.f3)) := (zc BK161.out 6).trans rfl
                     have hcz44_7 : wr.cell? ⟨gb161, 7, none⟩ = some (.int .i64 ((rT l0_2 x4_2).f4.f0)) := (zc BK161.out 7).trans rfl
                     have hcz44_8 : wr.cell? ⟨gb161, 8, none⟩ = some (.int .i64 ((rT l0_2 x4_2).f4.f1)) := (zc BK161.out 8).trans rfl
                     have hcz44_9 : wr.cell? ⟨gb161, 9, none⟩ = some (.int .i64 ((rT l0_2 x4_2).f4.f2)) := (zc BK161.out 9).trans rfl
                     have hcz44_10 : wr.cell? ⟨gb161, 10, none⟩ = some (.int .i64 ((rT l0_2 x4_2).f4.f3)) := (zc BK161.out 10).trans rfl
                     have hcz44_11 : wr.cell? ⟨gb161, 11, none⟩ = some (.int .i64 ((rT l0_2 x4_2).f5)) := (zc BK161.out 11).trans rfl
                     have hfz44_0 := zf BK161.out 0
                     have hfz44_1 := zf BK161.out 1
                     have hfz44_2 := zf BK161.out 2
                     have hfz44_3 := zf BK161.out 3
                     have hfz44_4 := zf BK161.out 4
                     have hfz44_5 := zf BK161.out 5
                     have hfz44_6 := zf BK161.out 6
                     have hfz44_7 := zf BK161.out 7
                     have hfz44_8 := zf BK161.out 8
                     have hfz44_9 := zf BK161.out 9
                     have hfz44_10 := zf BK161.out 10
                     have hfz44_11 := zf BK161.out 11
                     go_upto_if 63 with (fail)
                     repeat (go_quiet (fail); go_upto_if 63 with (fail))
                     have H := HF41.out
                     clear HF41
                     by_cases c45 : ((rT l0_2 x6_4).f0).toList = ((rT l0_2 x4_2).f0).toList
                     · rw [if_pos c45] at H
                       have c45b0 : (((rT l0_2 x6_4).f0).toList == ((rT l0_2 x4_2).f0).toList) = true := beq_iff_eq.mpr c45
                       have c45b1 : (((rT l0_2 x6_4).f0).toList != ((rT l0_2 x4_2).f0).toList) = false := bne_eq_false_iff_eq.mpr c45
                       clear c45
                       (first | rw [c45b0] | (simp only [i64_w, i32_w]; rw [c45b0]) | skip)
                       simp only [Option.some.injEq, Prod.mk.injEq] at H
                       obtain ⟨rfl, rfl⟩ := H
                       go_wp2
                       repeat (go_quiet (fail); try go_wp2)
                       go_ret2
                       exact ⟨by first | rfl | simp [*], by repeat (first | (with_reducible first | exact HB.out | apply pa | apply pd | apply pe | refine zs ?_ GE158.out | refine zs ?_ GE161.out) | exact HB.out)⟩
                     rw [if_neg c45] at H
                     have c45b0 : (((rT l0_2 x6_4).f0).toList == ((rT l0_2 x4_2).f0).toList) = false := beq_eq_false_iff_ne.mpr c45
                     have c45b1 : (((rT l0_2 x6_4).f0).toList != ((rT l0_2 x4_2).f0).toList) = true := bne_iff_ne.mpr c45
                     (first | rw [c45b0] | (simp only [i64_w, i32_w]; rw [c45b0]) | skip)
                     have H' := ak_ H
                     clear H
                     go_wp2
                     repeat (go_quiet (fail); try go_wp2)
                     go_roundg k4
                     case measure => have := HJ6.out; have := HK2.out; have := HJ22.out; have := HK4.out; omega
                     case rel => exact ⟨(wrap64 (x6_4 + 1)), (by first | rfl | simp [*]), H', ⟨by have := HJ6.out; have := HK2.out; have := HJ22.out; have := HK4.out; omega⟩, ⟨by (with_reducible repeat (first | apply zn | apply zd | apply za)); exact BK158.out⟩, ⟨by (with_reducible repeat (first | apply zn | apply zd | apply za)); exact BK161.out⟩, ⟨by repeat (first | (with_reducible first | exact HB.out | apply pa | apply pd | apply pe | refine zs ?_ GE158.out | refine zs ?_ GE161.out) | exact HB.out)⟩⟩
                   rw [if_neg c40] at H
                   exact absurd H (by simp)
                 rw [if_neg c39] at H
                 exact absurd H (by simp)
               rw [if_neg c38] at H
               have c38b0 : decide (x6_4 < x4_2) = false := df_ c38
               clear c38
               (first | rw [c38b0] | (simp only [i64_w, i32_w]; rw [c38b0]) | skip)
               have HC46 := ak_ H
               clear H
               go_upto_region 20 with (fail)
               repeat (go_quiet (fail); go_upto_region 20 with (fail))
               go_cut [82] (fun v82 wc => ∃ (kq : Nat) (x82_45 : Bool), v82 = .bool x82_45 ∧ Aside0 (uK.j4 kq x4_2 x82_45 a0_0 a0_1 l0_2 ((rT l0_2 x4_2).f0) ((rT l0_2 x4_2).f1) ((rT l0_2 x4_2).f2) ((rT l0_2 x4_2).f3.f0) ((rT l0_2 x4_2).f3.f1) ((rT l0_2 x4_2).f3.f2) ((rT l0_2 x4_2).f3.f3) ((rT l0_2 x4_2).f4.f0) ((rT l0_2 x4_2).f4.f1) ((rT l0_2 x4_2).f4.f2) ((rT l0_2 x4_2).f4.f3) ((rT l0_2 x4_2).f5) = some (r1, r2)) ∧ Aside0 (kq ≤ k4) ∧ Aside0 (wc.heap[gb158]? = some (.cells #[.string a0_0, .int .i64 a0_1, (.slice (some ad160) l0_2.length c0_2)] 24 (0, 0))) ∧ Aside0 (wc.heap[gb161]? = some (.cells #[.string ((rT l0_2 x4_2).f0), .string ((rT l0_2 x4_2).f1), .int .i64 ((rT l0_2 x4_2).f2), .int .i64 ((rT l0_2 x4_2).f3.f0), .int .i64 ((rT l0_2 x4_2).f3.f1), .int .i64 ((rT l0_2 x4_2).f3.f2), .int .i64 ((rT l0_2 x4_2).f3.f3), .int .i64 ((rT l0_2 x4_2).f4.f0), .int .i64 ((rT l0_2 x4_2).f4.f1), .int .i64 ((rT l0_2 x4_2).f4.f2), .int .i64 ((rT l0_2 x4_2).f4.f3), .int .i64 ((rT l0_2 x4_2).f5)] 61 (0, 0))) ∧ Aside0 (Below w.heap.size w wc))
               case first =>
                have H := HC46.out
                clear HC46
                by_cases c47 : ((rT l0_2 x4_2).f2) < 1
                · rw [if_pos c47] at H
                  have c47b0 : decide (((rT l0_2 x4_2).f2) < 1) = true := dt_ c47
                  clear c47
                  (first | rw [c47b0] | (simp only [i64_w, i32_w]; rw [c47b0]) | skip)
                  have H' := ak_ H
                  clear H
                  have hnb48 := NB161_158.out
                  have hnc48 := NB158_161.out
                  have hcz49_0 : wr.cell? ⟨gb161, 0, none⟩ = some (.string ((rT l0_2 x4_2).f0)) := (zc BK161.out 0).trans rfl
                  have hcz49_1 : wr.cell? ⟨gb161, 1, none⟩ = some (.string ((rT l0_2 x4_2).f1)) := (zc BK161.out 1).trans rfl
                  have hcz49_2 : wr.cell? ⟨gb161, 2, none⟩ = some (.int .i64 ((rT l0_2 x4_2).f2)) := (zc BK161.out 2).trans rfl
                  have hcz49_3 : wr.cell? ⟨gb161, 3, none⟩ = some (.int .i64 ((rT l0_2 x4_2).f3.f0)) := (zc BK161.out 3).trans rfl
                  have hcz49_4 : wr.cell? ⟨gb161, 4, none⟩ = some (.int .i64 ((rT l0_2 x4_2).f3.f1)) := (zc BK161.out 4).trans rfl
                  have hcz49_5 : wr.cell? ⟨gb161, 5, none⟩ = some (.int .i64 ((rT l0_2 x4_2).f3.f2)) := (zc BK161.out 5).trans rfl
                  have hcz49_6 : wr.cell? ⟨gb161, 6, none⟩ = some (.int .i64 ((rT l0_2 x4_2).f3.f3)) := (zc BK161.out 6).trans rfl
                  have hcz49_7 : wr.cell? ⟨gb161, 7, none⟩ = some (.int .i64 ((rT l0_2 x4_2).f4.f0)) := (zc BK161.out 7).trans rfl
                  have hcz49_8 : wr.cell? ⟨gb161, 8, none⟩ = some (.int .i64 ((rT l0_2 x4_2).f4.f1)) := (zc BK161.out 8).trans rfl
                  have hcz49_9 : wr.cell? ⟨gb161, 9, none⟩ = some (.int .i64 ((rT l0_2 x4_2).f4.f2)) := (zc BK161.out 9).trans rfl
                  have hcz49_10 : wr.cell? ⟨gb161, 10, none⟩ = some (.int .i64 ((rT l0_2 x4_2).f4.f3)) := (zc BK161.out 10).trans rfl
                  have hcz49_11 : wr.cell? ⟨gb161, 11, none⟩ = some (.int .i64 ((rT l0_2 x4_2).f5)) := (zc BK161.out 11).trans rfl
                  have hfz49_0 := zf BK161.out 0
                  have hfz49_1 := zf BK161.out 1
                  have hfz49_2 := zf BK161.out 2
                  have hfz49_3 := zf BK161.out 3
                  have hfz49_4 := zf BK161.out 4
                  have hfz49_5 := zf BK161.out 5
                  have hfz49_6 := zf BK161.out 6
                  have hfz49_7 := zf BK161.out 7
                  have hfz49_8 := zf BK161.out 8
                  have hfz49_9 := zf BK161.out 9
                  have hfz49_10 := zf BK161.out 10
                  have hfz49_11 := zf BK161.out 11
                  go_wp2
                  repeat (go_quiet (fail); try go_wp2)
                  go_meet
                  case rel => exact ⟨_, (true), (by first | rfl | simp [*]), H', ⟨by have := HJ6.out; have := HK2.out; have := HJ22.out; have := HK4.out; first | omega | exact Nat.le_refl _⟩, ⟨by (with_reducible repeat (first | apply zn | apply zd | apply za)); exact BK158.out⟩, ⟨by (with_reducible repeat (first | apply zn | apply zd | apply za)); exact BK161.out⟩, ⟨by repeat (first | (with_reducible first | exact HB.out | apply pa | apply pd | apply pe | refine zs ?_ GE158.out | refine zs ?_ GE161.out) | exact HB.out)⟩⟩
                rw [if_neg c47] at H
                have c47b0 : decide (((rT l0_2 x4_2).f2) < 1) = false := df_ c47
                clear c47
                (first | rw [c47b0] | (simp only [i64_w, i32_w]; rw [c47b0]) | skip)
                by_cases c50 : ((rT l0_2 x4_2).f2) > 1099511627776
                · rw [if_pos c50] at H
                  have c50b0 : decide (1099511627776 < ((rT l0_2 x4_2).f2)) = true := dt_ c50
                  clear c50
                  have H' := ak_ H
                  clear H
                  have hnb51 := NB161_158.out
                  have hnc51 := NB158_161.out
                  have hcz52_0 : wr.cell? ⟨gb161, 0, none⟩ = some (.string ((rT l0_2 x4_2).f0)) := (zc BK161.out 0).trans rfl
                  have hcz52_1 : wr.cell? ⟨gb161, 1, none⟩ = some (.string ((rT l0_2 x4_2).f1)) := (zc BK161.out 1).trans rfl
                  have hcz52_2 : wr.cell? ⟨gb161, 2, none⟩ = some (.int .i64 ((rT l0_2 x4_2).f2)) := (zc BK161.out 2).trans rfl
                  have hcz52_3 : wr.cell? ⟨gb161, 3, none⟩ = some (.int .i64 ((rT l0_2 x4_2).f3.f0)) := (zc BK161.out 3).trans rfl
                  have hcz52_4 : wr.cell? ⟨gb161, 4, none⟩ = some (.int .i64 ((rT l0_2 x4_2).f3.f1)) := (zc BK161.out 4).trans rfl
                  have hcz52_5 : wr.cell? ⟨gb161, 5, none⟩ = some (.int .i64 ((rT l0_2 x4_2).f3.f2)) := (zc BK161.out 5).trans rfl
                  have hcz52_6 : wr.cell? ⟨gb161, 6, none⟩ = some (.int .i64 ((rT l0_2 x4_2).f3.f3)) := (zc BK161.out 6).trans rfl
                  have hcz52_7 : wr.cell? ⟨gb161, 7, none⟩ = some (.int .i64 ((rT l0_2 x4_2).f4.f0)) := (zc BK161.out 7).trans rfl
                  have hcz52_8 : wr.cell? ⟨gb161, 8, none⟩ = some (.int .i64 ((rT l0_2 x4_2).f4.f1)) := (zc BK161.out 8).trans rfl
                  have hcz52_9 : wr.cell? ⟨gb161, 9, none⟩ = some (.int .i64 ((rT l0_2 x4_2).f4.f2)) := (zc BK161.out 9).trans rfl
                  have hcz52_10 : wr.cell? ⟨gb161, 10, none⟩ = some (.int .i64 ((rT l0_2 x4_2).f4.f3)) := (zc BK161.out 10).trans rfl
                  have hcz52_11 : wr.cell? ⟨gb161, 11, none⟩ = some (.int .i64 ((rT l0_2 x4_2).f5)) := (zc BK161.out 11).trans rfl
                  have hfz52_0 := zf BK161.out 0
                  have hfz52_1 := zf BK161.out 1
                  have hfz52_2 := zf BK161.out 2
                  have hfz52_3 := zf BK161.out 3
                  have hfz52_4 := zf BK161.out 4
                  have hfz52_5 := zf BK161.out 5
                  have hfz52_6 := zf BK161.out 6
                  have hfz52_7 := zf BK161.out 7
                  have hfz52_8 := zf BK161.out 8
                  have hfz52_9 := zf BK161.out 9
                  have hfz52_10 := zf BK161.out 10
                  have hfz52_11 := zf BK161.out 11
                  go_wp2
                  repeat (go_quiet (fail); try go_wp2)
                  go_meet
                  case rel => exact ⟨_, (true), (by first | rfl | simp [*]), H', ⟨by have := HJ6.out; have := HK2.out; have := HJ22.out; have := HK4.out; first | omega | exact Nat.le_refl _⟩, ⟨by (with_reducible repeat (first | apply zn | apply zd | apply za)); exact BK158.out⟩, ⟨by (with_reducible repeat (first | apply zn | apply zd | apply za)); exact BK161.out⟩, ⟨by repeat (first | (with_reducible first | exact HB.out | apply pa | apply pd | apply pe | refine zs ?_ GE158.out | refine zs ?_ GE161.out) | exact HB.out)⟩⟩
                rw [if_neg c50] at H
                have c50b0 : decide (1099511627776 < ((rT l0_2 x4_2).f2)) = false := df_ c50
                clear c50
                by_cases c53 : ((rT l0_2 x4_2).f5) < 0
                · rw [if_pos c53] at H
                  have c53b0 : decide (((rT l0_2 x4_2).f5) < 0) = true := dt_ c53
                  clear c53
                  have H' := ak_ H
                  clear H
                  have hnb54 := NB161_158.out
                  have hnc54 := NB158_161.out
                  have hcz55_0 : wr.cell? ⟨gb161, 0, none⟩ = some (.string ((rT l0_2 x4_2).f0)) := (zc BK161.out 0).trans rfl
                  have hcz55_1 : wr.cell? ⟨gb161, 1, none⟩ = some (.string ((rT l0_2 x4_2).f1)) := (zc BK161.out 1).trans rfl
                  have hcz55_2 : wr.cell? ⟨gb161, 2, none⟩ = some (.int .i64 ((rT l0_2 x4_2).f2)) := (zc BK161.out 2).trans rfl
                  have hcz55_3 : wr.cell? ⟨gb161, 3, none⟩ = some (.int .i64 ((rT l0_2 x4_2).f3.f0)) := (zc BK161.out 3).trans rfl
                  have hcz55_4 : wr.cell? ⟨gb161, 4, none⟩ = some (.int .i64 ((rT l0_2 x4_2).f3.f1)) := (zc BK161.out 4).trans rfl
                  have hcz55_5 : wr.cell? ⟨gb161, 5, none⟩ = some (.int .i64 ((rT l0_2 x4_2).f3.f2)) := (zc BK161.out 5).trans rfl
                  have hcz55_6 : wr.cell? ⟨gb161, 6, none⟩ = some (.int .i64 ((rT l0_2 x4_2).f3.f3)) := (zc BK161.out 6).trans rfl
                  have hcz55_7 : wr.cell? ⟨gb161, 7, none⟩ = some (.int .i64 ((rT l0_2 x4_2).f4.f0)) := (zc BK161.out 7).trans rfl
                  have hcz55_8 : wr.cell? ⟨gb161, 8, none⟩ = some (.int .i64 ((rT l0_2 x4_2).f4.f1)) := (zc BK161.out 8).trans rfl
                  have hcz55_9 : wr.cell? ⟨gb161, 9, none⟩ = some (.int .i64 ((rT l0_2 x4_2).f4.f2)) := (zc BK161.out 9).trans rfl
                  have hcz55_10 : wr.cell? ⟨gb161, 10, none⟩ = some (.int .i64 ((rT l0_2 x4_2).f4.f3)) := (zc BK161.out 10).trans rfl
                  have hcz55_11 : wr.cell? ⟨gb161, 11, none⟩ = some (.int .i64 ((rT l0_2 x4_2).f5)) := (zc BK161.out 11).trans rfl
                  have hfz55_0 := zf BK161.out 0
                  have hfz55_1 := zf BK161.out 1
                  have hfz55_2 := zf BK161.out 2
                  have hfz55_3 := zf BK161.out 3
                  have hfz55_4 := zf BK161.out 4
                  have hfz55_5 := zf BK161.out 5
                  have hfz55_6 := zf BK161.out 6
                  have hfz55_7 := zf BK161.out 7
                  have hfz55_8 := zf BK161.out 8
                  have hfz55_9 := zf BK161.out 9
                  have hfz55_10 := zf BK161.out 10
                  have hfz55_11 := zf BK161.out 11
                  go_wp2
                  repeat (go_quiet (fail); try go_wp2)
                  go_meet
                  case rel => exact ⟨_, (true), (by first | rfl | simp [*]), H', ⟨by have := HJ6.out; have := HK2.out; have := HJ22.out; have := HK4.out; first | omega | exact Nat.le_refl _⟩, ⟨by (with_reducible repeat (first | apply zn | apply zd | apply za)); exact BK158.out⟩, ⟨by (with_reducible repeat (first | apply zn | apply zd | apply za)); exact BK161.out⟩, ⟨by repeat (first | (with_reducible first | exact HB.out | apply pa | apply pd | apply pe | refine zs ?_ GE158.out | refine zs ?_ GE161.out) | exact HB.out)⟩⟩
                rw [if_neg c53] at H
                have c53b0 : decide (((rT l0_2 x4_2).f5) < 0) = false := df_ c53
                clear c53
                have H' := ak_ H
                clear H
                have hnb56 := NB161_158.out
                have hnc56 := NB158_161.out
                have hcz57_0 : wr.cell? ⟨gb161, 0, none⟩ = some (.string ((rT l0_2 x4_2).f0)) := (zc BK161.out 0).trans rfl
                have hcz57_1 : wr.cell? ⟨gb161, 1, none⟩ = some (.string ((rT l0_2 x4_2).f1)) := (zc BK161.out 1).trans rfl
                have hcz57_2 : wr.cell? ⟨gb161, 2, none⟩ = some (.int .i64 ((rT l0_2 x4_2).f2)) := (zc BK161.out 2).trans rfl
                have hcz57_3 : wr.cell? ⟨gb161, 3, none⟩ = some (.int .i64 ((rT l0_2 x4_2).f3.f0)) := (zc BK161.out 3).trans rfl
                have hcz57_4 : wr.cell? ⟨gb161, 4, none⟩ = some (.int .i64 ((rT l0_2 x4_2).f3.f1)) := (zc BK161.out 4).trans rfl
                have hcz57_5 : wr.cell? ⟨gb161, 5, none⟩ = some (.int .i64 ((rT l0_2 x4_2).f3.f2)) := (zc BK161.out 5).trans rfl
                have hcz57_6 : wr.cell? ⟨gb161, 6, none⟩ = some (.int .i64 ((rT l0_2 x4_2).f3.f3)) := (zc BK161.out 6).trans rfl
                have hcz57_7 : wr.cell? ⟨gb161, 7, none⟩ = some (.int .i64 ((rT l0_2 x4_2).f4.f0)) := (zc BK161.out 7).trans rfl
                have hcz57_8 : wr.cell? ⟨gb161, 8, none⟩ = some (.int .i64 ((rT l0_2 x4_2).f4.f1)) := (zc BK161.out 8).trans rfl
                have hcz57_9 : wr.cell? ⟨gb161, 9, none⟩ = some (.int .i64 ((rT l0_2 x4_2).f4.f2)) := (zc BK161.out 9).trans rfl
                have hcz57_10 : wr.cell? ⟨gb161, 10, none⟩ = some (.int .i64 ((rT l0_2 x4_2).f4.f3)) := (zc BK161.out 10).trans rfl
                have hcz57_11 : wr.cell? ⟨gb161, 11, none⟩ = some (.int .i64 ((rT l0_2 x4_2).f5)) := (zc BK161.out 11).trans rfl
                have hfz57_0 := zf BK161.out 0
                have hfz57_1 := zf BK161.out 1
                have hfz57_2 := zf BK161.out 2
                have hfz57_3 := zf BK161.out 3
                have hfz57_4 := zf BK161.out 4
                have hfz57_5 := zf BK161.out 5
                have hfz57_6 := zf BK161.out 6
                have hfz57_7 := zf BK161.out 7
                have hfz57_8 := zf BK161.out 8
                have hfz57_9 := zf BK161.out 9
                have hfz57_10 := zf BK161.out 10
                have hfz57_11 := zf BK161.out 11
                go_wp2
                repeat (go_quiet (fail); try go_wp2)
                go_meet
                case rel => exact ⟨_, (decide (((rT l0_2 x4_2).f5) > 255)), (by first | rfl | simp [*]), H', ⟨by have := HJ6.out; have := HK2.out; have := HJ22.out; have := HK4.out; first | omega | exact Nat.le_refl _⟩, ⟨by (with_reducible repeat (first | apply zn | apply zd | apply za)); exact BK158.out⟩, ⟨by (with_reducible repeat (first | apply zn | apply zd | apply za)); exact BK161.out⟩, ⟨by repeat (first | (with_reducible first | exact HB.out | apply pa | apply pd | apply pe | refine zs ?_ GE158.out | refine zs ?_ GE161.out) | exact HB.out)⟩⟩
               case rest =>
                clear HC46
                try clear c1
                try clear p1
                try clear q1
                try clear hx1
                try clear c2
                try clear p2
                try clear c3
                try clear c4
                try clear c5
                try clear c6
                try clear p6
                try clear c8
                try clear c8b0
                try clear c12
                try clear c13
                try clear c15
                try clear c15b0
                try clear c15b1
                try clear p16
                try clear q16
                try clear hx16
                try clear c18
                try clear c18b0
                try clear c18b1
                try clear c21
                try clear c21b0
                try clear c22
                try clear c22b0
                try clear c26
                try clear c29
                try clear c31
                try clear c33
                try clear c36
                try clear c38
                try clear c38b0
                try clear c39
                try clear c39b0
                try clear c40
                try clear c40b0
                try clear c42
                try clear c45
                try clear c45b0
                try clear c45b1
                try clear c47
                try clear c47b0
                try clear c48
                try clear c50
                try clear c50b0
                try clear c51
                try clear c53
                try clear c53b0
                try clear c54
                try clear c56
                try clear hcz10_0
                try clear hcz10_1
                try clear hcz10_2
                try clear hcz14_0
                try clear hcz14_1
                try clear hcz14_2
                try clear hcz17_0
                try clear hcz17_1
                try clear hcz17_2
                try clear hcz20_0
                try clear hcz20_1
                try clear hcz20_2
                try clear hcz24_0
                try clear hcz24_1
                try clear hcz24_2
                try clear hcz27_0
                try clear hcz27_1
                try clear hcz27_10
                try clear hcz27_11
                try clear hcz27_2
                try clear hcz27_3
                try clear hcz27_4
                try clear hcz27_5
                try clear hcz27_6
                try clear hcz27_7
                try clear hcz27_8
                try clear hcz27_9
                try clear hcz32_0
                try clear hcz32_1
                try clear hcz32_10
                try clear hcz32_11
                try clear hcz32_2
                try clear hcz32_3
                try clear hcz32_4
                try clear hcz32_5
                try clear hcz32_6
                try clear hcz32_7
                try clear hcz32_8
                try clear hcz32_9
                try clear hcz34_0
                try clear hcz34_1
                try clear hcz34_10
                try clear hcz34_11
                try clear hcz34_2
                try clear hcz34_3
                try clear hcz34_4
                try clear hcz34_5
                try clear hcz34_6
                try clear hcz34_7
                try clear hcz34_8
                try clear hcz34_9
                try clear hcz43_0
                try clear hcz43_1
                try clear hcz43_2
                try clear hcz44_0
                try clear hcz44_1
                try clear hcz44_10
                try clear hcz44_11
                try clear hcz44_2
                try clear hcz44_3
                try clear hcz44_4
                try clear hcz44_5
                try clear hcz44_6
                try clear hcz44_7
                try clear hcz44_8
                try clear hcz44_9
                try clear hcz49_0
                try clear hcz49_1
                try clear hcz49_10
                try clear hcz49_11
                try clear hcz49_2
                try clear hcz49_3
                try clear hcz49_4
                try clear hcz49_5
                try clear hcz49_6
                try clear hcz49_7
                try clear hcz49_8
                try clear hcz49_9
                try clear hcz52_0
                try clear hcz52_1
                try clear hcz52_10
                try clear hcz52_11
                try clear hcz52_2
                try clear hcz52_3
                try clear hcz52_4
                try clear hcz52_5
                try clear hcz52_6
                try clear hcz52_7
                try clear hcz52_8
                try clear hcz52_9
                try clear hcz55_0
                try clear hcz55_1
                try clear hcz55_10
                try clear hcz55_11
                try clear hcz55_2
                try clear hcz55_3
                try clear hcz55_4
                try clear hcz55_5
                try clear hcz55_6
                try clear hcz55_7
                try clear hcz55_8
                try clear hcz55_9
                try clear hcz57_0
                try clear hcz57_1
                try clear hcz57_10
                try clear hcz57_11
                try clear hcz57_2
                try clear hcz57_3
                try clear hcz57_4
                try clear hcz57_5
                try clear hcz57_6
                try clear hcz57_7
                try clear hcz57_8
                try clear hcz57_9
                try clear hcz5_0
                try clear hcz5_1
                try clear hcz5_2
                try clear hcz9_0
                try clear hcz9_1
                try clear hcz9_2
                try clear hfz10_0
                try clear hfz10_1
                try clear hfz10_2
                try clear hfz14_0
                try clear hfz14_1
                try clear hfz14_2
                try clear hfz17_0
                try clear hfz17_1
                try clear hfz17_2
                try clear hfz20_0
                try clear hfz20_1
                try clear hfz20_2
                try clear hfz24_0
                try clear hfz24_1
                try clear hfz24_2
                try clear hfz27_0
                try clear hfz27_1
                try clear hfz27_10
                try clear hfz27_11
                try clear hfz27_2
                try clear hfz27_3
                try clear hfz27_4
                try clear hfz27_5
                try clear hfz27_6
                try clear hfz27_7
                try clear hfz27_8
                try clear hfz27_9
                try clear hfz32_0
                try clear hfz32_1
                try clear hfz32_10
                try clear hfz32_11
                try clear hfz32_2
                try clear hfz32_3
                try clear hfz32_4
                try clear hfz32_5
                try clear hfz32_6
                try clear hfz32_7
                try clear hfz32_8
                try clear hfz32_9
                try clear hfz34_0
                try clear hfz34_1
                try clear hfz34_10
                try clear hfz34_11
                try clear hfz34_2
                try clear hfz34_3
                try clear hfz34_4
                try clear hfz34_5
                try clear hfz34_6
                try clear hfz34_7
                try clear hfz34_8
                try clear hfz34_9
                try clear hfz43_0
                try clear hfz43_1
                try clear hfz43_2
                try clear hfz44_0
                try clear hfz44_1
                try clear hfz44_10
                try clear hfz44_11
                try clear hfz44_2
                try clear hfz44_3
                try clear hfz44_4
                try clear hfz44_5
                try clear hfz44_6
                try clear hfz44_7
                try clear hfz44_8
                try clear hfz44_9
                try clear hfz49_0
                try clear hfz49_1
                try clear hfz49_10
                try clear hfz49_11
                try clear hfz49_2
                try clear hfz49_3
                try clear hfz49_4
                try clear hfz49_5
                try clear hfz49_6
                try clear hfz49_7
                try clear hfz49_8
                try clear hfz49_9
                try clear hfz52_0
                try clear hfz52_1
                try clear hfz52_10
                try clear hfz52_11
                try clear hfz52_2
                try clear hfz52_3
                try clear hfz52_4
                try clear hfz52_5
                try clear hfz52_6
                try clear hfz52_7
                try clear hfz52_8
                try clear hfz52_9
                try clear hfz55_0
                try clear hfz55_1
                try clear hfz55_10
                try clear hfz55_11
                try clear hfz55_2
                try clear hfz55_3
                try clear hfz55_4
                try clear hfz55_5
                try clear hfz55_6
                try clear hfz55_7
                try clear hfz55_8
                try clear hfz55_9
                try clear hfz57_0
                try clear hfz57_1
                try clear hfz57_10
                try clear hfz57_11
                try clear hfz57_2
                try clear hfz57_3
                try clear hfz57_4
                try clear hfz57_5
                try clear hfz57_6
                try clear hfz57_7
                try clear hfz57_8
                try clear hfz57_9
                try clear hfz5_0
                try clear hfz5_1
                try clear hfz5_2
                try clear hfz9_0
                try clear hfz9_1
                try clear hfz9_2
                try clear hx160_0
                try clear hx160_1
                try clear hx160_10
                try clear hx160_11
                try clear hx160_2
                try clear hx160_3
                try clear hx160_4
                try clear hx160_5
                try clear hx160_6
                try clear hx160_7
                try clear hx160_8
                try clear hx160_9
                try clear hx164_0
                try clear hx164_1
                try clear hx164_10
                try clear hx164_11
                try clear hx164_2
                try clear hx164_3
                try clear hx164_4
                try clear hx164_5
                try clear hx164_6
                try clear hx164_7
                try clear hx164_8
                try clear hx164_9
                try clear p1
                try clear p16
                try clear p160
                try clear p164
                try clear p2
                try clear q1
                try clear q16
                try clear q160
                try clear q164
                obtain ⟨kq, x82_45, rfl, HA, HJ45, BK158, BK161, HB⟩ := hcut
                cases kq with
                | zero => exact absurd HA.out (by simp [uK.j4])
                | succ kj45 =>
                 have H := HA.out
                 clear HA
                 simp only [uK.j4] at H
                 have HF58 := ak_ H
                 clear H
                 go_upto_if 82 with (fail)
                 repeat (go_quiet (fail); go_upto_if 82 with (fail))
                 have H := HF58.out
                 clear HF58
                 by_cases c59 : x82_45 = true
                 · subst c59
                   have H1 : (some (x4_2, 1)) = some (r1, r2) := by rw [if_pos rfl] at H; exact H
                   clear H
                   have H := H1
                   clear H1
                   simp only [Option.some.injEq, Prod.mk.injEq] at H
                   obtain ⟨rfl, rfl⟩ := H
                   go_wp2
                   repeat (go_quiet (fail); try go_wp2)
                   go_ret2
                   exact ⟨by first | rfl | simp [*], by repeat (first | (with_reducible first | exact HB.out | apply pa | apply pd | apply pe | refine zs ?_ GE158.out | refine zs ?_ GE161.out) | exact HB.out)⟩
                 replace c59 := Bool.eq_false_iff.mpr c59
                 subst c59
                 have H1 : ((uR11_Good.f ((rT l0_2 x4_2).f3.f0) ((rT l0_2 x4_2).f3.f1) ((rT l0_2 x4_2).f3.f2) ((rT l0_2 x4_2).f3.f3)).bind fun t165 => (if t165 = true then ((uR11_Good.f ((rT l0_2 x4_2).f4.f0) ((rT l0_2 x4_2).f4.f1) ((rT l0_2 x4_2).f4.f2) ((rT l0_2 x4_2).f4.f3)).bind fun t166 => (if t166 = true then (uK.l0 kj45 (wrap64 (x4_2 + 1)) a0_0 a0_1 l0_2) else (some (x4_2, 3)))) else (some (x4_2, 3)))) = some (r1, r2) := by rw [if_neg (show ¬ (false = true) by decide)] at H; exact H
                 clear H
                 have H := H1
                 clear H1
                 replace H := ob_ H
                 obtain ⟨t165, A600, H⟩ := H
                 replace H : (if t165 = true then ((uR11_Good.f ((rT l0_2 x4_2).f4.f0) ((rT l0_2 x4_2).f4.f1) ((rT l0_2 x4_2).f4.f2) ((rT l0_2 x4_2).f4.f3)).bind fun t166 => (if t166 = true then (uK.l0 kj45 (wrap64 (x4_2 + 1)) a0_0 a0_1 l0_2) else (some (x4_2, 3)))) else (some (x4_2, 3))) = some (r1, r2) := H
                 have A60 := ak_ A600
                 clear A600
                 by_cases c61 : t165 = true
                 · subst c61
                   have H1 : ((uR11_Good.f ((rT l0_2 x4_2).f4.f0) ((rT l0_2 x4_2).f4.f1) ((rT l0_2 x4_2).f4.f2) ((rT l0_2 x4_2).f4.f3)).bind fun t166 => (if t166 = true then (uK.l0 kj45 (wrap64 (x4_2 + 1)) a0_0 a0_1 l0_2) else (some (x4_2, 3)))) = some (r1, r2) := by rw [if_pos rfl] at H; exact H
                   clear H
                   have H := H1
                   clear H1
                   replace H := ob_ H
                   obtain ⟨t166, A620, H⟩ := H
                   replace H : (if t166 = true then (uK.l0 kj45 (wrap64 (x4_2 + 1)) a0_0 a0_1 l0_2) else (some (x4_2, 3))) = some (r1, r2) := H
                   have A62 := ak_ A620
                   clear A620
                   have HF63 := ak_ H
                   clear H
                   have hnb64 := NB161_158.out
                   have hnc64 := NB158_161.out
                   have hcz65_0 : wc.cell? ⟨gb161, 0, none⟩ = some (.string ((rT l0_2 x4_2).f0)) := (zc BK161.out 0).trans rfl
                   have hcz65_1 : wc.cell? ⟨gb161, 1, none⟩ = some (.string ((rT l0_2 x4_2).f1)) := (zc BK161.out 1).trans rfl
                   have hcz65_2 : wc.cell? ⟨gb161, 2, none⟩ = some (.int .i64 ((rT l0_2 x4_2).f2)) := (zc BK161.out 2).trans rfl
                   have hcz65_3 : wc.cell? ⟨gb161, 3, none⟩ = some (.int .i64 ((rT l0_2 x4_2).f3.f0)) := (zc BK161.out 3).trans rfl
                   have hcz65_4 : wc.cell? ⟨gb161, 4, none⟩ = some (.int .i64 ((rT l0_2 x4_2).f3.f1)) := (zc BK161.out 4).trans rfl
                   have hcz65_5 : wc.cell? ⟨gb161, 5, none⟩ = some (.int .i64 ((rT l0_2 x4_2).f3.f2)) := (zc BK161.out 5).trans rfl
                   have hcz65_6 : wc.cell? ⟨gb161, 6, none⟩ = some (.int .i64 ((rT l0_2 x4_2).f3.f3)) := (zc BK161.out 6).trans rfl
                   have hcz65_7 : wc.cell? ⟨gb161, 7, none⟩ = some (.int .i64 ((rT l0_2 x4_2).f4.f0)) := (zc BK161.out 7).trans rfl
                   have hcz65_8 : wc.cell? ⟨gb161, 8, none⟩ = some (.int .i64 ((rT l0_2 x4_2).f4.f1)) := (zc BK161.out 8).trans rfl
                   have hcz65_9 : wc.cell? ⟨gb161, 9, none⟩ = some (.int .i64 ((rT l0_2 x4_2).f4.f2)) := (zc BK161.out 9).trans rfl
                   have hcz65_10 : wc.cell? ⟨gb161, 10, none⟩ = some (.int .i64 ((rT l0_2 x4_2).f4.f3)) := (zc BK161.out 10).trans rfl
                   have hcz65_11 : wc.cell? ⟨gb161, 11, none⟩ = some (.int .i64 ((rT l0_2 x4_2).f5)) := (zc BK161.out 11).trans rfl
                   have hfz65_0 := zf BK161.out 0
                   have hfz65_1 := zf BK161.out 1
                   have hfz65_2 := zf BK161.out 2
                   have hfz65_3 := zf BK161.out 3
                   have hfz65_4 := zf BK161.out 4
                   have hfz65_5 := zf BK161.out 5
                   have hfz65_6 := zf BK161.out 6
                   have hfz65_7 := zf BK161.out 7
                   have hfz65_8 := zf BK161.out 8
                   have hfz65_9 := zf BK161.out 9
                   have hfz65_10 := zf BK161.out 10
                   have hfz65_11 := zf BK161.out 11
                   go_upto_if 93 with (first | (go_at_call 35; (with_reducible refine (uR11_Good.calls ((rT l0_2 x4_2).f3.f0) ((rT l0_2 x4_2).f3.f1) ((rT l0_2 x4_2).f3.f2) ((rT l0_2 x4_2).f3.f3) true _ A60.out).mono ?_); rintro e w66 ⟨rfl, hb⟩; have n0_ := ak_ (blk_below (g := gb158) (o := .cells #[.string a0_0, .int .i64 a0_1, .slice (some ad160) l0_2.length c0_2] 24 (0, 0)) (by (with_reducible repeat (first | apply zn | apply zd | apply za)); exact BK158.out) hb); have n1_ := ak_ (blk_below (g := gb161) (o := .cells #[.string ((rT l0_2 x4_2).f0), .string ((rT l0_2 x4_2).f1), .int .i64 ((rT l0_2 x4_2).f2), .int .i64 ((rT l0_2 x4_2).f3.f0), .int .i64 ((rT l0_2 x4_2).f3.f1), .int .i64 ((rT l0_2 x4_2).f3.f2), .int .i64 ((rT l0_2 x4_2).f3.f3), .int .i64 ((rT l0_2 x4_2).f4.f0), .int .i64 ((rT l0_2 x4_2).f4.f1), .int .i64 ((rT l0_2 x4_2).f4.f2), .int .i64 ((rT l0_2 x4_2).f4.f3), .int .i64 ((rT l0_2 x4_2).f5)] 61 (0, 0)) (by (with_reducible repeat (first | apply zn | apply zd | apply za)); exact BK161.out) hb); have n2_ := ak_ (ps (by with_reducible repeat first | exact HB.out | apply pa | apply pd | apply pe | refine zs ?_ GE158.out | refine zs ?_ GE161.out) hb); clear BK158 BK161 HB; have BK158 := n0_; have BK161 := n1_; have HB := n2_; clear n0_ n1_ n2_; have hcz67_0 : w66.cell? ⟨gb161, 0, none⟩ = some (.string ((rT l0_2 x4_2).f0)) := (zc BK161.out 0).trans rfl; have hcz67_1 : w66.cell? ⟨gb161, 1, none⟩ = some (.string ((rT l0_2 x4_2).f1)) := (zc BK161.out 1).trans rfl; have hcz67_2 : w66.cell? ⟨gb161, 2, none⟩ = some (.int .i64 ((rT l0_2 x4_2).f2)) := (zc BK161.out 2).trans rfl; have hcz67_3 : w66.cell? ⟨gb161, 3, none⟩ = some (.int .i64 ((rT l0_2 x4_2).f3.f0)) := (zc BK161.out 3).trans rfl; have hcz67_4 : w66.cell? ⟨gb161, 4, none⟩ = some (.int .i64 ((rT l0_2 x4_2).f3.f1)) := (zc BK161.out 4).trans rfl; have hcz67_5 : w66.cell? ⟨gb161, 5, none⟩ = some (.int .i64 ((rT l0_2 x4_2).f3.f2)) := (zc BK161.out 5).trans rfl; have hcz67_6 : w66.cell? ⟨gb161, 6, none⟩ = some (.int .i64 ((rT l0_2 x4_2).f3.f3)) := (zc BK161.out 6).trans rfl; have hcz67_7 : w66.cell? ⟨gb161, 7, none⟩ = some (.int .i64 ((rT l0_2 x4_2).f4.f0)) := (zc BK161.out 7).trans rfl; have hcz67_8 : w66.cell? ⟨gb161, 8, none⟩ = some (.int .i64 ((rT l0_2 x4_2).f4.f1)) := (zc BK161.out 8).trans rfl; have hcz67_9 : w66.cell? ⟨gb161, 9, none⟩ = some (.int .i64 ((rT l0_2 x4_2).f4.f2)) := (zc BK161.out 9).trans rfl; have hcz67_10 : w66.cell? ⟨gb161, 10, none⟩ = some (.int .i64 ((rT l0_2 x4_2).f4.f3)) := (zc BK161.out 10).trans rfl; have hcz67_11 : w66.cell? ⟨gb161, 11, none⟩ = some (.int .i64 ((rT l0_2 x4_2).f5)) := (zc BK161.out 11).trans rfl; have hfz67_0 := zf BK161.out 0; have hfz67_1 := zf BK161.out 1; have hfz67_2 := zf BK161.out 2; have hfz67_3 := zf BK161.out 3; have hfz67_4 := zf BK161.out 4; have hfz67_5 := zf BK161.out 5; have hfz67_6 := zf BK161.out 6; have hfz67_7 := zf BK161.out 7; have hfz67_8 := zf BK161.out 8; have hfz67_9 := zf BK161.out 9; have hfz67_10 := zf BK161.out 10; have hfz67_11 := zf BK161.out 11) | (go_at_call 35; (with_reducible refine (uR11_Good.calls ((rT l0_2 x4_2).f4.f0) ((rT l0_2 x4_2).f4.f1) ((rT l0_2 x4_2).f4.f2) ((rT l0_2 x4_2).f4.f3) t166 _ A62.out).mono ?_); rintro e w68 ⟨rfl, hb⟩; have n0_ := ak_ (blk_below (g := gb158) (o := .cells #[.string a0_0, .int .i64 a0_1, .slice (some ad160) l0_2.length c0_2] 24 (0, 0)) (by (with_reducible repeat (first | apply zn | apply zd | apply za)); exact BK158.out) hb); have n1_ := ak_ (blk_below (g := gb161) (o := .cells #[.string ((rT l0_2 x4_2).f0), .string ((rT l0_2 x4_2).f1), .int .i64 ((rT l0_2 x4_2).f2), .int .i64 ((rT l0_2 x4_2).f3.f0), .int .i64 ((rT l0_2 x4_2).f3.f1), .int .i64 ((rT l0_2 x4_2).f3.f2), .int .i64 ((rT l0_2 x4_2).f3.f3), .int .i64 ((rT l0_2 x4_2).f4.f0), .int .i64 ((rT l0_2 x4_2).f4.f1), .int .i64 ((rT l0_2 x4_2).f4.f2), .int .i64 ((rT l0_2 x4_2).f4.f3), .int .i64 ((rT l0_2 x4_2).f5)] 61 (0, 0)) (by (with_reducible repeat (first | apply zn | apply zd | apply za)); exact BK161.out) hb); have n2_ := ak_ (ps (by with_reducible repeat first | exact HB.out | apply pa | apply pd | apply pe | refine zs ?_ GE158.out | refine zs ?_ GE161.out) hb); clear BK158 BK161 HB; have BK158 := n0_; have BK161 := n1_; have HB := n2_; clear n0_ n1_ n2_))
                   repeat (go_quiet (first | (go_at_call 35; (with_reducible refine (uR11_Good.calls ((rT l0_2 x4_2).f3.f0) ((rT l0_2 x4_2).f3.f1) ((rT l0_2 x4_2).f3.f2) ((rT l0_2 x4_2).f3.f3) true _ A60.out).mono ?_); rintro e w66 ⟨rfl, hb⟩; have n0_ := ak_ (blk_below (g := gb158) (o := .cells #[.string a0_0, .int .i64 a0_1, .slice (some ad160) l0_2.length c0_2] 24 (0, 0)) (by (with_reducible repeat (first | apply zn | apply zd | apply za)); exact BK158.out) hb); have n1_ := ak_ (blk_below (g := gb161) (o := .cells #[.string ((rT l0_2 x4_2).f0), .string ((rT l0_2 x4_2).f1), .int .i64 ((rT l0_2 x4_2).f2), .int .i64 ((rT l0_2 x4_2).f3.f0), .int .i64 ((rT l0_2 x4_2).f3.f1), .int .i64 ((rT l0_2 x4_2).f3.f2), .int .i64 ((rT l0_2 x4_2).f3.f3), .int .i64 ((rT l0_2 x4_2).f4.f0), .int .i64 ((rT l0_2 x4_2).f4.f1), .int .i64 ((rT l0_2 x4_2).f4.f2), .int .i64 ((rT l0_2 x4_2).f4.f3), .int .i64 ((rT l0_2 x4_2).f5)] 61 (0, 0)) (by (with_reducible repeat (first | apply zn | apply zd | apply za)); exact BK161.out) hb); have n2_ := ak_ (ps (by with_reducible repeat first | exact HB.out | apply pa | apply pd | apply pe | refine zs ?_ GE158.out | refine zs ?_ GE161.out) hb); clear BK158 BK161 HB; have BK158 := n0_; have BK161 := n1_; have HB := n2_; clear n0_ n1_ n2_; have hcz67_0 : w66.cell? ⟨gb161, 0, none⟩ = some (.string ((rT l0_2 x4_2).f0)) := (zc BK161.out 0).trans rfl; have hcz67_1 : w66.cell? ⟨gb161, 1, none⟩ = some (.string ((rT l0_2 x4_2).f1)) := (zc BK161.out 1).trans rfl; have hcz67_2 : w66.cell? ⟨gb161, 2, none⟩ = some (.int .i64 ((rT l0_2 x4_2).f2)) := (zc BK161.out 2).trans rfl; have hcz67_3 : w66.cell? ⟨gb161, 3, none⟩ = some (.int .i64 ((rT l0_2 x4_2).f3.f0)) := (zc BK161.out 3).trans rfl; have hcz67_4 : w66.cell? ⟨gb161, 4, none⟩ = some (.int .i64 ((rT l0_2 x4_2).f3.f1)) := (zc BK161.out 4).trans rfl; have hcz67_5 : w66.cell? ⟨gb161, 5, none⟩ = some (.int .i64 ((rT l0_2 x4_2).f3.f2)) := (zc BK161.out 5).trans rfl; have hcz67_6 : w66.cell? ⟨gb161, 6, none⟩ = some (.int .i64 ((rT l0_2 x4_2).f3.f3)) := (zc BK161.out 6).trans rfl; have hcz67_7 : w66.cell? ⟨gb161, 7, none⟩ = some (.int .i64 ((rT l0_2 x4_2).f4.f0)) := (zc BK161.out 7).trans rfl; have hcz67_8 : w66.cell? ⟨gb161, 8, none⟩ = some (.int .i64 ((rT l0_2 x4_2).f4.f1)) := (zc BK161.out 8).trans rfl; have hcz67_9 : w66.cell? ⟨gb161, 9, none⟩ = some (.int .i64 ((rT l0_2 x4_2).f4.f2)) := (zc BK161.out 9).trans rfl; have hcz67_10 : w66.cell? ⟨gb161, 10, none⟩ = some (.int .i64 ((rT l0_2 x4_2).f4.f3)) := (zc BK161.out 10).trans rfl; have hcz67_11 : w66.cell? ⟨gb161, 11, none⟩ = some (.int .i64 ((rT l0_2 x4_2).f5)) := (zc BK161.out 11).trans rfl; have hfz67_0 := zf BK161.out 0; have hfz67_1 := zf BK161.out 1; have hfz67_2 := zf BK161.out 2; have hfz67_3 := zf BK161.out 3; have hfz67_4 := zf BK161.out 4; have hfz67_5 := zf BK161.out 5; have hfz67_6 := zf BK161.out 6; have hfz67_7 := zf BK161.out 7; have hfz67_8 := zf BK161.out 8; have hfz67_9 := zf BK161.out 9; have hfz67_10 := zf BK161.out 10; have hfz67_11 := zf BK161.out 11) | (go_at_call 35; (with_reducible refine (uR11_Good.calls ((rT l0_2 x4_2).f4.f0) ((rT l0_2 x4_2).f4.f1) ((rT l0_2 x4_2).f4.f2) ((rT l0_2 x4_2).f4.f3) t166 _ A62.out).mono ?_); rintro e w68 ⟨rfl, hb⟩; have n0_ := ak_ (blk_below (g := gb158) (o := .cells #[.string a0_0, .int .i64 a0_1, .slice (some ad160) l0_2.length c0_2] 24 (0, 0)) (by (with_reducible repeat (first | apply zn | apply zd | apply za)); exact BK158.out) hb); have n1_ := ak_ (blk_below (g := gb161) (o := .cells #[.string ((rT l0_2 x4_2).f0), .string ((rT l0_2 x4_2).f1), .int .i64 ((rT l0_2 x4_2).f2), .int .i64 ((rT l0_2 x4_2).f3.f0), .int .i64 ((rT l0_2 x4_2).f3.f1), .int .i64 ((rT l0_2 x4_2).f3.f2), .int .i64 ((rT l0_2 x4_2).f3.f3), .int .i64 ((rT l0_2 x4_2).f4.f0), .int .i64 ((rT l0_2 x4_2).f4.f1), .int .i64 ((rT l0_2 x4_2).f4.f2), .int .i64 ((rT l0_2 x4_2).f4.f3), .int .i64 ((rT l0_2 x4_2).f5)] 61 (0, 0)) (by (with_reducible repeat (first | apply zn | apply zd | apply za)); exact BK161.out) hb); have n2_ := ak_ (ps (by with_reducible repeat first | exact HB.out | apply pa | apply pd | apply pe | refine zs ?_ GE158.out | refine zs ?_ GE161.out) hb); clear BK158 BK161 HB; have BK158 := n0_; have BK161 := n1_; have HB := n2_; clear n0_ n1_ n2_)); go_upto_if 93 with (first | (go_at_call 35; (with_reducible refine (uR11_Good.calls ((rT l0_2 x4_2).f3.f0) ((rT l0_2 x4_2).f3.f1) ((rT l0_2 x4_2).f3.f2) ((rT l0_2 x4_2).f3.f3) true _ A60.out).mono ?_); rintro e w66 ⟨rfl, hb⟩; have n0_ := ak_ (blk_below (g := gb158) (o := .cells #[.string a0_0, .int .i64 a0_1, .slice (some ad160) l0_2.length c0_2] 24 (0, 0)) (by (with_reducible repeat (first | apply zn | apply zd | apply za)); exact BK158.out) hb); have n1_ := ak_ (blk_below (g := gb161) (o := .cells #[.string ((rT l0_2 x4_2).f0), .string ((rT l0_2 x4_2).f1), .int .i64 ((rT l0_2 x4_2).f2), .int .i64 ((rT l0_2 x4_2).f3.f0), .int .i64 ((rT l0_2 x4_2).f3.f1), .int .i64 ((rT l0_2 x4_2).f3.f2), .int .i64 ((rT l0_2 x4_2).f3.f3), .int .i64 ((rT l0_2 x4_2).f4.f0), .int .i64 ((rT l0_2 x4_2).f4.f1), .int .i64 ((rT l0_2 x4_2).f4.f2), .int .i64 ((rT l0_2 x4_2).f4.f3), .int .i64 ((rT l0_2 x4_2).f5)] 61 (0, 0)) (by (with_reducible repeat (first | apply zn | apply zd | apply za)); exact BK161.out) hb); have n2_ := ak_ (ps (by with_reducible repeat first | exact HB.out | apply pa | apply pd | apply pe | refine zs ?_ GE158.out | refine zs ?_ GE161.out) hb); clear BK158 BK161 HB; have BK158 := n0_; have BK161 := n1_; have HB := n2_; clear n0_ n1_ n2_; have hcz67_0 : w66.cell? ⟨gb161, 0, none⟩ = some (.string ((rT l0_2 x4_2).f0)) := (zc BK161.out 0).trans rfl; have hcz67_1 : w66.cell? ⟨gb161, 1, none⟩ = some (.string ((rT l0_2 x4_2).f1)) := (zc BK161.out 1).trans rfl; have hcz67_2 : w66.cell? ⟨gb161, 2, none⟩ = some (.int .i64 ((rT l0_2 x4_2).f2)) := (zc BK161.out 2).trans rfl; have hcz67_3 : w66.cell? ⟨gb161, 3, none⟩ = some (.int .i64 ((rT l0_2 x4_2).f3.f0)) := (zc BK161.out 3).trans rfl; have hcz67_4 : w66.cell? ⟨gb161, 4, none⟩ = some (.int .i64 ((rT l0_2 x4_2).f3.f1)) := (zc BK161.out 4).trans rfl; have hcz67_5 : w66.cell? ⟨gb161, 5, none⟩ = some (.int .i64 ((rT l0_2 x4_2).f3.f2)) := (zc BK161.out 5).trans rfl; have hcz67_6 : w66.cell? ⟨gb161, 6, none⟩ = some (.int .i64 ((rT l0_2 x4_2).f3.f3)) := (zc BK161.out 6).trans rfl; have hcz67_7 : w66.cell? ⟨gb161, 7, none⟩ = some (.int .i64 ((rT l0_2 x4_2).f4.f0)) := (zc BK161.out 7).trans rfl; have hcz67_8 : w66.cell? ⟨gb161, 8, none⟩ = some (.int .i64 ((rT l0_2 x4_2).f4.f1)) := (zc BK161.out 8).trans rfl; have hcz67_9 : w66.cell? ⟨gb161, 9, none⟩ = some (.int .i64 ((rT l0_2 x4_2).f4.f2)) := (zc BK161.out 9).trans rfl; have hcz67_10 : w66.cell? ⟨gb161, 10, none⟩ = some (.int .i64 ((rT l0_2 x4_2).f4.f3)) := (zc BK161.out 10).trans rfl; have hcz67_11 : w66.cell? ⟨gb161, 11, none⟩ = some (.int .i64 ((rT l0_2 x4_2).f5)) := (zc BK161.out 11).trans rfl; have hfz67_0 := zf BK161.out 0; have hfz67_1 := zf BK161.out 1; have hfz67_2 := zf BK161.out 2; have hfz67_3 := zf BK161.out 3; have hfz67_4 := zf BK161.out 4; have hfz67_5 := zf BK161.out 5; have hfz67_6 := zf BK161.out 6; have hfz67_7 := zf BK161.out 7; have hfz67_8 := zf BK161.out 8; have hfz67_9 := zf BK161.out 9; have hfz67_10 := zf BK161.out 10; have hfz67_11 := zf BK161.out 11) | (go_at_call 35; (with_reducible refine (uR11_Good.calls ((rT l0_2 x4_2).f4.f0) ((rT l0_2 x4_2).f4.f1) ((rT l0_2 x4_2).f4.f2) ((rT l0_2 x4_2).f4.f3) t166 _ A62.out).mono ?_); rintro e w68 ⟨rfl, hb⟩; have n0_ := ak_ (blk_below (g := gb158) (o := .cells #[.string a0_0, .int .i64 a0_1, .slice (some ad160) l0_2.length c0_2] 24 (0, 0)) (by (with_reducible repeat (first | apply zn | apply zd | apply za)); exact BK158.out) hb); have n1_ := ak_ (blk_below (g := gb161) (o := .cells #[.string ((rT l0_2 x4_2).f0), .string ((rT l0_2 x4_2).f1), .int .i64 ((rT l0_2 x4_2).f2), .int .i64 ((rT l0_2 x4_2).f3.f0), .int .i64 ((rT l0_2 x4_2).f3.f1), .int .i64 ((rT l0_2 x4_2).f3.f2), .int .i64 ((rT l0_2 x4_2).f3.f3), .int .i64 ((rT l0_2 x4_2).f4.f0), .int .i64 ((rT l0_2 x4_2).f4.f1), .int .i64 ((rT l0_2 x4_2).f4.f2), .int .i64 ((rT l0_2 x4_2).f4.f3), .int .i64 ((rT l0_2 x4_2).f5)] 61 (0, 0)) (by (with_reducible repeat (first | apply zn | apply zd | apply za)); exact BK161.out) hb); have n2_ := ak_ (ps (by with_reducible repeat first | exact HB.out | apply pa | apply pd | apply pe | refine zs ?_ GE158.out | refine zs ?_ GE161.out) hb); clear BK158 BK161 HB; have BK158 := n0_; have BK161 := n1_; have HB := n2_; clear n0_ n1_ n2_)))
                   (try simp only [Act.put, sa_, sz_, ss_])
                   have H := HF63.out
                   clear HF63
                   by_cases c69 : t166 = true
                   · subst c69
                     have H1 : (uK.l0 kj45 (wrap64 (x4_2 + 1)) a0_0 a0_1 l0_2) = some (r1, r2) := by rw [if_pos rfl] at H; exact H
                     clear H
                     have H := H1
                     clear H1
                     have H' := ak_ H
                     clear H
                     go_wp2
                     repeat (go_quiet (fail); try go_wp2)
                     go_roundg kj45
                     case measure => have := HJ6.out; have := HK2.out; have := HJ22.out; have := HK4.out; have := HJ45.out; omega
                     case rel => exact ⟨(wrap64 (x4_2 + 1)), (by first | rfl | simp [*]), H', ⟨by have := HJ6.out; have := HK2.out; have := HJ22.out; have := HK4.out; have := HJ45.out; omega⟩, ⟨by (with_reducible repeat (first | apply zn | apply zd | apply za)); exact BK158.out⟩, ⟨by repeat (first | (with_reducible first | exact HB.out | apply pa | apply pd | apply pe | refine zs ?_ GE158.out | refine zs ?_ GE161.out) | exact HB.out)⟩⟩
                   replace c69 := Bool.eq_false_iff.mpr c69
                   subst c69
                   have H1 : (some (x4_2, 3)) = some (r1, r2) := by rw [if_neg (show ¬ (false = true) by decide)] at H; exact H
                   clear H
                   have H := H1
                   clear H1
                   simp only [Option.some.injEq, Prod.mk.injEq] at H
                   obtain ⟨rfl, rfl⟩ := H
                   go_wp2
                   repeat (go_quiet (fail); try go_wp2)
                   go_ret2
                   exact ⟨by first | rfl | simp [*], by repeat (first | (with_reducible first | exact HB.out | apply pa | apply pd | apply pe | refine zs ?_ GE158.out | refine zs ?_ GE161.out) | exact HB.out)⟩
                 replace c61 := Bool.eq_false_iff.mpr c61
                 subst c61
                 have H1 : (some (x4_2, 3)) = some (r1, r2) := by rw [if_neg (show ¬ (false = true) by decide)] at H; exact H
                 clear H
                 have H := H1
                 clear H1
                 simp only [Option.some.injEq, Prod.mk.injEq] at H
                 obtain ⟨rfl, rfl⟩ := H
                 have hnb70 := NB161_158.out
                 have hnc70 := NB158_161.out
                 have hcz71_0 : wc.cell? ⟨gb161, 0, none⟩ = some (.string ((rT l0_2 x4_2).f0)) := (zc BK161.out 0).trans rfl
                 have hcz71_1 : wc.cell? ⟨gb161, 1, none⟩ = some (.string ((rT l0_2 x4_2).f1)) := (zc BK161.out 1).trans rfl
                 have hcz71_2 : wc.cell? ⟨gb161, 2, none⟩ = some (.int .i64 ((rT l0_2 x4_2).f2)) := (zc BK161.out 2).trans rfl
                 have hcz71_3 : wc.cell? ⟨gb161, 3, none⟩ = some (.int .i64 ((rT l0_2 x4_2).f3.f0)) := (zc BK161.out 3).trans rfl
                 have hcz71_4 : wc.cell? ⟨gb161, 4, none⟩ = some (.int .i64 ((rT l0_2 x4_2).f3.f1)) := (zc BK161.out 4).trans rfl
                 have hcz71_5 : wc.cell? ⟨gb161, 5, none⟩ = some (.int .i64 ((rT l0_2 x4_2).f3.f2)) := (zc BK161.out 5).trans rfl
                 have hcz71_6 : wc.cell? ⟨gb161, 6, none⟩ = some (.int .i64 ((rT l0_2 x4_2).f3.f3)) := (zc BK161.out 6).trans rfl
                 have hcz71_7 : wc.cell? ⟨gb161, 7, none⟩ = some (.int .i64 ((rT l0_2 x4_2).f4.f0)) := (zc BK161.out 7).trans rfl
                 have hcz71_8 : wc.cell? ⟨gb161, 8, none⟩ = some (.int .i64 ((rT l0_2 x4_2).f4.f1)) := (zc BK161.out 8).trans rfl
                 have hcz71_9 : wc.cell? ⟨gb161, 9, none⟩ = some (.int .i64 ((rT l0_2 x4_2).f4.f2)) := (zc BK161.out 9).trans rfl
                 have hcz71_10 : wc.cell? ⟨gb161, 10, none⟩ = some (.int .i64 ((rT l0_2 x4_2).f4.f3)) := (zc BK161.out 10).trans rfl
                 have hcz71_11 : wc.cell? ⟨gb161, 11, none⟩ = some (.int .i64 ((rT l0_2 x4_2).f5)) := (zc BK161.out 11).trans rfl
                 have hfz71_0 := zf BK161.out 0
                 have hfz71_1 := zf BK161.out 1
                 have hfz71_2 := zf BK161.out 2
                 have hfz71_3 := zf BK161.out 3
                 have hfz71_4 := zf BK161.out 4
                 have hfz71_5 := zf BK161.out 5
                 have hfz71_6 := zf BK161.out 6
                 have hfz71_7 := zf BK161.out 7
                 have hfz71_8 := zf BK161.out 8
                 have hfz71_9 := zf BK161.out 9
                 have hfz71_10 := zf BK161.out 10
                 have hfz71_11 := zf BK161.out 11
                 go_wp2_with (first | (go_at_call 35; (with_reducible refine (uR11_Good.calls ((rT l0_2 x4_2).f3.f0) ((rT l0_2 x4_2).f3.f1) ((rT l0_2 x4_2).f3.f2) ((rT l0_2 x4_2).f3.f3) false _ A60.out).mono ?_); rintro e w72 ⟨rfl, hb⟩; have n0_ := ak_ (blk_below (g := gb158) (o := .cells #[.string a0_0, .int .i64 a0_1, .slice (some ad160) l0_2.length c0_2] 24 (0, 0)) (by (with_reducible repeat (first | apply zn | apply zd | apply za)); exact BK158.out) hb); have n1_ := ak_ (blk_below (g := gb161) (o := .cells #[.string ((rT l0_2 x4_2).f0), .string ((rT l0_2 x4_2).f1), .int .i64 ((rT l0_2 x4_2).f2), .int .i64 ((rT l0_2 x4_2).f3.f0), .int .i64 ((rT l0_2 x4_2).f3.f1), .int .i64 ((rT l0_2 x4_2).f3.f2), .int .i64 ((rT l0_2 x4_2).f3.f3), .int .i64 ((rT l0_2 x4_2).f4.f0), .int .i64 ((rT l0_2 x4_2).f4.f1), .int .i64 ((rT l0_2 x4_2).f4.f2), .int .i64 ((rT l0_2 x4_2).f4.f3), .int .i64 ((rT l0_2 x4_2).f5)] 61 (0, 0)) (by (with_reducible repeat (first | apply zn | apply zd | apply za)); exact BK161.out) hb); have n2_ := ak_ (ps (by with_reducible repeat first | exact HB.out | apply pa | apply pd | apply pe | refine zs ?_ GE158.out | refine zs ?_ GE161.out) hb); clear BK158 BK161 HB; have BK158 := n0_; have BK161 := n1_; have HB := n2_; clear n0_ n1_ n2_))
                 repeat (go_quiet (first | (go_at_call 35; (with_reducible refine (uR11_Good.calls ((rT l0_2 x4_2).f3.f0) ((rT l0_2 x4_2).f3.f1) ((rT l0_2 x4_2).f3.f2) ((rT l0_2 x4_2).f3.f3) false _ A60.out).mono ?_); rintro e w72 ⟨rfl, hb⟩; have n0_ := ak_ (blk_below (g := gb158) (o := .cells #[.string a0_0, .int .i64 a0_1, .slice (some ad160) l0_2.length c0_2] 24 (0, 0)) (by (with_reducible repeat (first | apply zn | apply zd | apply za)); exact BK158.out) hb); have n1_ := ak_ (blk_below (g := gb161) (o := .cells #[.string ((rT l0_2 x4_2).f0), .string ((rT l0_2 x4_2).f1), .int .i64 ((rT l0_2 x4_2).f2), .int .i64 ((rT l0_2 x4_2).f3.f0), .int .i64 ((rT l0_2 x4_2).f3.f1), .int .i64 ((rT l0_2 x4_2).f3.f2), .int .i64 ((rT l0_2 x4_2).f3.f3), .int .i64 ((rT l0_2 x4_2).f4.f0), .int .i64 ((rT l0_2 x4_2).f4.f1), .int .i64 ((rT l0_2 x4_2).f4.f2), .int .i64 ((rT l0_2 x4_2).f4.f3), .int .i64 ((rT l0_2 x4_2).f5)] 61 (0, 0)) (by (with_reducible repeat (first | apply zn | apply zd | apply za)); exact BK161.out) hb); have n2_ := ak_ (ps (by with_reducible repeat first | exact HB.out | apply pa | apply pd | apply pe | refine zs ?_ GE158.out | refine zs ?_ GE161.out) hb); clear BK158 BK161 HB; have BK158 := n0_; have BK161 := n1_; have HB := n2_; clear n0_ n1_ n2_)); try go_wp2_with (first | (go_at_call 35; (with_reducible refine (uR11_Good.calls ((rT l0_2 x4_2).f3.f0) ((rT l0_2 x4_2).f3.f1) ((rT l0_2 x4_2).f3.f2) ((rT l0_2 x4_2).f3.f3) false _ A60.out).mono ?_); rintro e w72 ⟨rfl, hb⟩; have n0_ := ak_ (blk_below (g := gb158) (o := .cells #[.string a0_0, .int .i64 a0_1, .slice (some ad160) l0_2.length c0_2] 24 (0, 0)) (by (with_reducible repeat (first | apply zn | apply zd | apply za)); exact BK158.out) hb); have n1_ := ak_ (blk_below (g := gb161) (o := .cells #[.string ((rT l0_2 x4_2).f0), .string ((rT l0_2 x4_2).f1), .int .i64 ((rT l0_2 x4_2).f2), .int .i64 ((rT l0_2 x4_2).f3.f0), .int .i64 ((rT l0_2 x4_2).f3.f1), .int .i64 ((rT l0_2 x4_2).f3.f2), .int .i64 ((rT l0_2 x4_2).f3.f3), .int .i64 ((rT l0_2 x4_2).f4.f0), .int .i64 ((rT l0_2 x4_2).f4.f1), .int .i64 ((rT l0_2 x4_2).f4.f2), .int .i64 ((rT l0_2 x4_2).f4.f3), .int .i64 ((rT l0_2 x4_2).f5)] 61 (0, 0)) (by (with_reducible repeat (first | apply zn | apply zd | apply za)); exact BK161.out) hb); have n2_ := ak_ (ps (by with_reducible repeat first | exact HB.out | apply pa | apply pd | apply pe | refine zs ?_ GE158.out | refine zs ?_ GE161.out) hb); clear BK158 BK161 HB; have BK158 := n0_; have BK161 := n1_; have HB := n2_; clear n0_ n1_ n2_)))
                 go_ret2
                 exact ⟨by first | rfl | simp [*], by repeat (first | (with_reducible first | exact HB.out | apply pa | apply pd | apply pe | refine zs ?_ GE158.out | refine zs ?_ GE161.out) | exact HB.out)⟩
         rw [if_neg c22] at H
         exact absurd H (by simp)
       rw [if_neg c21] at H
       have c21b0 : decide (x4_2 < (l0_2.length : Int)) = false := df_ c21
       clear c21
       (first | rw [c21b0] | (simp only [i64_w, i32_w]; rw [c21b0]) | skip)
       simp only [Option.some.injEq, Prod.mk.injEq] at H
       obtain ⟨rfl, rfl⟩ := H
       go_wp2
       repeat (go_quiet (fail); try go_wp2)
       go_ret2
       exact ⟨by first | rfl | simp [*], by repeat (first | (with_reducible first | exact HB.out | apply pa | apply pd | apply pe | refine zs ?_ GE158.out) | exact HB.out)⟩
 replace c6 := Bool.eq_false_iff.mpr c6
 subst c6
 have H1 : (some ((-1), 10)) = some (r1, r2) := by rw [if_neg (show ¬ (false = true) by decide)] at H; exact H
 clear H
 have H := H1
 clear H1
 simp only [Option.some.injEq, Prod.mk.injEq] at H
 obtain ⟨rfl, rfl⟩ := H
 go_wp2
 repeat (go_quiet (fail); try go_wp2)
 go_ret2
 exact ⟨by first | rfl | simp [*], by repeat (first | (with_reducible first | exact HB.out | apply pa | apply pd | apply pe | refine zs ?_ GE158.out) | exact HB.out)⟩
def chkL (l : List S61) : Nat → Nat → Int × Int
  | 0, _ => (-1, 0)
  | d + 1, i => if h : i < l.length then (if stepR l i l[i] = 0 then chkL l d (i + 1) else ((i : Int), stepR l i l[i])) else (-1, 0)
def chkD (n : ByteArray) (dl : Int) (l : List S61) : Int × Int :=
  if Utf.goodD n.data.toList = false then (-1, 10)
  else if ¬ (0 ≤ dl ∧ dl ≤ 1099511627776) then (-1, 1)
  else if l.length = 0 then (-1, 2)
  else if l.length > 32 then (-1, 4)
  else chkL l l.length 0
def NmS (m : Nat) (l : List S61) : Prop := ∀ s ∈ l, s.f0.size ≤ m ∧ s.f1.size ≤ m
theorem wr1 {a : Int} (h : 0 ≤ a) (h' : a ≤ 100000000) : wrap64 (a + 1) = a + 1 := by unfold wrap64; omega
theorem def_step_at {l : List S61} {i : Nat} (hi : i < l.length) (hl : l.length < 1000000) {m : Nat} (hm : m < 1000000) (hn : NmS m l) : def_step.f l (i : Int) = some (stepR l i l[i]) := by
  have hs := hn _ (List.getElem_mem hi)
  unfold def_step.f
  rw [rdS_at hi, if_pos ⟨by omega, by omega, hl, by omega, by omega⟩, Int.toNat_natCast]
theorem def_check_l (l : List S61) (hl : l.length ≤ 32) {m : Nat} (hm : m < 1000000) (hn : NmS m l) (n : ByteArray) (dl : Int) : ∀ (d i k : Nat), l.length - i ≤ d → d < k → def_Check.l0 k (l.length : Int) (i : Int) n dl l = some (chkL l d i)
  | 0, i, 0, _, h => absurd h (by omega)
  | 0, i, k + 1, h, _ => by
    rw [def_Check.l0, if_neg (by omega)]
    rfl
  | d + 1, i, 0, _, h => absurd h (by omega)
  | d + 1, i, k + 1, h, hk => by
    rw [def_Check.l0, chkL]
    by_cases hi : i < l.length
    · rw [if_pos (by omega), dif_pos hi, def_step_at hi (by omega) hm hn, bs_]
      by_cases h0 : stepR l i l[i] = 0
      · rw [if_pos h0, if_pos h0, wr1 (by omega) (by omega)]
        exact def_check_l l hl hm hn n dl d (i + 1) k (by omega) (by omega)
      · rw [if_neg h0, if_neg h0]
    · rw [if_neg (by omega), dif_neg hi]
theorem def_check_f (n : ByteArray) (dl : Int) (l : List S61) {m : Nat} (hm : m < 1000000) (hn : NmS m l) (hz : n.size ≤ m) (k : Nat) (hk : 34 ≤ k) : def_Check.f k n dl l = some (chkD n dl l) := by
  unfold def_Check.f label_Good.f chkD
  rw [if_pos (by omega), bs_]
  cases hg : Utf.goodD n.data.toList with
  | false => rw [if_neg (by decide), if_pos rfl]
  | true =>
    rw [if_pos rfl, if_neg (c := true = false) (by decide), tick_Good_f, bs_]
    by_cases ht : 0 ≤ dl ∧ dl ≤ 1099511627776
    · rw [if_pos (dt_ ht), if_neg (not_not_intro ht)]
      by_cases h0 : l.length = 0
      · rw [if_pos (show (l.length : Int) = 0 by omega), if_pos h0]
      · rw [if_neg (show ¬ (l.length : Int) = 0 by omega), if_neg h0]
        by_cases h1 : l.length > 32
        · rw [if_pos (show (l.length : Int) > 32 by omega), if_pos h1]
        · rw [if_neg (show ¬ (l.length : Int) > 32 by omega), if_neg h1]
          exact def_check_l l (by omega) hm hn n dl l.length 0 k (by omega) (by omega)
    · rw [if_neg (show ¬ decide (0 ≤ dl ∧ dl ≤ 1099511627776) = true by rw [df_ ht]; decide), if_pos ht]
theorem plan_ref (p : S59) : uR11_Good.f p.f0 p.f1 p.f2 p.f3 = some (planP p) := by
  unfold uR11_Good.f planP
  repeat' split
  all_goals (refine congrArg some ?_; rw [Bool.eq_iff_iff]; simp only [decide_eq_true_eq, true_iff, false_iff, Bool.false_eq_true]; omega)
theorem named_eq (s : ByteArray) (x : S61) : stepNamed s x = true ↔ x.f0.toList = s.toList := by
  unfold stepNamed
  exact beq_iff_eq
theorem take_any_succ {l : List S61} (p : S61 → Bool) {j : Nat} (hj : j < l.length) : (l.take (j + 1)).any p = ((l.take j).any p || p l[j]) := by
  rw [List.take_succ_eq_append_getElem hj, List.any_append, List.any_cons, List.any_nil, Bool.or_false]
theorem ref_check_l1 (l : List S61) (hl : l.length ≤ 32) (n : ByteArray) (dl : Int) (i : Nat) (hi : i < l.length) (x : S61) (R : Option (Int × Int)) (K : Nat) (hR : ∀ k, K ≤ k → uK.l0 k ((i + 1 : Nat) : Int) n dl l = R) :
    ∀ (d j k : Nat), i - j ≤ d → j ≤ i → d + K + 4 ≤ k → (l.take j).any (stepNamed x.f0) = false →
      uK.l1 k (i : Int) (j : Int) n dl l x.f0 x.f1 x.f2 x.f3.f0 x.f3.f1 x.f3.f2 x.f3.f3 x.f4.f0 x.f4.f1 x.f4.f2 x.f4.f3 x.f5 =
        if (l.take i).any (stepNamed x.f0) = true then some ((i : Int), 6) else if numB x = true then some ((i : Int), 1) else if (planP x.f3 && planP x.f4) = false then some ((i : Int), 3) else R
  | d, j, 0, _, _, hk, _ => absurd hk (by omega)
  | d, j, k + 1, hd, hj, hk, ha => by
    rw [uK.l1]
    by_cases hji : j < i
    · rw [if_pos (by omega), if_pos (by omega), if_pos (by omega), rdS_at (by omega)]
      have hjl : j < l.length := by omega
      by_cases he : (l[j]).f0.toList = x.f0.toList
      · rw [if_pos he]
        have : (l.take i).any (stepNamed x.f0) = true := by
          refine List.any_eq_true.2 ⟨l[j], ?_, (named_eq _ _).2 he⟩
          exact List.mem_of_getElem? (i := j) (by rw [List.getElem?_take, if_pos hji, List.getElem?_eq_getElem hjl])
        rw [if_pos this]
      · rw [if_neg he, wr1 (by omega) (by omega)]
        cases d with
        | zero => omega
        | succ d =>
          refine ref_check_l1 l hl n dl i hi x R K hR d (j + 1) k (by omega) (by omega) (by omega) ?_
          rw [take_any_succ _ hjl, ha, Bool.false_or]
          cases hc : stepNamed x.f0 l[j] with
          | false => rfl
          | true => exact absurd ((named_eq _ _).1 hc) he
    · obtain rfl : j = i := by omega
      rw [if_neg (by omega), if_neg (c := (l.take j).any (stepNamed x.f0) = true) (by rw [ha]; decide)]
      have hj4 : ∀ (b : Bool), b = numB x → uK.j4 k (j : Int) b n dl l x.f0 x.f1 x.f2 x.f3.f0 x.f3.f1 x.f3.f2 x.f3.f3 x.f4.f0 x.f4.f1 x.f4.f2 x.f4.f3 x.f5 = if numB x = true then some ((j : Int), 1) else if (planP x.f3 && planP x.f4) = false then some ((j : Int), 3) else R := by
        intro b hb
        subst hb
        obtain ⟨k2, rfl⟩ : ∃ k2, k = k2 + 1 := ⟨k - 1, by omega⟩
        rw [uK.j4]
        by_cases hn : numB x = true
        · rw [if_pos hn, if_pos hn]
        · rw [if_neg hn, if_neg hn, plan_ref, bs_]
          cases h3 : planP x.f3 with
          | false => rw [if_neg (by decide), if_pos (by rfl)]
          | true =>
            rw [if_pos rfl, plan_ref, bs_]
            cases h4 : planP x.f4 with
            | false => rw [if_neg (by decide), if_pos (by rfl)]
            | true =>
              rw [if_pos rfl, if_neg (by decide), wr1 (by omega) (by omega)]
              exact hR k2 (by omega)
      have hnb : numB x = decide (x.f2 < 1 ∨ x.f2 > 1099511627776 ∨ x.f5 < 0 ∨ x.f5 > 255) := rfl
      by_cases c1 : x.f2 < 1
      · rw [if_pos c1]
        exact hj4 true (by rw [hnb, dt_ (Or.inl c1)])
      · rw [if_neg c1]
        by_cases c2 : x.f2 > 1099511627776
        · rw [if_pos c2]
          exact hj4 true (by rw [hnb, dt_ (Or.inr (Or.inl c2))])
        · rw [if_neg c2]
          by_cases c3 : x.f5 < 0
          · rw [if_pos c3]
            exact hj4 true (by rw [hnb, dt_ (Or.inr (Or.inr (Or.inl c3)))])
          · rw [if_neg c3]
            exact hj4 _ (by rw [hnb, Bool.eq_iff_iff, decide_eq_true_eq, decide_eq_true_eq]; omega)
theorem ref_check_l (l : List S61) (hl : l.length ≤ 32) {m : Nat} (hm : m < 1000000) (hn : NmS m l) (n : ByteArray) (dl : Int) : ∀ (d i k : Nat), l.length - i ≤ d → 50 * d + 2 * m + 50 ≤ k → uK.l0 k (i : Int) n dl l = some (chkL l d i)
  | 0, i, 0, _, h => absurd h (by omega)
  | 0, i, k + 1, h, _ => by
    rw [uK.l0, if_neg (by omega)]
    rfl
  | d + 1, i, 0, _, h => absurd h (by omega)
  | d + 1, i, k + 1, h, hk => by
    rw [uK.l0, chkL]
    by_cases hi : i < l.length
    · have hs := hn _ (List.getElem_mem hi)
      rw [if_pos (by omega), if_pos (by omega), dif_pos hi, rdS_at hi, ref_good _ (by omega) k (by omega), bs_]
      generalize hx : l[i] = x at *
      have hstep : stepR l i x = stepB (Utf.goodD x.f0.data.toList) (Utf.goodD x.f1.data.toList) ((l.take i).any (stepNamed x.f0)) (numB x) (planP x.f3) (planP x.f4) := rfl
      obtain ⟨k2, rfl⟩ : ∃ k2, k = k2 + 1 := ⟨k - 1, by omega⟩
      cases g1 : Utf.goodD x.f0.data.toList with
      | false =>
        rw [if_neg (by decide), uK.j2, if_pos rfl]
        have : stepR l i x = 10 := by rw [hstep, g1]; rfl
        rw [this, if_neg (by decide)]
      | true =>
        rw [if_pos rfl, ref_good _ (by omega) (k2 + 1) (by omega), bs_, uK.j2]
        cases g2 : Utf.goodD x.f1.data.toList with
        | false =>
          rw [if_pos (by rfl)]
          have : stepR l i x = 10 := by rw [hstep, g1, g2]; rfl
          rw [this, if_neg (by decide)]
        | true =>
          rw [if_neg (by decide)]
          have h0 : ((0 : Nat) : Int) = 0 := rfl
          rw [← h0, ref_check_l1 l hl n dl i hi x (some (chkL l d (i + 1))) (50 * d + 2 * m + 50) (fun k' hk' => ref_check_l l hl hm hn n dl d (i + 1) k' (by omega) (by omega)) i 0 k2 (by omega) (by omega) (by omega) (by rfl)]
          rw [hstep, g1, g2]
          unfold stepB
          rw [if_neg (c := (true && true) = false) (by decide)]
          by_cases c1 : (l.take i).any (stepNamed x.f0) = true
          · rw [if_pos c1, if_pos c1]
            rfl
          · rw [if_neg c1, if_neg c1]
            by_cases c2 : numB x = true
            · rw [if_pos c2, if_pos c2]
              rfl
            · rw [if_neg c2, if_neg c2]
              by_cases c3 : (planP x.f3 && planP x.f4) = false
              · rw [if_pos c3, if_pos c3]
                rfl
              · rw [if_neg c3, if_neg c3]
                rfl
    · rw [if_neg (by omega), dif_neg hi]
theorem ref_check_f (n : ByteArray) (dl : Int) (l : List S61) {m : Nat} (hm : m < 1000000) (hn : NmS m l) (hz : n.size ≤ m) (k : Nat) (hk : 2 * m + 1800 ≤ k) : uK.f k n dl l = some (chkD n dl l) := by
  unfold uK.f chkD
  rw [ref_good n (by omega) k (by omega), bs_]
  cases hg : Utf.goodD n.data.toList with
  | false => rw [if_neg (by decide), if_pos rfl]
  | true =>
    rw [if_pos rfl, if_neg (c := true = false) (by decide)]
    obtain ⟨k2, rfl⟩ : ∃ k2, k = k2 + 1 := ⟨k - 1, by omega⟩
    have hj : ∀ b : Bool, b = (!decide (0 ≤ dl ∧ dl ≤ 1099511627776)) → uK.j0 (k2 + 1) b n dl l = some (if ¬ (0 ≤ dl ∧ dl ≤ 1099511627776) then (-1, 1) else if l.length = 0 then (-1, 2) else if l.length > 32 then (-1, 4) else chkL l l.length 0) := by
      intro b hb
      rw [uK.j0]
      by_cases ht : 0 ≤ dl ∧ dl ≤ 1099511627776
      · rw [dt_ ht] at hb
        subst hb
        rw [if_neg (c := (!true) = true) (by decide), if_neg (not_not_intro ht)]
        by_cases h0 : l.length = 0
        · rw [if_pos (show (l.length : Int) < 1 by omega), if_pos h0]
        · rw [if_neg (show ¬ (l.length : Int) < 1 by omega), if_neg h0]
          by_cases h1 : l.length > 32
          · rw [if_pos (show (l.length : Int) > 32 by omega), if_pos h1]
          · rw [if_neg (show ¬ (l.length : Int) > 32 by omega), if_neg h1]
            exact ref_check_l l (by omega) hm hn n dl l.length 0 k2 (by omega) (by omega)
      · rw [df_ ht] at hb
        subst hb
        rw [if_pos (c := (!false) = true) rfl, if_pos ht]
    by_cases c1 : dl < 0
    · rw [if_pos c1]
      exact hj true (by rw [df_ (by omega)]; rfl)
    · rw [if_neg c1]
      exact hj _ (by rw [Bool.eq_iff_iff, Bool.not_eq_true', decide_eq_true_eq, decide_eq_false_iff_not]; omega)
theorem infoB : (Tryd.prog.info? 5).map (fun i => (i.zero, i.size, i.bytes)) = some (some (.int .u8 0), 1, 1) := by kernel_rfl
def slices_Clone_byte_byte.f (l0 : List Int) : Option (List Int) := if l0.length < 140737488355328 then some l0 else none
theorem slices_Clone_byte_byte.calls (A0 : Option Addr) (c0 : Nat) (l0 : List Int) (r : List Int) (w : World) (hr0 : Kd.C (Kd.int .u8) w A0 l0.length l0) (hc0 : l0.length ≤ c0) (h : slices_Clone_byte_byte.f l0 = some r) :
 Calls Tryd.prog 52 #[.slice A0 l0.length c0] w fun e w' => ∃ v0_ : Value, e = .returned (v0_) ∧ Kd.R (Kd.int .u8) 5 w' w.heap.size (fun _ => True) v0_ r ∧ Below w.heap.size w w' := by
 unfold slices_Clone_byte_byte.f at h
 by_cases hl : l0.length < 140737488355328
 · rw [if_pos hl] at h
   obtain rfl := Option.some.inj h
   clear h
   have hHR := ak_ hr0
   have hHL := ak_ hl
   clear hl
   cases A0 with
   | none =>
    have h0 : l0 = [] := by
     by_cases hn : 0 < l0.length
     · obtain ⟨ad, e, _⟩ := hr0.2.2 hn
       cases e
     · exact List.length_eq_zero_iff.1 (by omega)
    subst h0
    clear hr0 hHR hHL hc0
    have he := fun W => Lib.run_eql_slice_nil (P := Tryd.prog) W 25 5 none 0 c0 0 0 Tryd.underlying25
    go_enter Tryd.func52, Tryd.ntmps52
    go_wp2
    go_ret
    exact ⟨_, rfl, Kd.R_nil _ _ _ _ _, Below.refl _ _⟩
   | some ad =>
    clear hr0 hc0
    have HB := ak_ (Below.refl w.heap.size w)
    have he := fun W => Lib.run_eql_slice_nil (P := Tryd.prog) W 25 5 (some ad) l0.length c0 0 0 Tryd.underlying25
    go_enter Tryd.func52, Tryd.ntmps52
    go_wp2_with (first | ((with_reducible refine gate_dst (N := 5) rfl ?_); refine Kd.R_lit (Kd.int .u8) w.heap.size 5 ?hg (N := 5) ?hd (xs := ([] : List Int)) (inner := []) (ok := fun _ => True) (okp := fun _ => True) ?hr ?hp (fun _ hk => hk) trivial (Below.refl _ _) (Nat.le_refl _) (by simp) ?_; (case hd | hg => rfl); (case hr => first | (go_simp; done) | (go_simp; rfl)); (case hp => exact (Reps.none _ _)); intro v1 w1 ho hb hg_ hnew_; clear hg_ hnew_; have HO := ak_ ho; have HB1 := ak_ hb; clear ho hb) | ((with_reducible refine gate_builtin (b := .append) (xs := #[.tmp 5, .tmp 6]) rfl ?_); at_builtin; refine Kd.R_append_rows (Kd.int .u8) (w0 := w) w.heap.size rfl (.tmp 5) (.tmp 6) 25 5 (.int .u8 0) 1 rfl Tryd.underlying25 infoB rfl (by decide) (by omega) v1 [] l0 _ _ _ (fun _ => True) (fun _ => False) rfl rfl HO.out (Kd.C_below hHR.out HB1.out) (fun _ _ h => h) (fun _ h => h.elim) (fun _ _ => trivial) HB1.out HB1.out.size ?aL ?_; (case aL => have := hHL.out; simp; omega); intro v2 w2 ho hb hg hat; have HO2 := ak_ ho; have HB2 := ak_ hb; clear ho hb hg hat))
    go_ret
    exact ⟨_, rfl, HO2.out, HB2.out⟩
 · rw [if_neg hl] at h
   cases h
def field_NewReader.f (l0 : List Int) : Option (List Int × Int × Int × Int) := if l0.length < 140737488355328 then some (l0, 0, 0, 0) else none
theorem field_NewReader.calls (A0 : Option Addr) (c0 : Nat) (l0 : List Int) (r1 : List Int) (r2 : Int) (r3 : Int) (r4 : Int) (w0 w : World) (hB : Below w0.heap.size w0 w) (hr0 : Kd.C (Kd.int .u8) w0 A0 l0.length l0) (hc0 : l0.length ≤ c0) (h : field_NewReader.f l0 = some (r1, r2, r3, r4)) :
 Calls Tryd.prog 53 #[.slice A0 l0.length c0] w fun e w' => ∃ (g_ : Nat) (wb : World), e = .returned (.pointer (some ⟨g_, 0, none⟩)) ∧ IsS108 wb w' g_ r1 r2 r3 r4 ∧ Below wb.heap.size wb w' ∧ Below w.heap.size w w' ∧ Below w0.heap.size w0 wb := by
 unfold field_NewReader.f at h
 by_cases hl : l0.length < 140737488355328
 · rw [if_pos hl] at h
   simp only [Option.some.injEq, Prod.mk.injEq] at h
   obtain ⟨rfl, rfl, rfl, rfl⟩ := h
   have hcl := ak_ (show slices_Clone_byte_byte.f l0 = some l0 from by unfold slices_Clone_byte_byte.f; rw [if_pos hl])
   have HR := ak_ (Kd.C_below hr0 hB)
   have HC := ak_ hc0
   have HB := ak_ hB
   clear hl hr0 hc0 hB
   go_enter Tryd.func53, Tryd.ntmps53
   go_wp2_with (first | (go_at_call 52; refine (slices_Clone_byte_byte.calls _ _ l0 l0 _ HR.out HC.out hcl.out).mono ?_; rintro e w1 ⟨v1, rfl, hR, hb⟩; obtain ⟨A1, c1, e1⟩ := Kd.R_slice hR; subst e1; have HO := ak_ hR; have HB1 := ak_ hb; clear hR hb) | ((with_reducible refine gate_dst (N := 6) rfl ?_); refine box_event ?hg (N := 6) ?hd (cs := #[.slice A1 l0.length c1, .int .i64 0, .int .i64 0, .int .i64 0]) (t := 108) ?hr ?_; (case hd | hg => rfl); (case hr => first | (go_simp; done) | (go_simp; rfl)); intro gb hg w9 hbox hb; have HX := ak_ hbox; have HY := ak_ hb; have HG := ak_ hg; clear hbox hb hg))
   go_ret
   exact ⟨gb, w1, rfl, ⟨A1, c1, HX.out, Nat.le_of_eq HG.out.symm, (Kd.R_reads' HO.out).2.2, (Kd.R_reads' HO.out).2.1⟩, HY.out, below_step HB1.out HY.out, below_step HB.out HB1.out⟩
 · rw [if_neg hl] at h
   cases h
theorem C_put {w : World} {A : Option Addr} {n : Nat} {xs : List Int} (h : Kd.C (Kd.int .u8) w A n xs) {p : Addr} {u : Value} (hc : w.cell? p = some u) (hu : ∀ x, u ≠ .int .u8 x) (v : Value) : Kd.C (Kd.int .u8) (w.setCell p v) A n xs := by
 have r := Kd.reads_of_C (d := (0 : Int)) (h1 := fun _ => rfl) h
 refine Kd.C_of_reads (d := (0 : Int)) (h1 := fun _ => rfl) ⟨r.1, r.2.1, fun hn => ?_⟩
 obtain ⟨ad, e, hc'⟩ := r.2.2 hn
 exact ⟨ad, e, fun j hj => (World.cell?_setCell_other (w := w) (a := p) (b := ad.add j) (v := v) (fun e2 => hu _ (Option.some.inj (hc.symm.trans (by rw [e2]; exact hc' j hj))))).trans (hc' j hj)⟩
theorem isR_both {wb W : World} {g : Nat} {f0 : List Int} {f1 f2 f3 : Int} {p : Addr} {u : Value} (h : IsS108 wb W g f0 f1 f2 f3) (hne : g ≠ p.block) (hc : wb.cell? p = some u) (hu : ∀ x, u ≠ .int .u8 x) (v : Value) : IsS108 (wb.setCell p v) (W.setCell p v) g f0 f1 f2 f3 := by
 obtain ⟨A0, c0, hb, hg, hC, hl⟩ := h
 exact ⟨A0, c0, blk_far hb hne v, by simpa [World.setCell] using hg, C_put hC hc hu v, hl⟩
theorem below_both {a b : World} {p : Addr} {v : Value} (h : Below a.heap.size a b) : Below (a.setCell p v).heap.size (a.setCell p v) (b.setCell p v) :=
 ⟨h.os, h.tape, h.output, by simpa [World.setCell] using h.size, fun k hk => by
  have hk' : k < a.heap.size := by simpa [World.setCell] using hk
  have := h.block k hk'
  simp [World.setCell, Array.getElem?_modify, this]⟩
theorem code_open.calls (A0 : Option Addr) (c0 : Nat) (l0 : List Int) (w : World) (hr0 : Kd.C (Kd.int .u8) w A0 l0.length l0) (hc0 : l0.length ≤ c0) (h : l0.length < 140737488355328) :
 Calls Tryd.prog 27 #[.slice A0 l0.length c0] w fun e w' => ∃ (g_ : Nat) (wb : World), e = .returned (.agg #[.pointer (some ⟨g_, 0, none⟩)]) ∧ IsS108 wb w' g_ l0 0 0 0 ∧ Below wb.heap.size wb w' ∧ Below w.heap.size w wb := by
 have HR := ak_ hr0
 have HC := ak_ hc0
 have HB := ak_ (Below.refl w.heap.size w)
 have HNR := ak_ (show field_NewReader.f l0 = some (l0, 0, 0, 0) by unfold field_NewReader.f; rw [if_pos h])
 clear hr0 hc0 h
 go_enter Tryd.func27, Tryd.ntmps27
 go_wp2_with (first | ((with_reducible refine gate_dst (N := 2) rfl ?_); refine box_event ?hg (N := 2) ?hd (cs := #[.pointer none]) (t := 74) ?hr ?_; (case hd | hg => rfl); (case hr => first | (go_simp; done) | (go_simp; rfl)); intro g2 hg w1 hbox hb; have HB1 := ak_ (below_step HB.out hb); have B1 := ak_ hbox; have GE := ak_ (show w.heap.size ≤ g2 by rw [hg]; exact Nat.le_refl _); clear hb hbox hg; have hc1 : w1.cell? ⟨g2, 0, none⟩ = some (.pointer none) := (zc B1.out 0).trans rfl; have hf1 := zf B1.out 0) | (go_at_call 53; refine (field_NewReader.calls A0 c0 l0 l0 0 0 0 w1 w1 (Below.refl _ _) (Kd.C_below HR.out HB1.out) HC.out HNR.out).mono ?_; rintro e w2 ⟨gr, wb, rfl, hi, hb, hb2, hb3⟩; have HI2 := ak_ hi; have HB2 := ak_ hb; have HW2 := ak_ hb3; have B2 := ak_ (blk_below B1.out hb2); have BW := ak_ (blk_below B1.out hb3); have NE := ak_ (show gr ≠ g2 by have := hi.ge; have := blk_lt BW.out; omega); clear hi hb hb2 hb3; have hc2 : w2.cell? ⟨g2, 0, none⟩ = some (.pointer none) := (zc B2.out 0).trans rfl; have hf2 := zf B2.out 0))
 refine bodyPost_ret (results_cell_row rfl _ _ g2 74 #[.pointer (some ⟨gr, 0, none⟩)] (0, 0) _ rfl (blk_put B2.out 0 (.pointer (some ⟨gr, 0, none⟩)) rfl) Tryd.underlying74 rfl (by kernel_rfl)) rfl ?_
 exact ⟨gr, wb.setCell ⟨g2, 0, none⟩ (.pointer (some ⟨gr, 0, none⟩)), rfl, isR_both (p := ⟨g2, 0, none⟩) HI2.out NE.out ((zc BW.out 0).trans rfl) (by intro x_ h_; cases h_) _, below_both HB2.out, below_set (below_step HB1.out HW2.out) GE.out⟩
theorem writer_Bytes.callsT (T : TypeId) (g : Nat) (v : Value) (xs : List Int) (w0 w : World) (hI : IsWT T w0 w g v xs) (hx : xs.length < 100000000) :
 Calls Tryd.prog 23 #[.pointer (some ⟨g, 0, none⟩)] w fun e w' => ∃ v0_ : Value, e = .returned v0_ ∧ Kd.R (Kd.int .u8) 5 w' w.heap.size (fun _ => True) v0_ xs ∧ IsWT T w0 w' g v xs ∧ Below w.heap.size w w' := by
 obtain ⟨hg, hge, hR⟩ := hI
 obtain ⟨A1, c1, e1⟩ := Kd.R_slice hR
 subst e1
 have HI := ak_ (show IsWT T w0 w g (.slice A1 xs.length c1) xs from ⟨hg, hge, hR⟩)
 have hc := (zc hg 0).trans rfl
 have hc' : w.cell? ⟨g, 0, none⟩ = some (.slice A1 xs.length c1) := (zc hg 0).trans rfl
 have HR := ak_ (Kd.R_reads' hR)
 have hcl := ak_ (show slices_Clone_byte_byte.f xs = some xs from by unfold slices_Clone_byte_byte.f; rw [if_pos (by omega)])
 clear hR hge hg hc
 go_enter Tryd.func23, Tryd.ntmps23
 go_wp2_with (first | (go_at_call 52; refine (slices_Clone_byte_byte.calls _ _ xs xs _ HR.out.2.2 HR.out.2.1 hcl.out).mono ?_; rintro e w1 ⟨v1, rfl, hR, hb⟩; have HO := ak_ hR; have HB1 := ak_ hb; clear hR hb))
 go_ret
 exact ⟨_, rfl, HO.out, ⟨blk_grown HI.out.1 (grown_of_below HB1.out none) (by simp), HI.out.2.1, Kd.R_below HI.out.2.2 HB1.out⟩, HB1.out⟩
end Go.Proofs.YtcgpbakimkhdpaaDoor.Q
