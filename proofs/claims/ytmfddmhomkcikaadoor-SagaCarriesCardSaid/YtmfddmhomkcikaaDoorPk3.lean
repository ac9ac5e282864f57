/- Part 3 of a claim's texts. -/
import Derived.Test.YtmfddmhomkcikaaDoorPk1
import Derived.Test.YtmfddmhomkcikaaDoorPk2
namespace Go.Proofs.YtmfddmhomkcikaaDoor.Q
open Go.RowKit Go.Proofs.YtmfddmhomkcikaaDoorW.PrintWords Go.Proofs.YtmfddmhomkcikaaDoorW.PrintLast Go.Proofs.YtmfddmhomkcikaaDoorW.PrintMore
attribute [local go_sem] max2_int min2_int max_two min_two max_three min_three max_four min_four
set_option linter.unusedVariables false
set_option linter.unusedSimpArgs false
set_option maxHeartbeats 8000000
set_option maxRecDepth 100000
open Go.Proofs.YtmfddmhomkcikaaDoor.Q.H_
mutual
def uK.j0 : Nat → Bool → ByteArray → Int → List (S70) → Option (Int × Int)
 | 0, _, _, _, _ => none
 | k + 1, x18, x352000, x352001, x352002 => if x18 = true then (some ((-1), 1)) else (if (x352002.length : Int) < 1 then (some ((-1), 2)) else (if (x352002.length : Int) > 32 then (some ((-1), 4)) else (uK.l0 k 0 x352000 x352001 x352002)))
def uK.l0 : Nat → Int → ByteArray → Int → List (S70) → Option (Int × Int)
 | 0, _, _, _, _ => none
 | k + 1, x4, x352000, x352001, x352002 => if x4 < (x352002.length : Int) then (if 0 ≤ x4 then ((uR02_Good.f k ((rd_T70 x352002 x4).f0)).bind fun t355 => (if t355 = true then ((uR02_Good.f k ((rd_T70 x352002 x4).f1)).bind fun t356 => (uK.j2 k x4 (!t356) x352000 x352001 x352002 ((rd_T70 x352002 x4).f0) ((rd_T70 x352002 x4).f1) ((rd_T70 x352002 x4).f2) ((rd_T70 x352002 x4).f3.f0) ((rd_T70 x352002 x4).f3.f1) ((rd_T70 x352002 x4).f3.f2) ((rd_T70 x352002 x4).f3.f3) ((rd_T70 x352002 x4).f4.f0) ((rd_T70 x352002 x4).f4.f1) ((rd_T70 x352002 x4).f4.f2) ((rd_T70 x352002 x4).f4.f3) ((rd_T70 x352002 x4).f5))) else (uK.j2 k x4 true x352000 x352001 x352002 ((rd_T70 x352002 x4).f0) ((rd_T70 x352002 x4).f1) ((rd_T70 x352002 x4).f2) ((rd_T70 x352002 x4).f3.f0) ((rd_T70 x352002 x4).f3.f1) ((rd_T70 x352002 x4).f3.f2) ((rd_T70 x352002 x4).f3.f3) ((rd_T70 x352002 x4).f4.f0) ((rd_T70 x352002 x4).f4.f1) ((rd_T70 x352002 x4).f4.f2) ((rd_T70 x352002 x4).f4.f3) ((rd_T70 x352002 x4).f5)))) else (none)) else (some ((-1), 0))
def uK.j2 : Nat → Int → Bool → ByteArray → Int → List (S70) → ByteArray → ByteArray → Int → Int → Int → Int → Int → Int → Int → Int → Int → Int → Option (Int × Int)
 | 0, _, _, _, _, _, _, _, _, _, _, _, _, _, _, _, _, _ => none
 | k + 1, x4, x48, x352000, x352001, x352002, x355000, x355001, x355002, x355003, x355004, x355005, x355006, x355007, x355008, x355009, x355010, x355011 => if x48 = true then (some (x4, 10)) else (uK.l1 k x4 0 x352000 x352001 x352002 x355000 x355001 x355002 x355003 x355004 x355005 x355006 x355007 x355008 x355009 x355010 x355011)
def uK.l1 : Nat → Int → Int → ByteArray → Int → List (S70) → ByteArray → ByteArray → Int → Int → Int → Int → Int → Int → Int → Int → Int → Int → Option (Int × Int)
 | 0, _, _, _, _, _, _, _, _, _, _, _, _, _, _, _, _, _ => none
 | k + 1, x4, x6, x352000, x352001, x352002, x355000, x355001, x355002, x355003, x355004, x355005, x355006, x355007, x355008, x355009, x355010, x355011 => if x6 < x4 then (if 0 ≤ x6 then (if x6 < (x352002.length : Int) then (if ((rd_T70 x352002 x6).f0).toList = x355000.toList then (some (x4, 6)) else (uK.l1 k x4 (wrap64 (x6 + 1)) x352000 x352001 x352002 x355000 x355001 x355002 x355003 x355004 x355005 x355006 x355007 x355008 x355009 x355010 x355011)) else (none)) else (none)) else (if x355002 < 1 then (uK.j4 k x4 true x352000 x352001 x352002 x355000 x355001 x355002 x355003 x355004 x355005 x355006 x355007 x355008 x355009 x355010 x355011) else (if x355002 > 1099511627776 then (uK.j4 k x4 true x352000 x352001 x352002 x355000 x355001 x355002 x355003 x355004 x355005 x355006 x355007 x355008 x355009 x355010 x355011) else (if x355011 < 0 then (uK.j4 k x4 true x352000 x352001 x352002 x355000 x355001 x355002 x355003 x355004 x355005 x355006 x355007 x355008 x355009 x355010 x355011) else (uK.j4 k x4 (decide (x355011 > 255)) x352000 x352001 x352002 x355000 x355001 x355002 x355003 x355004 x355005 x355006 x355007 x355008 x355009 x355010 x355011))))
def uK.j4 : Nat → Int → Bool → ByteArray → Int → List (S70) → ByteArray → ByteArray → Int → Int → Int → Int → Int → Int → Int → Int → Int → Int → Option (Int × Int)
 | 0, _, _, _, _, _, _, _, _, _, _, _, _, _, _, _, _, _ => none
 | k + 1, x4, x82, x352000, x352001, x352002, x355000, x355001, x355002, x355003, x355004, x355005, x355006, x355007, x355008, x355009, x355010, x355011 => if x82 = true then (some (x4, 1)) else ((uR11_Good.f x355003 x355004 x355005 x355006).bind fun t358 => (if t358 = true then ((uR11_Good.f x355007 x355008 x355009 x355010).bind fun t359 => (if t359 = true then (uK.l0 k (wrap64 (x4 + 1)) x352000 x352001 x352002) else (some (x4, 3)))) else (some (x4, 3))))
end
def uK.f (k : Nat) (a0_0 : ByteArray) (a0_1 : Int) (l0_2 : List (S70)) : Option (Int × Int) := (uR02_Good.f k a0_0).bind fun t352 => (if t352 = true then (if a0_1 < 0 then (uK.j0 k true a0_0 a0_1 l0_2) else (uK.j0 k (decide (a0_1 > 1099511627776)) a0_0 a0_1 l0_2)) else (some ((-1), 10)))
theorem uK.calls (k : Nat) (a0_0 : ByteArray) (a0_1 : Int) (A0_2 : Option Addr) (c0_2 : Nat) (l0_2 : List (S70)) (r1 : Int) (r2 : Int) (w : World) (hr0_2 : Kd.C k70 w A0_2 l0_2.length l0_2) (hc0_2 : l0_2.length ≤ c0_2) (h : uK.f k a0_0 a0_1 l0_2 = some (r1, r2)) :
 Calls Tryd.prog 9 #[.agg #[.string a0_0, .int .i64 a0_1, .slice A0_2 l0_2.length c0_2]] w fun e w' => e = .returned (.tuple #[.int .i64 r1, .int .i64 r2]) ∧ Below w.heap.size w w' := by
 have hu24 := Tryd.underlying24
 have hu70 := Tryd.underlying70
 have hu54 := Tryd.underlying54
 have HR0_2 := ak_ hr0_2
 have HC0_2 := ak_ hc0_2
 clear hr0_2 hc0_2
 have HB := ak_ (Below.refl w.heap.size w)
 have H : ((uR02_Good.f k a0_0).bind fun t352 => (if t352 = true then (if a0_1 < 0 then (uK.j0 k true a0_0 a0_1 l0_2) else (uK.j0 k (decide (a0_1 > 1099511627776)) a0_0 a0_1 l0_2)) else (some ((-1), 10)))) = some (r1, r2) := h
 clear h
 replace H := ob_ H
 obtain ⟨t352, A20, H⟩ := H
 replace H : (if t352 = true then (if a0_1 < 0 then (uK.j0 k true a0_0 a0_1 l0_2) else (uK.j0 k (decide (a0_1 > 1099511627776)) a0_0 a0_1 l0_2)) else (some ((-1), 10))) = some (r1, r2) := H
 have A2 := ak_ A20
 clear A20
 have HF3 := ak_ H
 clear H
 go_enter Tryd.func9, Tryd.ntmps9
 go_upto_if 10 with (first | ((with_reducible refine gate_dst (N := 1) rfl ?_); refine box_event ?hg (N := 1) ?hd (cs := #[.string a0_0, .int .i64 a0_1, .slice A0_2 l0_2.length c0_2]) (t := 24) ?hr ?_; (case hd | hg => rfl); (case hr => first | (go_simp; done) | (go_simp; rfl)); intro gb351 hg w4 hbox hb; have n0_ := ak_ (ps (by with_reducible repeat first | exact HB.out | apply pa | apply pd | apply pe) hb); have n1_ := ak_ (hbox); have n2_ := ak_ ((by rw [hg]; exact (below_size (by with_reducible repeat first | exact HB.out | apply pa | apply pd | apply pe)) : w.heap.size ≤ gb351)); have n3_ := ak_ ((by rw [hg]; exact (below_size (by with_reducible repeat first | exact HB.out | apply pa | apply pd | apply pe)) : w.heap.size ≤ gb351)); clear HB; have HB := n0_; have BK351 := n1_; have GW351 := n2_; have GE351 := n3_; clear n0_ n1_ n2_ n3_ hb hbox hg; have hcz5_0 : w4.cell? ⟨gb351, 0, none⟩ = some (.string a0_0) := (zc BK351.out 0).trans rfl; have hcz5_1 : w4.cell? ⟨gb351, 1, none⟩ = some (.int .i64 a0_1) := (zc BK351.out 1).trans rfl; have hcz5_2 : w4.cell? ⟨gb351, 2, none⟩ = some (.slice A0_2 l0_2.length c0_2) := (zc BK351.out 2).trans rfl; have hfz5_0 := zf BK351.out 0; have hfz5_1 := zf BK351.out 1; have hfz5_2 := zf BK351.out 2) | (go_at_call 31; (with_reducible refine (uR02_Good.calls k a0_0 t352 _ A2.out).mono ?_); rintro e w' ⟨rfl, ⟨nd, rfl⟩⟩; (try first | exact ⟨rfl, _, World.drewN_drewN _ _ _⟩ | exact ⟨rfl, _, Eq.trans (World.drewN_drewN _ _ _) (congrArg (World.drewN _) (Nat.add_assoc _ _ _))⟩)))
 repeat (go_quiet (first | ((with_reducible refine gate_dst (N := 1) rfl ?_); refine box_event ?hg (N := 1) ?hd (cs := #[.string a0_0, .int .i64 a0_1, .slice A0_2 l0_2.length c0_2]) (t := 24) ?hr ?_; (case hd | hg => rfl); (case hr => first | (go_simp; done) | (go_simp; rfl)); intro gb351 hg w4 hbox hb; have n0_ := ak_ (ps (by with_reducible repeat first | exact HB.out | apply pa | apply pd | apply pe) hb); have n1_ := ak_ (hbox); have n2_ := ak_ ((by rw [hg]; exact (below_size (by with_reducible repeat first | exact HB.out | apply pa | apply pd | apply pe)) : w.heap.size ≤ gb351)); have n3_ := ak_ ((by rw [hg]; exact (below_size (by with_reducible repeat first | exact HB.out | apply pa | apply pd | apply pe)) : w.heap.size ≤ gb351)); clear HB; have HB := n0_; have BK351 := n1_; have GW351 := n2_; have GE351 := n3_; clear n0_ n1_ n2_ n3_ hb hbox hg; have hcz5_0 : w4.cell? ⟨gb351, 0, none⟩ = some (.string a0_0) := (zc BK351.out 0).trans rfl; have hcz5_1 : w4.cell? ⟨gb351, 1, none⟩ = some (.int .i64 a0_1) := (zc BK351.out 1).trans rfl; have hcz5_2 : w4.cell? ⟨gb351, 2, none⟩ = some (.slice A0_2 l0_2.length c0_2) := (zc BK351.out 2).trans rfl; have hfz5_0 := zf BK351.out 0; have hfz5_1 := zf BK351.out 1; have hfz5_2 := zf BK351.out 2) | (go_at_call 31; (with_reducible refine (uR02_Good.calls k a0_0 t352 _ A2.out).mono ?_); rintro e w' ⟨rfl, ⟨nd, rfl⟩⟩; (try first | exact ⟨rfl, _, World.drewN_drewN _ _ _⟩ | exact ⟨rfl, _, Eq.trans (World.drewN_drewN _ _ _) (congrArg (World.drewN _) (Nat.add_assoc _ _ _))⟩))); go_upto_if 10 with (first | ((with_reducible refine gate_dst (N := 1) rfl ?_); refine box_event ?hg (N := 1) ?hd (cs := #[.string a0_0, .int .i64 a0_1, .slice A0_2 l0_2.length c0_2]) (t := 24) ?hr ?_; (case hd | hg => rfl); (case hr => first | (go_simp; done) | (go_simp; rfl)); intro gb351 hg w4 hbox hb; have n0_ := ak_ (ps (by with_reducible repeat first | exact HB.out | apply pa | apply pd | apply pe) hb); have n1_ := ak_ (hbox); have n2_ := ak_ ((by rw [hg]; exact (below_size (by with_reducible repeat first | exact HB.out | apply pa | apply pd | apply pe)) : w.heap.size ≤ gb351)); have n3_ := ak_ ((by rw [hg]; exact (below_size (by with_reducible repeat first | exact HB.out | apply pa | apply pd | apply pe)) : w.heap.size ≤ gb351)); clear HB; have HB := n0_; have BK351 := n1_; have GW351 := n2_; have GE351 := n3_; clear n0_ n1_ n2_ n3_ hb hbox hg; have hcz5_0 : w4.cell? ⟨gb351, 0, none⟩ = some (.string a0_0) := (zc BK351.out 0).trans rfl; have hcz5_1 : w4.cell? ⟨gb351, 1, none⟩ = some (.int .i64 a0_1) := (zc BK351.out 1).trans rfl; have hcz5_2 : w4.cell? ⟨gb351, 2, none⟩ = some (.slice A0_2 l0_2.length c0_2) := (zc BK351.out 2).trans rfl; have hfz5_0 := zf BK351.out 0; have hfz5_1 := zf BK351.out 1; have hfz5_2 := zf BK351.out 2) | (go_at_call 31; (with_reducible refine (uR02_Good.calls k a0_0 t352 _ A2.out).mono ?_); rintro e w' ⟨rfl, ⟨nd, rfl⟩⟩; (try first | exact ⟨rfl, _, World.drewN_drewN _ _ _⟩ | exact ⟨rfl, _, Eq.trans (World.drewN_drewN _ _ _) (congrArg (World.drewN _) (Nat.add_assoc _ _ _))⟩))))
 (try simp only [Act.put, sa_, sz_, ss_])
 have H := HF3.out
 clear HF3
 by_cases c6 : t352 = true
 · subst c6
   have H1 : (if a0_1 < 0 then (uK.j0 k true a0_0 a0_1 l0_2) else (uK.j0 k (decide (a0_1 > 1099511627776)) a0_0 a0_1 l0_2)) = some (r1, r2) := by rw [if_pos rfl] at H; exact H
   clear H
   have H := H1
   clear H1
   have HC7 := ak_ H
   clear H
   go_upto_region 3 with (fail)
   repeat (go_quiet (fail); go_upto_region 3 with (fail))
   go_cut [18] (fun v18 wc => ∃ (kq : Nat) (x18_6 : Bool), v18 = .bool x18_6 ∧ Aside0 (uK.j0 kq x18_6 a0_0 a0_1 l0_2 = some (r1, r2)) ∧ Aside0 (kq ≤ k) ∧ Aside0 (wc.heap[gb351]? = some (.cells #[.string a0_0, .int .i64 a0_1, (.slice A0_2 l0_2.length c0_2)] 24 (0, 0))) ∧ Aside0 (Below w.heap.size w wc))
   case first =>
    have H := HC7.out
    clear HC7
    by_cases c8 : a0_1 < 0
    · rw [if_pos c8] at H
      have c8b0 : decide (a0_1 < 0) = true := dt_ c8
      clear c8
      (first | rw [c8b0] | (simp only [i64_w, i32_w]; rw [c8b0]) | skip)
      have H' := ak_ H
      clear H
      have hcz9_0 : w4.cell? ⟨gb351, 0, none⟩ = some (.string a0_0) := (zc BK351.out 0).trans rfl
      have hcz9_1 : w4.cell? ⟨gb351, 1, none⟩ = some (.int .i64 a0_1) := (zc BK351.out 1).trans rfl
      have hcz9_2 : w4.cell? ⟨gb351, 2, none⟩ = some (.slice A0_2 l0_2.length c0_2) := (zc BK351.out 2).trans rfl
      have hfz9_0 := zf BK351.out 0
      have hfz9_1 := zf BK351.out 1
      have hfz9_2 := zf BK351.out 2
      go_wp2
      repeat (go_quiet (fail); try go_wp2)
      go_meet
      case rel => exact ⟨_, (true), (by first | rfl | simp [*]), H', ⟨by first | omega | exact Nat.le_refl _⟩, ⟨by (with_reducible repeat (first | apply zn | apply zd | apply za)); exact BK351.out⟩, ⟨by repeat (first | (with_reducible first | exact HB.out | apply pa | apply pd | apply pe | refine zs ?_ GE351.out) | exact HB.out)⟩⟩
    rw [if_neg c8] at H
    have c8b0 : decide (a0_1 < 0) = false := df_ c8
    clear c8
    (first | rw [c8b0] | (simp only [i64_w, i32_w]; rw [c8b0]) | skip)
    have H' := ak_ H
    clear H
    have hcz10_0 : w4.cell? ⟨gb351, 0, none⟩ = some (.string a0_0) := (zc BK351.out 0).trans rfl
    have hcz10_1 : w4.cell? ⟨gb351, 1, none⟩ = some (.int .i64 a0_1) := (zc BK351.out 1).trans rfl
    have hcz10_2 : w4.cell? ⟨gb351, 2, none⟩ = some (.slice A0_2 l0_2.length c0_2) := (zc BK351.out 2).trans rfl
    have hfz10_0 := zf BK351.out 0
    have hfz10_1 := zf BK351.out 1
    have hfz10_2 := zf BK351.out 2
    go_wp2
    repeat (go_quiet (fail); try go_wp2)
    go_meet
    case rel => exact ⟨_, (decide (a0_1 > 1099511627776)), (by first | rfl | simp [*]), H', ⟨by first | omega | exact Nat.le_refl _⟩, ⟨by (with_reducible repeat (first | apply zn | apply zd | apply za)); exact BK351.out⟩, ⟨by repeat (first | (with_reducible first | exact HB.out | apply pa | apply pd | apply pe | refine zs ?_ GE351.out) | exact HB.out)⟩⟩
   case rest =>
    clear HC7
    try clear p2
    try clear c6
    try clear c8
    try clear c8b0
    try clear c9
    try clear hcz10_0
    try clear hcz10_1
    try clear hcz10_2
    try clear hcz5_0
    try clear hcz5_1
    try clear hcz5_2
    try clear hcz9_0
    try clear hcz9_1
    try clear hcz9_2
    try clear hfz10_0
    try clear hfz10_1
    try clear hfz10_2
    try clear hfz5_0
    try clear hfz5_1
    try clear hfz5_2
    try clear hfz9_0
    try clear hfz9_1
    try clear hfz9_2
    obtain ⟨kq, x18_6, rfl, HA, HJ6, BK351, HB⟩ := hcut
    cases kq with
    | zero => exact absurd HA.out (by simp [uK.j0])
    | succ kj6 =>
     have H := HA.out
     clear HA
     simp only [uK.j0] at H
     have HF11 := ak_ H
     clear H
     go_upto_if 18 with (fail)
     repeat (go_quiet (fail); go_upto_if 18 with (fail))
     have H := HF11.out
     clear HF11
     by_cases c12 : x18_6 = true
     · subst c12
       have H1 : (some ((-1), 1)) = some (r1, r2) := by rw [if_pos rfl] at H; exact H
       clear H
       have H := H1
       clear H1
       simp only [Option.some.injEq, Prod.mk.injEq] at H
       obtain ⟨rfl, rfl⟩ := H
       go_wp2
       repeat (go_quiet (fail); try go_wp2)
       go_ret2
       exact ⟨by first | rfl | simp [*], by repeat (first | (with_reducible first | exact HB.out | apply pa | apply pd | apply pe | refine zs ?_ GE351.out) | exact HB.out)⟩
     replace c12 := Bool.eq_false_iff.mpr c12
     subst c12
     have H1 : (if (l0_2.length : Int) < 1 then (some ((-1), 2)) else (if (l0_2.length : Int) > 32 then (some ((-1), 4)) else (uK.l0 kj6 0 a0_0 a0_1 l0_2))) = some (r1, r2) := by rw [if_neg (show ¬ (false = true) by decide)] at H; exact H
     clear H
     have H := H1
     clear H1
     have HF13 := ak_ H
     clear H
     have hcz14_0 : wc.cell? ⟨gb351, 0, none⟩ = some (.string a0_0) := (zc BK351.out 0).trans rfl
     have hcz14_1 : wc.cell? ⟨gb351, 1, none⟩ = some (.int .i64 a0_1) := (zc BK351.out 1).trans rfl
     have hcz14_2 : wc.cell? ⟨gb351, 2, none⟩ = some (.slice A0_2 l0_2.length c0_2) := (zc BK351.out 2).trans rfl
     have hfz14_0 := zf BK351.out 0
     have hfz14_1 := zf BK351.out 1
     have hfz14_2 := zf BK351.out 2
     go_upto_if 22 with (fail)
     repeat (go_quiet (fail); go_upto_if 22 with (fail))
     have H := HF13.out
     clear HF13
     by_cases c15 : (l0_2.length : Int) < 1
     · rw [if_pos c15] at H
       have c15b0 : decide ((l0_2.length : Int) < 1) = true := dt_ c15
       have c15b1 : decide (l0_2.length < 1) = true := dt_ (by omega)
       clear c15
       (first | rw [c15b0] | (simp only [i64_w, i32_w]; rw [c15b0]) | skip)
       simp only [Option.some.injEq, Prod.mk.injEq] at H
       obtain ⟨rfl, rfl⟩ := H
       go_wp2
       repeat (go_quiet (fail); try go_wp2)
       go_ret2
       exact ⟨by first | rfl | simp [*], by repeat (first | (with_reducible first | exact HB.out | apply pa | apply pd | apply pe | refine zs ?_ GE351.out) | exact HB.out)⟩
     rw [if_neg c15] at H
     have c15b0 : decide ((l0_2.length : Int) < 1) = false := df_ c15
     have c15b1 : decide (l0_2.length < 1) = false := df_ (by omega)
     clear c15
     (first | rw [c15b0] | (simp only [i64_w, i32_w]; rw [c15b0]) | skip)
     have HF16 := ak_ H
     clear H
     have hcz17_0 : wc.cell? ⟨gb351, 0, none⟩ = some (.string a0_0) := (zc BK351.out 0).trans rfl
     have hcz17_1 : wc.cell? ⟨gb351, 1, none⟩ = some (.int .i64 a0_1) := (zc BK351.out 1).trans rfl
     have hcz17_2 : wc.cell? ⟨gb351, 2, none⟩ = some (.slice A0_2 l0_2.length c0_2) := (zc BK351.out 2).trans rfl
     have hfz17_0 := zf BK351.out 0
     have hfz17_1 := zf BK351.out 1
     have hfz17_2 := zf BK351.out 2
     go_upto_if 26 with (fail)
     repeat (go_quiet (fail); go_upto_if 26 with (fail))
     have H := HF16.out
     clear HF16
     by_cases c18 : (l0_2.length : Int) > 32
     · rw [if_pos c18] at H
       have c18b0 : decide (32 < (l0_2.length : Int)) = true := dt_ c18
       have c18b1 : decide (32 < l0_2.length) = true := dt_ (by omega)
       clear c18
       (first | rw [c18b0] | (simp only [i64_w, i32_w]; rw [c18b0]) | skip)
       simp only [Option.some.injEq, Prod.mk.injEq] at H
       obtain ⟨rfl, rfl⟩ := H
       go_wp2
       repeat (go_quiet (fail); try go_wp2)
       go_ret2
       exact ⟨by first | rfl | simp [*], by repeat (first | (with_reducible first | exact HB.out | apply pa | apply pd | apply pe | refine zs ?_ GE351.out) | exact HB.out)⟩
     rw [if_neg c18] at H
     have c18b0 : decide (32 < (l0_2.length : Int)) = false := df_ c18
     have c18b1 : decide (32 < l0_2.length) = false := df_ (by omega)
     clear c18
     (first | rw [c18b0] | (simp only [i64_w, i32_w]; rw [c18b0]) | skip)
     have H' := ak_ H
     clear H
     go_wp2
     repeat (go_quiet (fail); try go_wp2)
     go_loopg [4] kj6 (fun kq v4 w' => ∃ (x4_2 : Int), v4 = .int .i64 x4_2 ∧ Aside0 (uK.l0 kq x4_2 a0_0 a0_1 l0_2 = some (r1, r2)) ∧ Aside0 (kq ≤ kj6) ∧ Aside0 (w'.heap[gb351]? = some (.cells #[.string a0_0, .int .i64 a0_1, (.slice A0_2 l0_2.length c0_2)] 24 (0, 0))) ∧ Aside0 (Below w.heap.size w w'))
     case atStart => exact ⟨(0), (by first | rfl | simp [*]), H', ⟨Nat.le_refl _⟩, ⟨by (with_reducible repeat (first | apply zn | apply zd | apply za)); exact BK351.out⟩, ⟨by repeat (first | (with_reducible first | exact HB.out | apply pa | apply pd | apply pe | refine zs ?_ GE351.out) | exact HB.out)⟩⟩
     case round =>
      clear H'
      try clear c1
      try clear p2
      try clear c6
      try clear c8
      try clear c8b0
      try clear c9
      try clear c12
      try clear c15
      try clear c15b0
      try clear c15b1
      try clear c18
      try clear c18b0
      try clear c18b1
      try clear hcz10_0
      try clear hcz10_1
      try clear hcz10_2
      try clear hcz14_0
      try clear hcz14_1
      try clear hcz14_2
      try clear hcz17_0
      try clear hcz17_1
      try clear hcz17_2
      try clear hcz5_0
      try clear hcz5_1
      try clear hcz5_2
      try clear hcz9_0
      try clear hcz9_1
      try clear hcz9_2
      try clear hfz10_0
      try clear hfz10_1
      try clear hfz10_2
      try clear hfz14_0
      try clear hfz14_1
      try clear hfz14_2
      try clear hfz17_0
      try clear hfz17_1
      try clear hfz17_2
      try clear hfz5_0
      try clear hfz5_1
      try clear hfz5_2
      try clear hfz9_0
      try clear hfz9_1
      try clear hfz9_2
      try clear p2
      obtain ⟨x4_2, rfl, HA, HK2, BK351, HB⟩ := hrel
      cases gk with
      | zero => exact absurd HA.out (by simp [uK.l0])
      | succ k2 =>
       have H := HA.out
       clear HA
       simp only [uK.l0] at H
       have HF19 := ak_ H
       clear H
       have hcz20_0 : wr.cell? ⟨gb351, 0, none⟩ = some (.string a0_0) := (zc BK351.out 0).trans rfl
       have hcz20_1 : wr.cell? ⟨gb351, 1, none⟩ = some (.int .i64 a0_1) := (zc BK351.out 1).trans rfl
       have hcz20_2 : wr.cell? ⟨gb351, 2, none⟩ = some (.slice A0_2 l0_2.length c0_2) := (zc BK351.out 2).trans rfl
       have hfz20_0 := zf BK351.out 0
       have hfz20_1 := zf BK351.out 1
       have hfz20_2 := zf BK351.out 2
       go_upto_if 31 with (fail)
       repeat (go_quiet (fail); go_upto_if 31 with (fail))
       have H := HF19.out
       clear HF19
       by_cases c21 : x4_2 < (l0_2.length : Int)
       · rw [if_pos c21] at H
         have c21b0 : decide (x4_2 < (l0_2.length : Int)) = true := dt_ c21
         clear c21
         (first | rw [c21b0] | (simp only [i64_w, i32_w]; rw [c21b0]) | skip)
         by_cases c22 : 0 ≤ x4_2
         · rw [if_pos c22] at H
           have c22b0 : decide (0 ≤ x4_2) = true := dt_ c22
           clear c22
           have HC23 := ak_ H
           clear H
           have hcz24_0 : wr.cell? ⟨gb351, 0, none⟩ = some (.string a0_0) := (zc BK351.out 0).trans rfl
           have hcz24_1 : wr.cell? ⟨gb351, 1, none⟩ = some (.int .i64 a0_1) := (zc BK351.out 1).trans rfl
           have hcz24_2 : wr.cell? ⟨gb351, 2, none⟩ = some (.slice A0_2 l0_2.length c0_2) := (zc BK351.out 2).trans rfl
           have hfz24_0 := zf BK351.out 0
           have hfz24_1 := zf BK351.out 1
           have hfz24_2 := zf BK351.out 2
           have p353 : 0 ≤ (x4_2 : Int) := of_decide_eq_true (by assumption)
           have q353 : x4_2 < (l0_2.length : Int) := of_decide_eq_true (by assumption)
           obtain ⟨ad353, e353, hx353_0, hx353_1, hx353_2, hx353_3, hx353_4, hx353_5, hx353_6, hx353_7, hx353_8, hx353_9, hx353_10, hx353_11⟩ := at_T70 HR0_2.out x4_2 p353 q353
           cases e353
           replace hx353_0 := (HB.out.cell (bl_ w _ hx353_0)).trans hx353_0
           replace hx353_1 := (HB.out.cell (bl_ w _ hx353_1)).trans hx353_1
           replace hx353_2 := (HB.out.cell (bl_ w _ hx353_2)).trans hx353_2
           replace hx353_3 := (HB.out.cell (bl_ w _ hx353_3)).trans hx353_3
           replace hx353_4 := (HB.out.cell (bl_ w _ hx353_4)).trans hx353_4
           replace hx353_5 := (HB.out.cell (bl_ w _ hx353_5)).trans hx353_5
           replace hx353_6 := (HB.out.cell (bl_ w _ hx353_6)).trans hx353_6
           replace hx353_7 := (HB.out.cell (bl_ w _ hx353_7)).trans hx353_7
           replace hx353_8 := (HB.out.cell (bl_ w _ hx353_8)).trans hx353_8
           replace hx353_9 := (HB.out.cell (bl_ w _ hx353_9)).trans hx353_9
           replace hx353_10 := (HB.out.cell (bl_ w _ hx353_10)).trans hx353_10
           replace hx353_11 := (HB.out.cell (bl_ w _ hx353_11)).trans hx353_11
           replace p353 := eq_true p353
           replace q353 := eq_true q353
           go_upto_region 13 with (first | ((with_reducible refine gate_dst (N := 5) rfl ?_); refine box_event ?hg (N := 5) ?hd (cs := #[.string ⟨#[]⟩, .string ⟨#[]⟩, .int .i64 0, .int .i64 0, .int .i64 0, .int .i64 0, .int .i64 0, .int .i64 0, .int .i64 0, .int .i64 0, .int .i64 0, .int .i64 0]) (t := 70) ?hr ?_; (case hd | hg => rfl); (case hr => first | (go_simp; done) | (go_simp; rfl)); intro gb354 hg w25 hbox hb; have n0_ := ak_ (blk_below (g := gb351) (o := .cells #[.string a0_0, .int .i64 a0_1, .slice (some ad353) l0_2.length c0_2] 24 (0, 0)) (by (with_reducible repeat (first | apply zn | apply zd | apply za)); exact BK351.out) hb); have n1_ := ak_ (ps (by with_reducible repeat first | exact HB.out | apply pa | apply pd | apply pe | refine zs ?_ GE351.out) hb); have n2_ := ak_ (hbox); have n3_ := ak_ ((by rw [hg]; exact (below_size (by with_reducible repeat first | exact HB.out | apply pa | apply pd | apply pe | refine zs ?_ GE351.out)) : w.heap.size ≤ gb354)); have n4_ := ak_ ((by rw [hg]; exact (below_size (by with_reducible repeat first | exact HB.out | apply pa | apply pd | apply pe | refine zs ?_ GE351.out)) : w.heap.size ≤ gb354)); have n5_ := ak_ ((by rw [hg]; exact Nat.ne_of_lt (blk_lt (g := gb351) (by (with_reducible repeat (first | apply zn | apply zd | apply za)); exact BK351.out)) : gb351 ≠ gb354)); have n6_ := ak_ ((by rw [hg]; exact Nat.ne_of_gt (blk_lt (g := gb351) (by (with_reducible repeat (first | apply zn | apply zd | apply za)); exact BK351.out)) : gb354 ≠ gb351)); clear BK351 HB; have BK351 := n0_; have HB := n1_; have BK354 := n2_; have GW354 := n3_; have GE354 := n4_; have NB351_354 := n5_; have NB354_351 := n6_; clear n0_ n1_ n2_ n3_ n4_ n5_ n6_ hb hbox hg; have hnb26 := NB354_351.out; have hnc26 := NB351_354.out; have hcz27_0 : w25.cell? ⟨gb354, 0, none⟩ = some (.string ⟨#[]⟩) := (zc BK354.out 0).trans rfl; have hcz27_1 : w25.cell? ⟨gb354, 1, none⟩ = some (.string ⟨#[]⟩) := (zc BK354.out 1).trans rfl; have hcz27_2 : w25.cell? ⟨gb354, 2, none⟩ = some (.int .i64 0) := (zc BK354.out 2).trans rfl; have hcz27_3 : w25.cell? ⟨gb354, 3, none⟩ = some (.int .i64 0) := (zc BK354.out 3).trans rfl; have hcz27_4 : w25.cell? ⟨gb354, 4, none⟩ = some (.int .i64 0) := (zc BK354.out 4).trans rfl; have hcz27_5 : w25.cell? ⟨gb354, 5, none⟩ = some (.int .i64 0) := (zc BK354.out 5).trans rfl; have hcz27_6 : w25.cell? ⟨gb354, 6, none⟩ = some (.int .i64 0) := (zc BK354.out 6).trans rfl; have hcz27_7 : w25.cell? ⟨gb354, 7, none⟩ = some (.int .i64 0) := (zc BK354.out 7).trans rfl; have hcz27_8 : w25.cell? ⟨gb354, 8, none⟩ = some (.int .i64 0) := (zc BK354.out 8).trans rfl; have hcz27_9 : w25.cell? ⟨gb354, 9, none⟩ = some (.int .i64 0) := (zc BK354.out 9).trans rfl; have hcz27_10 : w25.cell? ⟨gb354, 10, none⟩ = some (.int .i64 0) := (zc BK354.out 10).trans rfl; have hcz27_11 : w25.cell? ⟨gb354, 11, none⟩ = some (.int .i64 0) := (zc BK354.out 11).trans rfl; have hfz27_0 := zf BK354.out 0; have hfz27_1 := zf BK354.out 1; have hfz27_2 := zf BK354.out 2; have hfz27_3 := zf BK354.out 3; have hfz27_4 := zf BK354.out 4; have hfz27_5 := zf BK354.out 5; have hfz27_6 := zf BK354.out 6; have hfz27_7 := zf BK354.out 7; have hfz27_8 := zf BK354.out 8; have hfz27_9 := zf BK354.out 9; have hfz27_10 := zf BK354.out 10; have hfz27_11 := zf BK354.out 11))
           repeat (go_quiet (first | ((with_reducible refine gate_dst (N := 5) rfl ?_); refine box_event ?hg (N := 5) ?hd (cs := #[.string ⟨#[]⟩, .string ⟨#[]⟩, .int .i64 0, .int .i64 0, .int .i64 0, .int .i64 0, .int .i64 0, .int .i64 0, .int .i64 0, .int .i64 0, .int .i64 0, .int .i64 0]) (t := 70) ?hr ?_; (case hd | hg => rfl); (case hr => first | (go_simp; done) | (go_simp; rfl)); intro gb354 hg w25 hbox hb; have n0_ := ak_ (blk_below (g := gb351) (o := .cells #[.string a0_0, .int .i64 a0_1, .slice (some ad353) l0_2.length c0_2] 24 (0, 0)) (by (with_reducible repeat (first | apply zn | apply zd | apply za)); exact BK351.out) hb); have n1_ := ak_ (ps (by with_reducible repeat first | exact HB.out | apply pa | apply pd | apply pe | refine zs ?_ GE351.out) hb); have n2_ := ak_ (hbox); have n3_ := ak_ ((by rw [hg]; exact (below_size (by with_reducible repeat first | exact HB.out | apply pa | apply pd | apply pe | refine zs ?_ GE351.out)) : w.heap.size ≤ gb354)); have n4_ := ak_ ((by rw [hg]; exact (below_size (by with_reducible repeat first | exact HB.out | apply pa | apply pd | apply pe | refine zs ?_ GE351.out)) : w.heap.size ≤ gb354)); have n5_ := ak_ ((by rw [hg]; exact Nat.ne_of_lt (blk_lt (g := gb351) (by (with_reducible repeat (first | apply zn | apply zd | apply za)); exact BK351.out)) : gb351 ≠ gb354)); have n6_ := ak_ ((by rw [hg]; exact Nat.ne_of_gt (blk_lt (g := gb351) (by (with_reducible repeat (first | apply zn | apply zd | apply za)); exact BK351.out)) : gb354 ≠ gb351)); clear BK351 HB; have BK351 := n0_; have HB := n1_; have BK354 := n2_; have GW354 := n3_; have GE354 := n4_; have NB351_354 := n5_; have NB354_351 := n6_; clear n0_ n1_ n2_ n3_ n4_ n5_ n6_ hb hbox hg; have hnb26 := NB354_351.out; have hnc26 := NB351_354.out; have hcz27_0 : w25.cell? ⟨gb354, 0, none⟩ = some (.string ⟨#[]⟩) := (zc BK354.out 0).trans rfl; have hcz27_1 : w25.cell? ⟨gb354, 1, none⟩ = some (.string ⟨#[]⟩) := (zc BK354.out 1).trans rfl; have hcz27_2 : w25.cell? ⟨gb354, 2, none⟩ = some (.int .i64 0) := (zc BK354.out 2).trans rfl; have hcz27_3 : w25.cell? ⟨gb354, 3, none⟩ = some (.int .i64 0) := (zc BK354.out 3).trans rfl; have hcz27_4 : w25.cell? ⟨gb354, 4, none⟩ = some (.int .i64 0) := (zc BK354.out 4).trans rfl; have hcz27_5 : w25.cell? ⟨gb354, 5, none⟩ = some (.int .i64 0) := (zc BK354.out 5).trans rfl; have hcz27_6 : w25.cell? ⟨gb354, 6, none⟩ = some (.int .i64 0) := (zc BK354.out 6).trans rfl; have hcz27_7 : w25.cell? ⟨gb354, 7, none⟩ = some (.int .i64 0) := (zc BK354.out 7).trans rfl; have hcz27_8 : w25.cell? ⟨gb354, 8, none⟩ = some (.int .i64 0) := (zc BK354.out 8).trans rfl; have hcz27_9 : w25.cell? ⟨gb354, 9, none⟩ = some (.int .i64 0) := (zc BK354.out 9).trans rfl; have hcz27_10 : w25.cell? ⟨gb354, 10, none⟩ = some (.int .i64 0) := (zc BK354.out 10).trans rfl; have hcz27_11 : w25.cell? ⟨gb354, 11, none⟩ = some (.int .i64 0) := (zc BK354.out 11).trans rfl; have hfz27_0 := zf BK354.out 0; have hfz27_1 := zf BK354.out 1; have hfz27_2 := zf BK354.out 2; have hfz27_3 := zf BK354.out 3; have hfz27_4 := zf BK354.out 4; have hfz27_5 := zf BK354.out 5; have hfz27_6 := zf BK354.out 6; have hfz27_7 := zf BK354.out 7; have hfz27_8 := zf BK354.out 8; have hfz27_9 := zf BK354.out 9; have hfz27_10 := zf BK354.out 10; have hfz27_11 := zf BK354.out 11)); go_upto_region 13 with (first | ((with_reducible refine gate_dst (N := 5) rfl ?_); refine box_event ?hg (N := 5) ?hd (cs := #[.string ⟨#[]⟩, .string ⟨#[]⟩, .int .i64 0, .int .i64 0, .int .i64 0, .int .i64 0, .int .i64 0, .int .i64 0, .int .i64 0, .int .i64 0, .int .i64 0, .int .i64 0]) (t := 70) ?hr ?_; (case hd | hg => rfl); (case hr => first | (go_simp; done) | (go_simp; rfl)); intro gb354 hg w25 hbox hb; have n0_ := ak_ (blk_below (g := gb351) (o := .cells #[.string a0_0, .int .i64 a0_1, .slice (some ad353) l0_2.length c0_2] 24 (0, 0)) (by (with_reducible repeat (first | apply zn | apply zd | apply za)); exact BK351.out) hb); have n1_ := ak_ (ps (by with_reducible repeat first | exact HB.out | apply pa | apply pd | apply pe | refine zs ?_ GE351.out) hb); have n2_ := ak_ (hbox); have n3_ := ak_ ((by rw [hg]; exact (below_size (by with_reducible repeat first | exact HB.out | apply pa | apply pd | apply pe | refine zs ?_ GE351.out)) : w.heap.size ≤ gb354)); have n4_ := ak_ ((by rw [hg]; exact (below_size (by with_reducible repeat first | exact HB.out | apply pa | apply pd | apply pe | refine zs ?_ GE351.out)) : w.heap.size ≤ gb354)); have n5_ := ak_ ((by rw [hg]; exact Nat.ne_of_lt (blk_lt (g := gb351) (by (with_reducible repeat (first | apply zn | apply zd | apply za)); exact BK351.out)) : gb351 ≠ gb354)); have n6_ := ak_ ((by rw [hg]; exact Nat.ne_of_gt (blk_lt (g := gb351) (by (with_reducible repeat (first | apply zn | apply zd | apply za)); exact BK351.out)) : gb354 ≠ gb351)); clear BK351 HB; have BK351 := n0_; have HB := n1_; have BK354 := n2_; have GW354 := n3_; have GE354 := n4_; have NB351_354 := n5_; have NB354_351 := n6_; clear n0_ n1_ n2_ n3_ n4_ n5_ n6_ hb hbox hg; have hnb26 := NB354_351.out; have hnc26 := NB351_354.out; have hcz27_0 : w25.cell? ⟨gb354, 0, none⟩ = some (.string ⟨#[]⟩) := (zc BK354.out 0).trans rfl; have hcz27_1 : w25.cell? ⟨gb354, 1, none⟩ = some (.string ⟨#[]⟩) := (zc BK354.out 1).trans rfl; have hcz27_2 : w25.cell? ⟨gb354, 2, none⟩ = some (.int .i64 0) := (zc BK354.out 2).trans rfl; have hcz27_3 : w25.cell? ⟨gb354, 3, none⟩ = some (.int .i64 0) := (zc BK354.out 3).trans rfl; have hcz27_4 : w25.cell? ⟨gb354, 4, none⟩ = some (.int .i64 0) := (zc BK354.out 4).trans rfl; have hcz27_5 : w25.cell? ⟨gb354, 5, none⟩ = some (.int .i64 0) := (zc BK354.out 5).trans rfl; have hcz27_6 : w25.cell? ⟨gb354, 6, none⟩ = some (.int .i64 0) := (zc BK354.out 6).trans rfl; have hcz27_7 : w25.cell? ⟨gb354, 7, none⟩ = some (.int .i64 0) := (zc BK354.out 7).trans rfl; have hcz27_8 : w25.cell? ⟨gb354, 8, none⟩ = some (.int .i64 0) := (zc BK354.out 8).trans rfl; have hcz27_9 : w25.cell? ⟨gb354, 9, none⟩ = some (.int .i64 0) := (zc BK354.out 9).trans rfl; have hcz27_10 : w25.cell? ⟨gb354, 10, none⟩ = some (.int .i64 0) := (zc BK354.out 10).trans rfl; have hcz27_11 : w25.cell? ⟨gb354, 11, none⟩ = some (.int .i64 0) := (zc BK354.out 11).trans rfl; have hfz27_0 := zf BK354.out 0; have hfz27_1 := zf BK354.out 1; have hfz27_2 := zf BK354.out 2; have hfz27_3 := zf BK354.out 3; have hfz27_4 := zf BK354.out 4; have hfz27_5 := zf BK354.out 5; have hfz27_6 := zf BK354.out 6; have hfz27_7 := zf BK354.out 7; have hfz27_8 := zf BK354.out 8; have hfz27_9 := zf BK354.out 9; have hfz27_10 := zf BK354.out 10; have hfz27_11 := zf BK354.out 11)))
           (try simp only [Act.put, sa_, sz_, ss_])
           go_cut [48] (fun v48 wc => ∃ (kq : Nat) (x48_22 : Bool), v48 = .bool x48_22 ∧ Aside0 (uK.j2 kq x4_2 x48_22 a0_0 a0_1 l0_2 ((rd_T70 l0_2 x4_2).f0) ((rd_T70 l0_2 x4_2).f1) ((rd_T70 l0_2 x4_2).f2) ((rd_T70 l0_2 x4_2).f3.f0) ((rd_T70 l0_2 x4_2).f3.f1) ((rd_T70 l0_2 x4_2).f3.f2) ((rd_T70 l0_2 x4_2).f3.f3) ((rd_T70 l0_2 x4_2).f4.f0) ((rd_T70 l0_2 x4_2).f4.f1) ((rd_T70 l0_2 x4_2).f4.f2) ((rd_T70 l0_2 x4_2).f4.f3) ((rd_T70 l0_2 x4_2).f5) = some (r1, r2)) ∧ Aside0 (kq ≤ k2) ∧ Aside0 (wc.heap[gb351]? = some (.cells #[.string a0_0, .int .i64 a0_1, (.slice (some ad353) l0_2.length c0_2)] 24 (0, 0))) ∧ Aside0 (wc.heap[gb354]? = some (.cells #[.string ((rd_T70 l0_2 x4_2).f0), .string ((rd_T70 l0_2 x4_2).f1), .int .i64 ((rd_T70 l0_2 x4_2).f2), .int .i64 ((rd_T70 l0_2 x4_2).f3.f0), .int .i64 ((rd_T70 l0_2 x4_2).f3.f1), .int .i64 ((rd_T70 l0_2 x4_2).f3.f2), .int .i64 ((rd_T70 l0_2 x4_2).f3.f3), .int .i64 ((rd_T70 l0_2 x4_2).f4.f0), .int .i64 ((rd_T70 l0_2 x4_2).f4.f1), .int .i64 ((rd_T70 l0_2 x4_2).f4.f2), .int .i64 ((rd_T70 l0_2 x4_2).f4.f3), .int .i64 ((rd_T70 l0_2 x4_2).f5)] 70 (0, 0))) ∧ Aside0 (Below w.heap.size w wc))
           case first =>
            have H := HC23.out
            clear HC23
            replace H := ob_ H
            obtain ⟨t355, A280, H⟩ := H
            replace H : (if t355 = true then ((uR02_Good.f k2 ((rd_T70 l0_2 x4_2).f1)).bind fun t356 => (uK.j2 k2 x4_2 (!t356) a0_0 a0_1 l0_2 ((rd_T70 l0_2 x4_2).f0) ((rd_T70 l0_2 x4_2).f1) ((rd_T70 l0_2 x4_2).f2) ((rd_T70 l0_2 x4_2).f3.f0) ((rd_T70 l0_2 x4_2).f3.f1) ((rd_T70 l0_2 x4_2).f3.f2) ((rd_T70 l0_2 x4_2).f3.f3) ((rd_T70 l0_2 x4_2).f4.f0) ((rd_T70 l0_2 x4_2).f4.f1) ((rd_T70 l0_2 x4_2).f4.f2) ((rd_T70 l0_2 x4_2).f4.f3) ((rd_T70 l0_2 x4_2).f5))) else (uK.j2 k2 x4_2 true a0_0 a0_1 l0_2 ((rd_T70 l0_2 x4_2).f0) ((rd_T70 l0_2 x4_2).f1) ((rd_T70 l0_2 x4_2).f2) ((rd_T70 l0_2 x4_2).f3.f0) ((rd_T70 l0_2 x4_2).f3.f1) ((rd_T70 l0_2 x4_2).f3.f2) ((rd_T70 l0_2 x4_2).f3.f3) ((rd_T70 l0_2 x4_2).f4.f0) ((rd_T70 l0_2 x4_2).f4.f1) ((rd_T70 l0_2 x4_2).f4.f2) ((rd_T70 l0_2 x4_2).f4.f3) ((rd_T70 l0_2 x4_2).f5))) = some (r1, r2) := H
            have A28 := ak_ A280
            clear A280
            by_cases c29 : t355 = true
            · subst c29
              have H1 : ((uR02_Good.f k2 ((rd_T70 l0_2 x4_2).f1)).bind fun t356 => (uK.j2 k2 x4_2 (!t356) a0_0 a0_1 l0_2 ((rd_T70 l0_2 x4_2).f0) ((rd_T70 l0_2 x4_2).f1) ((rd_T70 l0_2 x4_2).f2) ((rd_T70 l0_2 x4_2).f3.f0) ((rd_T70 l0_2 x4_2).f3.f1) ((rd_T70 l0_2 x4_2).f3.f2) ((rd_T70 l0_2 x4_2).f3.f3) ((rd_T70 l0_2 x4_2).f4.f0) ((rd_T70 l0_2 x4_2).f4.f1) ((rd_T70 l0_2 x4_2).f4.f2) ((rd_T70 l0_2 x4_2).f4.f3) ((rd_T70 l0_2 x4_2).f5))) = some (r1, r2) := by rw [if_pos rfl] at H; exact H
              clear H
              have H := H1
              clear H1
              replace H := ob_ H
              obtain ⟨t356, A300, H⟩ := H
              replace H : (uK.j2 k2 x4_2 (!t356) a0_0 a0_1 l0_2 ((rd_T70 l0_2 x4_2).f0) ((rd_T70 l0_2 x4_2).f1) ((rd_T70 l0_2 x4_2).f2) ((rd_T70 l0_2 x4_2).f3.f0) ((rd_T70 l0_2 x4_2).f3.f1) ((rd_T70 l0_2 x4_2).f3.f2) ((rd_T70 l0_2 x4_2).f3.f3) ((rd_T70 l0_2 x4_2).f4.f0) ((rd_T70 l0_2 x4_2).f4.f1) ((rd_T70 l0_2 x4_2).f4.f2) ((rd_T70 l0_2 x4_2).f4.f3) ((rd_T70 l0_2 x4_2).f5)) = some (r1, r2) := H
              have A30 := ak_ A300
              clear A300
              have H' := ak_ H
              clear H
              have hnb31 := NB354_351.out
              have hnc31 := NB351_354.out
              have hcz32_0 : w25.cell? ⟨gb354, 0, none⟩ = some (.string ⟨#[]⟩) := (zc BK354.out 0).trans rfl
              have hcz32_1 : w25.cell? ⟨gb354, 1, none⟩ = some (.string ⟨#[]⟩) := (zc BK354.out 1).trans rfl
              have hcz32_2 : w25.cell? ⟨gb354, 2, none⟩ = some (.int .i64 0) := (zc BK354.out 2).trans rfl
              have hcz32_3 : w25.cell? ⟨gb354, 3, none⟩ = some (.int .i64 0) := (zc BK354.out 3).trans rfl
              have hcz32_4 : w25.cell? ⟨gb354, 4, none⟩ = some (.int .i64 0) := (zc BK354.out 4).trans rfl
              have hcz32_5 : w25.cell? ⟨gb354, 5, none⟩ = some (.int .i64 0) := (zc BK354.out 5).trans rfl
              have hcz32_6 : w25.cell? ⟨gb354, 6, none⟩ = some (.int .i64 0) := (zc BK354.out 6).trans rfl
              have hcz32_7 : w25.cell? ⟨gb354, 7, none⟩ = some (.int .i64 0) := (zc BK354.out 7).trans rfl
              have hcz32_8 : w25.cell? ⟨gb354, 8, none⟩ = some (.int .i64 0) := (zc BK354.out 8).trans rfl
              have hcz32_9 : w25.cell? ⟨gb354, 9, none⟩ = some (.int .i64 0) := (zc BK354.out 9).trans rfl
              have hcz32_10 : w25.cell? ⟨gb354, 10, none⟩ = some (.int .i64 0) := (zc BK354.out 10).trans rfl
              have hcz32_11 : w25.cell? ⟨gb354, 11, none⟩ = some (.int .i64 0) := (zc BK354.out 11).trans rfl
              have hfz32_0 := zf BK354.out 0
              have hfz32_1 := zf BK354.out 1
              have hfz32_2 := zf BK354.out 2
              have hfz32_3 := zf BK354.out 3
              have hfz32_4 := zf BK354.out 4
              have hfz32_5 := zf BK354.out 5
              have hfz32_6 := zf BK354.out 6
              have hfz32_7 := zf BK354.out 7
              have hfz32_8 := zf BK354.out 8
              have hfz32_9 := zf BK354.out 9
              have hfz32_10 := zf BK354.out 10
              have hfz32_11 := zf BK354.out 11
              go_wp2_with (first | (go_at_call 31; (with_reducible refine (uR02_Good.calls k2 ((rd_T70 l0_2 x4_2).f0) true _ A28.out).mono ?_); rintro e w' ⟨rfl, ⟨nd, rfl⟩⟩; (try first | exact ⟨rfl, _, World.drewN_drewN _ _ _⟩ | exact ⟨rfl, _, Eq.trans (World.drewN_drewN _ _ _) (congrArg (World.drewN _) (Nat.add_assoc _ _ _))⟩)) | (go_at_call 31; (with_reducible refine (uR02_Good.calls k2 ((rd_T70 l0_2 x4_2).f1) t356 _ A30.out).mono ?_); rintro e w' ⟨rfl, ⟨nd, rfl⟩⟩; (try first | exact ⟨rfl, _, World.drewN_drewN _ _ _⟩ | exact ⟨rfl, _, Eq.trans (World.drewN_drewN _ _ _) (congrArg (World.drewN _) (Nat.add_assoc _ _ _))⟩)))
              repeat (go_quiet (first | (go_at_call 31; (with_reducible refine (uR02_Good.calls k2 ((rd_T70 l0_2 x4_2).f0) true _ A28.out).mono ?_); rintro e w' ⟨rfl, ⟨nd, rfl⟩⟩; (try first | exact ⟨rfl, _, World.drewN_drewN _ _ _⟩ | exact ⟨rfl, _, Eq.trans (World.drewN_drewN _ _ _) (congrArg (World.drewN _) (Nat.add_assoc _ _ _))⟩)) | (go_at_call 31; (with_reducible refine (uR02_Good.calls k2 ((rd_T70 l0_2 x4_2).f1) t356 _ A30.out).mono ?_); rintro e w' ⟨rfl, ⟨nd, rfl⟩⟩; (try first | exact ⟨rfl, _, World.drewN_drewN _ _ _⟩ | exact ⟨rfl, _, Eq.trans (World.drewN_drewN _ _ _) (congrArg (World.drewN _) (Nat.add_assoc _ _ _))⟩))); try go_wp2_with (first | (go_at_call 31; (with_reducible refine (uR02_Good.calls k2 ((rd_T70 l0_2 x4_2).f0) true _ A28.out).mono ?_); rintro e w' ⟨rfl, ⟨nd, rfl⟩⟩; (try first | exact ⟨rfl, _, World.drewN_drewN _ _ _⟩ | exact ⟨rfl, _, Eq.trans (World.drewN_drewN _ _ _) (congrArg (World.drewN _) (Nat.add_assoc _ _ _))⟩)) | (go_at_call 31; (with_reducible refine (uR02_Good.calls k2 ((rd_T70 l0_2 x4_2).f1) t356 _ A30.out).mono ?_); rintro e w' ⟨rfl, ⟨nd, rfl⟩⟩; (try first | exact ⟨rfl, _, World.drewN_drewN _ _ _⟩ | exact ⟨rfl, _, Eq.trans (World.drewN_drewN _ _ _) (congrArg (World.drewN _) (Nat.add_assoc _ _ _))⟩))))
              go_meet
              case rel => exact ⟨_, (!t356), (by first | rfl | simp [*]), H', ⟨by have := HJ6.out; have := HK2.out; first | omega | exact Nat.le_refl _⟩, ⟨by (repeat (first | (with_reducible first | apply zn | apply zd | apply za) | refine zr ?_ NB351_354.out _)); (with_reducible repeat (first | apply zn | apply zd | apply za)); exact BK351.out⟩, ⟨by (with_reducible repeat (first | apply zn | apply zd | apply za)); refine zp (cs := #[.string ((rd_T70 l0_2 x4_2).f0), .string ((rd_T70 l0_2 x4_2).f1), .int .i64 ((rd_T70 l0_2 x4_2).f2), .int .i64 ((rd_T70 l0_2 x4_2).f3.f0), .int .i64 ((rd_T70 l0_2 x4_2).f3.f1), .int .i64 ((rd_T70 l0_2 x4_2).f3.f2), .int .i64 ((rd_T70 l0_2 x4_2).f3.f3), .int .i64 ((rd_T70 l0_2 x4_2).f4.f0), .int .i64 ((rd_T70 l0_2 x4_2).f4.f1), .int .i64 ((rd_T70 l0_2 x4_2).f4.f2), .int .i64 ((rd_T70 l0_2 x4_2).f4.f3), .int .i64 0]) ?_ 11 _ rfl; (with_reducible repeat (first | apply zn | apply zd | apply za)); refine zp (cs := #[.string ((rd_T70 l0_2 x4_2).f0), .string ((rd_T70 l0_2 x4_2).f1), .int .i64 ((rd_T70 l0_2 x4_2).f2), .int .i64 ((rd_T70 l0_2 x4_2).f3.f0), .int .i64 ((rd_T70 l0_2 x4_2).f3.f1), .int .i64 ((rd_T70 l0_2 x4_2).f3.f2), .int .i64 ((rd_T70 l0_2 x4_2).f3.f3), .int .i64 ((rd_T70 l0_2 x4_2).f4.f0), .int .i64 ((rd_T70 l0_2 x4_2).f4.f1), .int .i64 ((rd_T70 l0_2 x4_2).f4.f2), .int .i64 0, .int .i64 0]) ?_ 10 _ rfl; (with_reducible repeat (first | apply zn | apply zd | apply za)); refine zp (cs := #[.string ((rd_T70 l0_2 x4_2).f0), .string ((rd_T70 l0_2 x4_2).f1), .int .i64 ((rd_T70 l0_2 x4_2).f2), .int .i64 ((rd_T70 l0_2 x4_2).f3.f0), .int .i64 ((rd_T70 l0_2 x4_2).f3.f1), .int .i64 ((rd_T70 l0_2 x4_2).f3.f2), .int .i64 ((rd_T70 l0_2 x4_2).f3.f3), .int .i64 ((rd_T70 l0_2 x4_2).f4.f0), .int .i64 ((rd_T70 l0_2 x4_2).f4.f1), .int .i64 0, .int .i64 0, .int .i64 0]) ?_ 9 _ rfl; (with_reducible repeat (first | apply zn | apply zd | apply za)); refine zp (cs := #[.string ((rd_T70 l0_2 x4_2).f0), .string ((rd_T70 l0_2 x4_2).f1), .int .i64 ((rd_T70 l0_2 x4_2).f2), .int .i64 ((rd_T70 l0_2 x4_2).f3.f0), .int .i64 ((rd_T70 l0_2 x4_2).f3.f1), .int .i64 ((rd_T70 l0_2 x4_2).f3.f2), .int .i64 ((rd_T70 l0_2 x4_2).f3.f3), .int .i64 ((rd_T70 l0_2 x4_2).f4.f0), .int .i64 0, .int .i64 0, .int .i64 0, .int .i64 0]) ?_ 8 _ rfl; (with_reducible repeat (first | apply zn | apply zd | apply za)); refine zp (cs := #[.string ((rd_T70 l0_2 x4_2).f0), .string ((rd_T70 l0_2 x4_2).f1), .int .i64 ((rd_T70 l0_2 x4_2).f2), .int .i64 ((rd_T70 l0_2 x4_2).f3.f0), .int .i64 ((rd_T70 l0_2 x4_2).f3.f1), .int .i64 ((rd_T70 l0_2 x4_2).f3.f2), .int .i64 ((rd_T70 l0_2 x4_2).f3.f3), .int .i64 0, .int .i64 0, .int .i64 0, .int .i64 0, .int .i64 0]) ?_ 7 _ rfl; (with_reducible repeat (first | apply zn | apply zd | apply za)); refine zp (cs := #[.string ((rd_T70 l0_2 x4_2).f0), .string ((rd_T70 l0_2 x4_2).f1), .int .i64 ((rd_T70 l0_2 x4_2).f2), .int .i64 ((rd_T70 l0_2 x4_2).f3.f0), .int .i64 ((rd_T70 l0_2 x4_2).f3.f1), .int .i64 ((rd_T70 l0_2 x4_2).f3.f2), .int .i64 0, .int .i64 0, .int .i64 0, .int .i64 0, .int .i64 0, .int .i64 0]) ?_ 6 _ rfl; (with_reducible repeat (first | apply zn | apply zd | apply za)); refine zp (cs := #[.string ((rd_T70 l0_2 x4_2).f0), .string ((rd_T70 l0_2 x4_2).f1), .int .i64 ((rd_T70 l0_2 x4_2).f2), .int .i64 ((rd_T70 l0_2 x4_2).f3.f0), .int .i64 ((rd_T70 l0_2 x4_2).f3.f1), .int .i64 0, .int .i64 0, .int .i64 0, .int .i64 0, .int .i64 0, .int .i64 0, .int .i64 0]) ?_ 5 _ rfl; (with_reducible repeat (first | apply zn | apply zd | apply za)); refine zp (cs := #[.string ((rd_T70 l0_2 x4_2).f0), .string ((rd_T70 l0_2 x4_2).f1), .int .i64 ((rd_T70 l0_2 x4_2).f2), .int .i64 ((rd_T70 l0_2 x4_2).f3.f0), .int .i64 0, .int .i64 0, .int .i64 0, .int .i64 0, .int .i64 0, .int .i64 0, .int .i64 0, .int .i64 0]) ?_ 4 _ rfl; (with_reducible repeat (first | apply zn | apply zd | apply za)); refine zp (cs := #[.string ((rd_T70 l0_2 x4_2).f0), .string ((rd_T70 l0_2 x4_2).f1), .int .i64 ((rd_T70 l0_2 x4_2).f2), .int .i64 0, .int .i64 0, .int .i64 0, .int .i64 0, .int .i64 0, .int .i64 0, .int .i64 0, .int .i64 0, .int .i64 0]) ?_ 3 _ rfl; (with_reducible repeat (first | apply zn | apply zd | apply za)); refine zp (cs := #[.string ((rd_T70 l0_2 x4_2).f0), .string ((rd_T70 l0_2 x4_2).f1), .int .i64 0, .int .i64 0, .int .i64 0, .int .i64 0, .int .i64 0, .int .i64 0, .int .i64 0, .int .i64 0, .int .i64 0, .int .i64 0]) ?_ 2 _ rfl; (with_reducible repeat (first | apply zn | apply zd | apply za)); refine zp (cs := #[.string ((rd_T70 l0_2 x4_2).f0), .string ⟨#[]⟩, .int .i64 0, .int .i64 0, .int .i64 0, .int .i64 0, .int .i64 0, .int .i64 0, .int .i64 0, .int .i64 0, .int .i64 0, .int .i64 0]) ?_ 1 _ rfl; (with_reducible repeat (first | apply zn | apply zd | apply za)); refine zp (cs := #[.string ⟨#[]⟩, .string ⟨#[]⟩, .int .i64 0, .int .i64 0, .int .i64 0, .int .i64 0, .int .i64 0, .int .i64 0, .int .i64 0, .int .i64 0, .int .i64 0, .int .i64 0]) ?_ 0 _ rfl; (with_reducible repeat (first | apply zn | apply zd | apply za)); exact BK354.out⟩, ⟨by repeat (first | (with_reducible first | exact HB.out | apply pa | apply pd | apply pe | refine zs ?_ GE351.out | refine zs ?_ GE354.out) | exact HB.out)⟩⟩
            replace c29 := Bool.eq_false_iff.mpr c29
            subst c29
            have H1 : (uK.j2 k2 x4_2 true a0_0 a0_1 l0_2 ((rd_T70 l0_2 x4_2).f0) ((rd_T70 l0_2 x4_2).f1) ((rd_T70 l0_2 x4_2).f2) ((rd_T70 l0_2 x4_2).f3.f0) ((rd_T70 l0_2 x4_2).f3.f1) ((rd_T70 l0_2 x4_2).f3.f2) ((rd_T70 l0_2 x4_2).f3.f3) ((rd_T70 l0_2 x4_2).f4.f0) ((rd_T70 l0_2 x4_2).f4.f1) ((rd_T70 l0_2 x4_2).f4.f2) ((rd_T70 l0_2 x4_2).f4.f3) ((rd_T70 l0_2 x4_2).f5)) = some (r1, r2) := by rw [if_neg (show ¬ (false = true) by decide)] at H; exact H
            clear H
            have H := H1
            clear H1
            have H' := ak_ H
            clear H
            have hnb33 := NB354_351.out
            have hnc33 := NB351_354.out
            have hcz34_0 : w25.cell? ⟨gb354, 0, none⟩ = some (.string ⟨#[]⟩) := (zc BK354.out 0).trans rfl
            have hcz34_1 : w25.cell? ⟨gb354, 1, none⟩ = some (.string ⟨#[]⟩) := (zc BK354.out 1).trans rfl
            have hcz34_2 : w25.cell? ⟨gb354, 2, none⟩ = some (.int .i64 0) := (zc BK354.out 2).trans rfl
            have hcz34_3 : w25.cell? ⟨gb354, 3, none⟩ = some (.int .i64 0) := (zc BK354.out 3).trans rfl
            have hcz34_4 : w25.cell? ⟨gb354, 4, none⟩ = some (.int .i64 0) := (zc BK354.out 4).trans rfl
            have hcz34_5 : w25.cell? ⟨gb354, 5, none⟩ = some (.int .i64 0) := (zc BK354.out 5).trans rfl
            have hcz34_6 : w25.cell? ⟨gb354, 6, none⟩ = some (.int .i64 0) := (zc BK354.out 6).trans rfl
            have hcz34_7 : w25.cell? ⟨gb354, 7, none⟩ = some (.int .i64 0) := (zc BK354.out 7).trans rfl
            have hcz34_8 : w25.cell? ⟨gb354, 8, none⟩ = some (.int .i64 0) := (zc BK354.out 8).trans rfl
            have hcz34_9 : w25.cell? ⟨gb354, 9, none⟩ = some (.int .i64 0) := (zc BK354.out 9).trans rfl
            have hcz34_10 : w25.cell? ⟨gb354, 10, none⟩ = some (.int .i64 0) := (zc BK354.out 10).trans rfl
            have hcz34_11 : w25.cell? ⟨gb354, 11, none⟩ = some (.int .i64 0) := (zc BK354.out 11).trans rfl
            have hfz34_0 := zf BK354.out 0
            have hfz34_1 := zf BK354.out 1
            have hfz34_2 := zf BK354.out 2
            have hfz34_3 := zf BK354.out 3
            have hfz34_4 := zf BK354.out 4
            have hfz34_5 := zf BK354.out 5
            have hfz34_6 := zf BK354.out 6
            have hfz34_7 := zf BK354.out 7
            have hfz34_8 := zf BK354.out 8
            have hfz34_9 := zf BK354.out 9
            have hfz34_10 := zf BK354.out 10
            have hfz34_11 := zf BK354.out 11
            go_wp2_with (first | (go_at_call 31; (with_reducible refine (uR02_Good.calls k2 ((rd_T70 l0_2 x4_2).f0) false _ A28.out).mono ?_); rintro e w' ⟨rfl, ⟨nd, rfl⟩⟩; (try first | exact ⟨rfl, _, World.drewN_drewN _ _ _⟩ | exact ⟨rfl, _, Eq.trans (World.drewN_drewN _ _ _) (congrArg (World.drewN _) (Nat.add_assoc _ _ _))⟩)))
            repeat (go_quiet (first | (go_at_call 31; (with_reducible refine (uR02_Good.calls k2 ((rd_T70 l0_2 x4_2).f0) false _ A28.out).mono ?_); rintro e w' ⟨rfl, ⟨nd, rfl⟩⟩; (try first | exact ⟨rfl, _, World.drewN_drewN _ _ _⟩ | exact ⟨rfl, _, Eq.trans (World.drewN_drewN _ _ _) (congrArg (World.drewN _) (Nat.add_assoc _ _ _))⟩))); try go_wp2_with (first | (go_at_call 31; (with_reducible refine (uR02_Good.calls k2 ((rd_T70 l0_2 x4_2).f0) false _ A28.out).mono ?_); rintro e w' ⟨rfl, ⟨nd, rfl⟩⟩; (try first | exact ⟨rfl, _, World.drewN_drewN _ _ _⟩ | exact ⟨rfl, _, Eq.trans (World.drewN_drewN _ _ _) (congrArg (World.drewN _) (Nat.add_assoc _ _ _))⟩))))
            go_meet
            case rel => exact ⟨_, (true), (by first | rfl | simp [*]), H', ⟨by have := HJ6.out; have := HK2.out; first | omega | exact Nat.le_refl _⟩, ⟨by (repeat (first | (with_reducible first | apply zn | apply zd | apply za) | refine zr ?_ NB351_354.out _)); (with_reducible repeat (first | apply zn | apply zd | apply za)); exact BK351.out⟩, ⟨by (with_reducible repeat (first | apply zn | apply zd | apply za)); refine zp (cs := #[.string ((rd_T70 l0_2 x4_2).f0), .string ((rd_T70 l0_2 x4_2).f1), .int .i64 ((rd_T70 l0_2 x4_2).f2), .int .i64 ((rd_T70 l0_2 x4_2).f3.f0), .int .i64 ((rd_T70 l0_2 x4_2).f3.f1), .int .i64 ((rd_T70 l0_2 x4_2).f3.f2), .int .i64 ((rd_T70 l0_2 x4_2).f3.f3), .int .i64 ((rd_T70 l0_2 x4_2).f4.f0), .int .i64 ((rd_T70 l0_2 x4_2).f4.f1), .int .i64 ((rd_T70 l0_2 x4_2).f4.f2), .int .i64 ((rd_T70 l0_2 x4_2).f4.f3), .int .i64 0]) ?_ 11 _ rfl; (with_reducible repeat (first | apply zn | apply zd | apply za)); refine zp (cs := #[.string ((rd_T70 l0_2 x4_2).f0), .string ((rd_T70 l0_2 x4_2).f1), .int .i64 ((rd_T70 l0_2 x4_2).f2), .int .i64 ((rd_T70 l0_2 x4_2).f3.f0), .int .i64 ((rd_T70 l0_2 x4_2).f3.f1), .int .i64 ((rd_T70 l0_2 x4_2).f3.f2), .int .i64 ((rd_T70 l0_2 x4_2).f3.f3), .int .i64 ((rd_T70 l0_2 x4_2).f4.f0), .int .i64 ((rd_T70 l0_2 x4_2).f4.f1), .int .i64 ((rd_T70 l0_2 x4_2).f4.f2), .int .i64 0, .int .i64 0]) ?_ 10 _ rfl; (with_reducible repeat (first | apply zn | apply zd | apply za)); refine zp (cs := #[.string ((rd_T70 l0_2 x4_2).f0), .string ((rd_T70 l0_2 x4_2).f1), .int .i64 ((rd_T70 l0_2 x4_2).f2), .int .i64 ((rd_T70 l0_2 x4_2).f3.f0), .int .i64 ((rd_T70 l0_2 x4_2).f3.f1), .int .i64 ((rd_T70 l0_2 x4_2).f3.f2), .int .i64 ((rd_T70 l0_2 x4_2).f3.f3), .int .i64 ((rd_T70 l0_2 x4_2).f4.f0), .int .i64 ((rd_T70 l0_2 x4_2).f4.f1), .int .i64 0, .int .i64 0, .int .i64 0]) ?_ 9 _ rfl; (with_reducible repeat (first | apply zn | apply zd | apply za)); refine zp (cs := #[.string ((rd_T70 l0_2 x4_2).f0), .string ((rd_T70 l0_2 x4_2).f1), .int .i64 ((rd_T70 l0_2 x4_2).f2), .int .i64 ((rd_T70 l0_2 x4_2).f3.f0), .int .i64 ((rd_T70 l0_2 x4_2).f3.f1), .int .i64 ((rd_T70 l0_2 x4_2).f3.f2), .int .i64 ((rd_T70 l0_2 x4_2).f3.f3), .int .i64 ((rd_T70 l0_2 x4_2).f4.f0), .int .i64 0, .int .i64 0, .int .i64 0, .int .i64 0]) ?_ 8 _ rfl; (with_reducible repeat (first | apply zn | apply zd | apply za)); refine zp (cs := #[.string ((rd_T70 l0_2 x4_2).f0), .string ((rd_T70 l0_2 x4_2).f1), .int .i64 ((rd_T70 l0_2 x4_2).f2), .int .i64 ((rd_T70 l0_2 x4_2).f3.f0), .int .i64 ((rd_T70 l0_2 x4_2).f3.f1), .int .i64 ((rd_T70 l0_2 x4_2).f3.f2), .int .i64 ((rd_T70 l0_2 x4_2).f3.f3), .int .i64 0, .int .i64 0, .int .i64 0, .int .i64 0, .int .i64 0]) ?_ 7 _ rfl; (with_reducible repeat (first | apply zn | apply zd | apply za)); refine zp (cs := #[.string ((rd_T70 l0_2 x4_2).f0), .string ((rd_T70 l0_2 x4_2).f1), .int .i64 ((rd_T70 l0_2 x4_2).f2), .int .i64 ((rd_T70 l0_2 x4_2).f3.f0), .int .i64 ((rd_T70 l0_2 x4_2).f3.f1), .int .i64 ((rd_T70 l0_2 x4_2).f3.f2), .int .i64 0, .int .i64 0, .int .i64 0, .int .i64 0, .int .i64 0, .int .i64 0]) ?_ 6 _ rfl; (with_reducible repeat (first | apply zn | apply zd | apply za)); refine zp (cs := #[.string ((rd_T70 l0_2 x4_2).f0), .string ((rd_T70 l0_2 x4_2).f1), .int .i64 ((rd_T70 l0_2 x4_2).f2), .int .i64 ((rd_T70 l0_2 x4_2).f3.f0), .int .i64 ((rd_T70 l0_2 x4_2).f3.f1), .int .i64 0, .int .i64 0, .int .i64 0, .int .i64 0, .int .i64 0, .int .i64 0, .int .i64 0]) ?_ 5 _ rfl; (with_reducible repeat (first | apply zn | apply zd | apply za)); refine zp (cs := #[.string ((rd_T70 l0_2 x4_2).f0), .string ((rd_T70 l0_2 x4_2).f1), .int .i64 ((rd_T70 l0_2 x4_2).f2), .int .i64 ((rd_T70 l0_2 x4_2).f3.f0), .int .i64 0, .int .i64 0, .int .i64 0, .int .i64 0, .int .i64 0, .int .i64 0, .int .i64 0, .int .i64 0]) ?_ 4 _ rfl; (with_reducible repeat (first | apply zn | apply zd | apply za)); refine zp (cs := #[.string ((rd_T70 l0_2 x4_2).f0), .string ((rd_T70 l0_2 x4_2).f1), .int .i64 ((rd_T70 l0_2 x4_2).f2), .int .i64 0, .int .i64 0, .int .i64 0, .int .i64 0, .int .i64 0, .int .i64 0, .int .i64 0, .int .i64 0, .int .i64 0]) ?_ 3 _ rfl; (with_reducible repeat (first | apply zn | apply zd | apply za)); refine zp (cs := #[.string ((rd_T70 l0_2 x4_2).f0), .string ((rd_T70 l0_2 x4_2).f1), .int .i64 0, .int .i64 0, .int .i64 0, .int .i64 0, .int .i64 0, .int .i64 0, .int .i64 0, .int .i64 0, .int .i64 0, .int .i64 0]) ?_ 2 _ rfl; (with_reducible repeat (first | apply zn | apply zd | apply za)); refine zp (cs := #[.string ((rd_T70 l0_2 x4_2).f0), .string ⟨#[]⟩, .int .i64 0, .int .i64 0, .int .i64 0, .int .i64 0, .int .i64 0, .int .i64 0, .int .i64 0, .int .i64 0, .int .i64 0, .int .i64 0]) ?_ 1 _ rfl; (with_reducible repeat (first | apply zn | apply zd | apply za)); refine zp (cs := #[.string ⟨#[]⟩, .string ⟨#[]⟩, .int .i64 0, .int .i64 0, .int .i64 0, .int .i64 0, .int .i64 0, .int .i64 0, .int .i64 0, .int .i64 0, .int .i64 0, .int .i64 0]) ?_ 0 _ rfl; (with_reducible repeat (first | apply zn | apply zd | apply za)); exact BK354.out⟩, ⟨by repeat (first | (with_reducible first | exact HB.out | apply pa | apply pd | apply pe | refine zs ?_ GE351.out | refine zs ?_ GE354.out) | exact HB.out)⟩⟩
           case rest =>
            clear HC23
            try clear c1
            try clear c2
            try clear p2
            try clear c3
            try clear p3
            try clear q3
            try clear hx3
            try clear c6
            try clear c8
            try clear c8b0
            try clear c9
            try clear c12
            try clear c15
            try clear c15b0
            try clear c15b1
            try clear c18
            try clear c18b0
            try clear c18b1
            try clear c21
            try clear c21b0
            try clear c22
            try clear c22b0
            try clear c26
            try clear c29
            try clear c31
            try clear c33
            try clear hcz10_0
            try clear hcz10_1
            try clear hcz10_2
            try clear hcz14_0
            try clear hcz14_1
            try clear hcz14_2
            try clear hcz17_0
            try clear hcz17_1
            try clear hcz17_2
            try clear hcz20_0
            try clear hcz20_1
            try clear hcz20_2
            try clear hcz24_0
            try clear hcz24_1
            try clear hcz24_2
            try clear hcz27_0
            try clear hcz27_1
            try clear hcz27_10
            try clear hcz27_11
            try clear hcz27_2
            try clear hcz27_3
            try clear hcz27_4
            try clear hcz27_5
            try clear hcz27_6
            try clear hcz27_7
            try clear hcz27_8
            try clear hcz27_9
            try clear hcz32_0
            try clear hcz32_1
            try clear hcz32_10
            try clear hcz32_11
            try clear hcz32_2
            try clear hcz32_3
            try clear hcz32_4
            try clear hcz32_5
            try clear hcz32_6
            try clear hcz32_7
            try clear hcz32_8
            try clear hcz32_9
            try clear hcz34_0
            try clear hcz34_1
            try clear hcz34_10
            try clear hcz34_11
            try clear hcz34_2
            try clear hcz34_3
            try clear hcz34_4
            try clear hcz34_5
            try clear hcz34_6
            try clear hcz34_7
            try clear hcz34_8
            try clear hcz34_9
            try clear hcz5_0
            try clear hcz5_1
            try clear hcz5_2
            try clear hcz9_0
            try clear hcz9_1
            try clear hcz9_2
            try clear hfz10_0
            try clear hfz10_1
            try clear hfz10_2
            try clear hfz14_0
            try clear hfz14_1
            try clear hfz14_2
            try clear hfz17_0
            try clear hfz17_1
            try clear hfz17_2
            try clear hfz20_0
            try clear hfz20_1
            try clear hfz20_2
            try clear hfz24_0
            try clear hfz24_1
            try clear hfz24_2
            try clear hfz27_0
            try clear hfz27_1
            try clear hfz27_10
            try clear hfz27_11
            try clear hfz27_2
            try clear hfz27_3
            try clear hfz27_4
            try clear hfz27_5
            try clear hfz27_6
            try clear hfz27_7
            try clear hfz27_8
            try clear hfz27_9
            try clear hfz32_0
            try clear hfz32_1
            try clear hfz32_10
            try clear hfz32_11
            try clear hfz32_2
            try clear hfz32_3
            try clear hfz32_4
            try clear hfz32_5
            try clear hfz32_6
            try clear hfz32_7
            try clear hfz32_8
            try clear hfz32_9
            try clear hfz34_0
            try clear hfz34_1
            try clear hfz34_10
            try clear hfz34_11
            try clear hfz34_2
            try clear hfz34_3
            try clear hfz34_4
            try clear hfz34_5
            try clear hfz34_6
            try clear hfz34_7
            try clear hfz34_8
            try clear hfz34_9
            try clear hfz5_0
            try clear hfz5_1
            try clear hfz5_2
            try clear hfz9_0
            try clear hfz9_1
            try clear hfz9_2
            try clear hx353_0
            try clear hx353_1
            try clear hx353_10
            try clear hx353_11
            try clear hx353_2
            try clear hx353_3
            try clear hx353_4
            try clear hx353_5
            try clear hx353_6
            try clear hx353_7
            try clear hx353_8
            try clear hx353_9
            try clear p2
            try clear p353
            try clear q353
            obtain ⟨kq, x48_22, rfl, HA, HJ22, BK351, BK354, HB⟩ := hcut
            cases kq with
            | zero => exact absurd HA.out (by simp [uK.j2])
            | succ kj22 =>
             have H := HA.out
             clear HA
             simp only [uK.j2] at H
             have HF35 := ak_ H
             clear H
             go_upto_if 48 with (fail)
             repeat (go_quiet (fail); go_upto_if 48 with (fail))
             have H := HF35.out
             clear HF35
             by_cases c36 : x48_22 = true
             · subst c36
               have H1 : (some (x4_2, 10)) = some (r1, r2) := by rw [if_pos rfl] at H; exact H
               clear H
               have H := H1
               clear H1
               simp only [Option.some.injEq, Prod.mk.injEq] at H
               obtain ⟨rfl, rfl⟩ := H
               go_wp2
               repeat (go_quiet (fail); try go_wp2)
               go_ret2
               exact ⟨by first | rfl | simp [*], by repeat (first | (with_reducible first | exact HB.out | apply pa | apply pd | apply pe | refine zs ?_ GE351.out | refine zs ?_ GE354.out) | exact HB.out)⟩
             replace c36 := Bool.eq_false_iff.mpr c36
             subst c36
             have H1 : (uK.l1 kj22 x4_2 0 a0_0 a0_1 l0_2 ((rd_T70 l0_2 x4_2).f0) ((rd_T70 l0_2 x4_2).f1) ((rd_T70 l0_2 x4_2).f2) ((rd_T70 l0_2 x4_2).f3.f0) ((rd_T70 l0_2 x4_2).f3.f1) ((rd_T70 l0_2 x4_2).f3.f2) ((rd_T70 l0_2 x4_2).f3.f3) ((rd_T70 l0_2 x4_2).f4.f0) ((rd_T70 l0_2 x4_2).f4.f1) ((rd_T70 l0_2 x4_2).f4.f2) ((rd_T70 l0_2 x4_2).f4.f3) ((rd_T70 l0_2 x4_2).f5)) = some (r1, r2) := by rw [if_neg (show ¬ (false = true) by decide)] at H; exact H
             clear H
             have H := H1
             clear H1
             have H' := ak_ H
             clear H
             go_wp2
             repeat (go_quiet (fail); try go_wp2)
             go_loopg [6] kj22 (fun kq v6 w' => ∃ (x6_4 : Int), v6 = .int .i64 x6_4 ∧ Aside0 (uK.l1 kq x4_2 x6_4 a0_0 a0_1 l0_2 ((rd_T70 l0_2 x4_2).f0) ((rd_T70 l0_2 x4_2).f1) ((rd_T70 l0_2 x4_2).f2) ((rd_T70 l0_2 x4_2).f3.f0) ((rd_T70 l0_2 x4_2).f3.f1) ((rd_T70 l0_2 x4_2).f3.f2) ((rd_T70 l0_2 x4_2).f3.f3) ((rd_T70 l0_2 x4_2).f4.f0) ((rd_T70 l0_2 x4_2).f4.f1) ((rd_T70 l0_2 x4_2).f4.f2) ((rd_T70 l0_2 x4_2).f4.f3) ((rd_T70 l0_2 x4_2).f5) = some (r1, r2)) ∧ Aside0 (kq ≤ kj22) ∧ Aside0 (w'.heap[gb351]? = some (.cells #[.string a0_0, .int .i64 a0_1, (.slice (some ad353) l0_2.length c0_2)] 24 (0, 0))) ∧ Aside0 (w'.heap[gb354]? = some (.cells #[.string ((rd_T70 l0_2 x4_2).f0), .string ((rd_T70 l0_2 x4_2).f1), .int .i64 ((rd_T70 l0_2 x4_2).f2), .int .i64 ((rd_T70 l0_2 x4_2).f3.f0), .int .i64 ((rd_T70 l0_2 x4_2).f3.f1), .int .i64 ((rd_T70 l0_2 x4_2).f3.f2), .int .i64 ((rd_T70 l0_2 x4_2).f3.f3), .int .i64 ((rd_T70 l0_2 x4_2).f4.f0), .int .i64 ((rd_T70 l0_2 x4_2).f4.f1), .int .i64 ((rd_T70 l0_2 x4_2).f4.f2), .int .i64 ((rd_T70 l0_2 x4_2).f4.f3), .int .i64 ((rd_T70 l0_2 x4_2).f5)] 70 (0, 0))) ∧ Aside0 (Below w.heap.size w w'))
             case atStart => exact ⟨(0), (by first | rfl | simp [*]), H', ⟨Nat.le_refl _⟩, ⟨by (with_reducible repeat (first | apply zn | apply zd | apply za)); exact BK351.out⟩, ⟨by (with_reducible repeat (first | apply zn | apply zd | apply za)); exact BK354.out⟩, ⟨by repeat (first | (with_reducible first | exact HB.out | apply pa | apply pd | apply pe | refine zs ?_ GE351.out | refine zs ?_ GE354.out) | exact HB.out)⟩⟩
             case round =>
              clear H'
              try clear c1
              try clear c2
              try clear p2
              try clear c3
              try clear p3
              try clear q3
              try clear hx3
              try clear c6
              try clear c8
              try clear c8b0
              try clear c9
              try clear c12
              try clear c15
              try clear c15b0
              try clear c15b1
              try clear c18
              try clear c18b0
              try clear c18b1
              try clear c21
              try clear c21b0
              try clear c22
              try clear c22b0
              try clear c26
              try clear c29
              try clear c31
              try clear c33
              try clear p35
              try clear q35
              try clear hx35
              try clear c36
              try clear hcz10_0
              try clear hcz10_1
              try clear hcz10_2
              try clear hcz14_0
              try clear hcz14_1
              try clear hcz14_2
              try clear hcz17_0
              try clear hcz17_1
              try clear hcz17_2
              try clear hcz20_0
              try clear hcz20_1
              try clear hcz20_2
              try clear hcz24_0
              try clear hcz24_1
              try clear hcz24_2
              try clear hcz27_0
              try clear hcz27_1
              try clear hcz27_10
              try clear hcz27_11
              try clear hcz27_2
              try clear hcz27_3
              try clear hcz27_4
              try clear hcz27_5
              try clear hcz27_6
              try clear hcz27_7
              try clear hcz27_8
              try clear hcz27_9
              try clear hcz32_0
              try clear hcz32_1
              try clear hcz32_10
              try clear hcz32_11
              try clear hcz32_2
              try clear hcz32_3
              try clear hcz32_4
              try clear hcz32_5
              try clear hcz32_6
              try clear hcz32_7
              try clear hcz32_8
              try clear hcz32_9
              try clear hcz34_0
              try clear hcz34_1
              try clear hcz34_10
              try clear hcz34_11
              try clear hcz34_2
              try clear hcz34_3
              try clear hcz34_4
              try clear hcz34_5
              try clear hcz34_6
              try clear hcz34_7
              try clear hcz34_8
              try clear hcz34_9
              try clear hcz5_0
              try clear hcz5_1
              try clear hcz5_2
              try clear hcz9_0
              try clear hcz9_1
              try clear hcz9_2
              try clear hfz10_0
              try clear hfz10_1
              try clear hfz10_2
              try clear hfz14_0
              try clear hfz14_1
              try clear hfz14_2
              try clear hfz17_0
              try clear hfz17_1
              try clear hfz17_2
              try clear hfz20_0
              try clear hfz20_1
              try clear hfz20_2
              try clear hfz24_0
              try clear hfz24_1
              try clear hfz24_2
              try clear hfz27_0
              try clear hfz27_1
              try clear hfz27_10
              try clear hfz27_11
              try clear hfz27_2
              try clear hfz27_3
              try clear hfz27_4
              try clear hfz27_5
              try clear hfz27_6
              try clear hfz27_7
              try clear hfz27_8
              try clear hfz27_9
              try clear hfz32_0
              try clear hfz32_1
              try clear hfz32_10
              try clear hfz32_11
              try clear hfz32_2
              try clear hfz32_3
              try clear hfz32_4
              try clear hfz32_5
              try clear hfz32_6
              try clear hfz32_7
              try clear hfz32_8
              try clear hfz32_9
              try clear hfz34_0
              try clear hfz34_1
              try clear hfz34_10
              try clear hfz34_11
              try clear hfz34_2
              try clear hfz34_3
              try clear hfz34_4
              try clear hfz34_5
              try clear hfz34_6
              try clear hfz34_7
              try clear hfz34_8
              try clear hfz34_9
              try clear hfz5_0
              try clear hfz5_1
              try clear hfz5_2
              try clear hfz9_0
              try clear hfz9_1
              try clear hfz9_2
              try clear hx353_0
              try clear hx353_1
              try clear hx353_10
              try clear hx353_11
              try clear hx353_2
              try clear hx353_3
              try clear hx353_4
              try clear hx353_5
              try clear hx353_6
              try clear hx353_7
              try clear hx353_8
              try clear hx353_9
              try clear p2
              try clear p3
              try clear p353
              try clear q3
              try clear q353
              obtain ⟨x6_4, rfl, HA, HK4, BK351, BK354, HB⟩ := hrel
              cases gk with
              | zero => exact absurd HA.out (by simp [uK.l1])
              | succ k4 =>
               have H := HA.out
               clear HA
               simp only [uK.l1] at H
               have HF37 := ak_ H
               clear H
               go_upto_if 52 with (fail)
               repeat (go_quiet (fail); go_upto_if 52 with (fail))
               have H := HF37.out
               clear HF37
               by_cases c38 : x6_4 < x4_2
               · rw [if_pos c38] at H
                 have c38b0 : decide (x6_4 < x4_2) = true := dt_ c38
                 clear c38
                 (first | rw [c38b0] | (simp only [i64_w, i32_w]; rw [c38b0]) | skip)
                 by_cases c39 : 0 ≤ x6_4
                 · rw [if_pos c39] at H
                   have c39b0 : decide (0 ≤ x6_4) = true := dt_ c39
                   clear c39
                   by_cases c40 : x6_4 < (l0_2.length : Int)
                   · rw [if_pos c40] at H
                     have c40b0 : decide (x6_4 < (l0_2.length : Int)) = true := dt_ c40
                     clear c40
                     have HF41 := ak_ H
                     clear H
                     have hnb42 := NB351_354.out
                     have hnc42 := NB354_351.out
                     have hcz43_0 : wr.cell? ⟨gb351, 0, none⟩ = some (.string a0_0) := (zc BK351.out 0).trans rfl
                     have hcz43_1 : wr.cell? ⟨gb351, 1, none⟩ = some (.int .i64 a0_1) := (zc BK351.out 1).trans rfl
                     have hcz43_2 : wr.cell? ⟨gb351, 2, none⟩ = some (.slice (some ad353) l0_2.length c0_2) := (zc BK351.out 2).trans rfl
                     have hfz43_0 := zf BK351.out 0
                     have hfz43_1 := zf BK351.out 1
                     have hfz43_2 := zf BK351.out 2
                     have p357 : 0 ≤ (x6_4 : Int) := of_decide_eq_true (by assumption)
                     have q357 : x6_4 < (l0_2.length : Int) := of_decide_eq_true (by assumption)
                     obtain ⟨ad357, e357, hx357_0, hx357_1, hx357_2, hx357_3, hx357_4, hx357_5, hx357_6, hx357_7, hx357_8, hx357_9, hx357_10, hx357_11⟩ := at_T70 HR0_2.out x6_4 p357 q357
                     obtain rfl : ad353 = ad357 := (by injection e357)
                     replace hx357_0 := (HB.out.cell (bl_ w _ hx357_0)).trans hx357_0
                     replace hx357_1 := (HB.out.cell (bl_ w _ hx357_1)).trans hx357_1
                     replace hx357_2 := (HB.out.cell (bl_ w _ hx357_2)).trans hx357_2
                     replace hx357_3 := (HB.out.cell (bl_ w _ hx357_3)).trans hx357_3
                     replace hx357_4 := (HB.out.cell (bl_ w _ hx357_4)).trans hx357_4
                     replace hx357_5 := (HB.out.cell (bl_ w _ hx357_5)).trans hx357_5
                     replace hx357_6 := (HB.out.cell (bl_ w _ hx357_6)).trans hx357_6
                     replace hx357_7 := (HB.out.cell (bl_ w _ hx357_7)).trans hx357_7
                     replace hx357_8 := (HB.out.cell (bl_ w _ hx357_8)).trans hx357_8
                     replace hx357_9 := (HB.out.cell (bl_ w _ hx357_9)).trans hx357_9
                     replace hx357_10 := (HB.out.cell (bl_ w _ hx357_10)).trans hx357_10
                     replace hx357_11 := (HB.out.cell (bl_ w _ hx357_11)).trans hx357_11
                     replace p357 := eq_true p357
                     replace q357 := eq_true q357
                     have hcz44_0 : wr.cell? ⟨gb354, 0, none⟩ = some (.string ((rd_T70 l0_2 x4_2).f0)) := (zc BK354.out 0).trans rfl
                     have hcz44_1 : wr.cell? ⟨gb354, 1, none⟩ = some (.string ((rd_T70 l0_2 x4_2).f1)) := (zc BK354.out 1).trans rfl
                     have hcz44_2 : wr.cell? ⟨gb354, 2, none⟩ = some (.int .i64 ((rd_T70 l0_2 x4_2).f2)) := (zc BK354.out 2).trans rfl
                     have hcz44_3 : wr.cell? ⟨gb354, 3, none⟩ = some (.int .i64 ((rd_T70 l0_2 x4_2).f3.f0)) := (zc BK354.out 3).trans rfl
                     have hcz44_4 : wr.cell? ⟨gb354, 4, none⟩ = some (.int .i64 ((rd_T70 l0_2 x4_2).f3.f1)) := (zc BK354.out 4).trans rfl
                     have hcz44_5 : wr.cell? ⟨gb354, 5, none⟩ = some (.int .i64 ((rd_T70 l0_2 x4_2).f3.f2)) := (zc BK354.out 5).trans rfl
                     have hcz44_6 : wr.cell? ⟨gb354, 6, none⟩ = some (.int .i64 ((rd_T70 l0_2 x4_2).f3.f3)) := (zc BK354.out 6).trans rfl
                     have hcz44_7 : wr.cell? ⟨gb354, 7, none⟩ = some (.int .i64 ((rd_T70 l0_2 x4_2).f4.f0)) := (zc BK354.out 7).trans rfl
                     have hcz44_8 : wr.cell? ⟨gb354, 8, none⟩ = some (.int .i64 ((rd_T70 l0_2 x4_2).f4.f1)) := (zc BK354.out 8).trans rfl
                     have hcz44_9 : wr.cell? ⟨gb354, 9, none⟩ = some (.int .i64 ((rd_T70 l0_2 x4_2).f4.f2)) := (zc BK354.out 9).trans rfl
                     have hcz44_10 : wr.cell? ⟨gb354, 10, none⟩ = some (.int .i64 ((rd_T70 l0_2 x4_2).f4.f3)) := (zc BK354.out 10).trans rfl
                     have hcz44_11 : wr.cell? ⟨gb354, 11, none⟩ = some (.int .i64 ((rd_T70 l0_2 x4_2).f5)) := (zc BK354.out 11).trans rfl
                     have hfz44_0 := zf BK354.out 0
                     have hfz44_1 := zf BK354.out 1
                     have hfz44_2 := zf BK354.out 2
                     have hfz44_3 := zf BK354.out 3
                     have hfz44_4 := zf BK354.out 4
                     have hfz44_5 := zf BK354.out 5
                     have hfz44_6 := zf BK354.out 6
                     have hfz44_7 := zf BK354.out 7
                     have hfz44_8 := zf BK354.out 8
                     have hfz44_9 := zf BK354.out 9
                     have hfz44_10 := zf BK354.out 10
                     have hfz44_11 := zf BK354.out 11
                     go_upto_if 63 with (fail)
                     repeat (go_quiet (fail); go_upto_if 63 with (fail))
                     have H := HF41.out
                     clear HF41
                     by_cases c45 : ((rd_T70 l0_2 x6_4).f0).toList = ((rd_T70 l0_2 x4_2).f0).toList
                     · rw [if_pos c45] at H
                       have c45b0 : (((rd_T70 l0_2 x6_4).f0).toList == ((rd_T70 l0_2 x4_2).f0).toList) = true := beq_iff_eq.mpr c45
                       have c45b1 : (((rd_T70 l0_2 x6_4).f0).toList != ((rd_T70 l0_2 x4_2).f0).toList) = false := bne_eq_false_iff_eq.mpr c45
                       clear c45
                       (first | rw [c45b0] | (simp only [i64_w, i32_w]; rw [c45b0]) | skip)
                       simp only [Option.some.injEq, Prod.mk.injEq] at H
                       obtain ⟨rfl, rfl⟩ := H
                       go_wp2
                       repeat (go_quiet (fail); try go_wp2)
                       go_ret2
                       exact ⟨by first | rfl | simp [*], by repeat (first | (with_reducible first | exact HB.out | apply pa | apply pd | apply pe | refine zs ?_ GE351.out | refine zs ?_ GE354.out) | exact HB.out)⟩
                     rw [if_neg c45] at H
                     have c45b0 : (((rd_T70 l0_2 x6_4).f0).toList == ((rd_T70 l0_2 x4_2).f0).toList) = false := beq_eq_false_iff_ne.mpr c45
                     have c45b1 : (((rd_T70 l0_2 x6_4).f0).toList != ((rd_T70 l0_2 x4_2).f0).toList) = true := bne_iff_ne.mpr c45
                     (first | rw [c45b0] | (simp only [i64_w, i32_w]; rw [c45b0]) | skip)
                     have H' := ak_ H
                     clear H
                     go_wp2
                     repeat (go_quiet (fail); try go_wp2)
                     go_roundg k4
                     case measure => have := HJ6.out; have := HK2.out; have := HJ22.out; have := HK4.out; omega
                     case rel => exact ⟨(wrap64 (x6_4 + 1)), (by first | rfl | simp [*]), H', ⟨by have := HJ6.out; have := HK2.out; have := HJ22.out; have := HK4.out; omega⟩, ⟨by (with_reducible repeat (first | apply zn | apply zd | apply za)); exact BK351.out⟩, ⟨by (with_reducible repeat (first | apply zn | apply zd | apply za)); exact BK354.out⟩, ⟨by repeat (first | (with_reducible first | exact HB.out | apply pa | apply pd | apply pe | refine zs ?_ GE351.out | refine zs ?_ GE354.out) | exact HB.out)⟩⟩
                   rw [if_neg c40] at H
                   exact absurd H (by simp)
                 rw [if_neg c39] at H
                 exact absurd H (by simp)
               rw [if_neg c38] at H
               have c38b0 : decide (x6_4 < x4_2) = false := df_ c38
               clear c38
               (first | rw [c38b0] | (simp only [i64_w, i32_w]; rw [c38b0]) | skip)
               have HC46 := ak_ H
               clear H
               go_upto_region 20 with (fail)
               repeat (go_quiet (fail); go_upto_region 20 with (fail))
               go_cut [82] (fun v82 wc => ∃ (kq : Nat) (x82_45 : Bool), v82 = .bool x82_45 ∧ Aside0 (uK.j4 kq x4_2 x82_45 a0_0 a0_1 l0_2 ((rd_T70 l0_2 x4_2).f0) ((rd_T70 l0_2 x4_2).f1) ((rd_T70 l0_2 x4_2).f2) ((rd_T70 l0_2 x4_2).f3.f0) ((rd_T70 l0_2 x4_2).f3.f1) ((rd_T70 l0_2 x4_2).f3.f2) ((rd_T70 l0_2 x4_2).f3.f3) ((rd_T70 l0_2 x4_2).f4.f0) ((rd_T70 l0_2 x4_2).f4.f1) ((rd_T70 l0_2 x4_2).f4.f2) ((rd_T70 l0_2 x4_2).f4.f3) ((rd_T70 l0_2 x4_2).f5) = some (r1, r2)) ∧ Aside0 (kq ≤ k4) ∧ Aside0 (wc.heap[gb351]? = some (.cells #[.string a0_0, .int .i64 a0_1, (.slice (some ad353) l0_2.length c0_2)] 24 (0, 0))) ∧ Aside0 (wc.heap[gb354]? = some (.cells #[.string ((rd_T70 l0_2 x4_2).f0), .string ((rd_T70 l0_2 x4_2).f1), .int .i64 ((rd_T70 l0_2 x4_2).f2), .int .i64 ((rd_T70 l0_2 x4_2).f3.f0), .int .i64 ((rd_T70 l0_2 x4_2).f3.f1), .int .i64 ((rd_T70 l0_2 x4_2).f3.f2), .int .i64 ((rd_T70 l0_2 x4_2).f3.f3), .int .i64 ((rd_T70 l0_2 x4_2).f4.f0), .int .i64 ((rd_T70 l0_2 x4_2).f4.f1), .int .i64 ((rd_T70 l0_2 x4_2).f4.f2), .int .i64 ((rd_T70 l0_2 x4_2).f4.f3), .int .i64 ((rd_T70 l0_2 x4_2).f5)] 70 (0, 0))) ∧ Aside0 (Below w.heap.size w wc))
               case first =>
                have H := HC46.out
                clear HC46
                by_cases c47 : ((rd_T70 l0_2 x4_2).f2) < 1
                · rw [if_pos c47] at H
                  have c47b0 : decide (((rd_T70 l0_2 x4_2).f2) < 1) = true := dt_ c47
                  clear c47
                  (first | rw [c47b0] | (simp only [i64_w, i32_w]; rw [c47b0]) | skip)
                  have H' := ak_ H
                  clear H
                  have hnb48 := NB354_351.out
                  have hnc48 := NB351_354.out
                  have hcz49_0 : wr.cell? ⟨gb354, 0, none⟩ = some (.string ((rd_T70 l0_2 x4_2).f0)) := (zc BK354.out 0).trans rfl
                  have hcz49_1 : wr.cell? ⟨gb354, 1, none⟩ = some (.string ((rd_T70 l0_2 x4_2).f1)) := (zc BK354.out 1).trans rfl
                  have hcz49_2 : wr.cell? ⟨gb354, 2, none⟩ = some (.int .i64 ((rd_T70 l0_2 x4_2).f2)) := (zc BK354.out 2).trans rfl
                  have hcz49_3 : wr.cell? ⟨gb354, 3, none⟩ = some (.int .i64 ((rd_T70 l0_2 x4_2).f3.f0)) := (zc BK354.out 3).trans rfl
                  have hcz49_4 : wr.cell? ⟨gb354, 4, none⟩ = some (.int .i64 ((rd_T70 l0_2 x4_2).f3.f1)) := (zc BK354.out 4).trans rfl
                  have hcz49_5 : wr.cell? ⟨gb354, 5, none⟩ = some (.int .i64 ((rd_T70 l0_2 x4_2).f3.f2)) := (zc BK354.out 5).trans rfl
                  have hcz49_6 : wr.cell? ⟨gb354, 6, none⟩ = some (.int .i64 ((rd_T70 l0_2 x4_2).f3.f3)) := (zc BK354.out 6).trans rfl
                  have hcz49_7 : wr.cell? ⟨gb354, 7, none⟩ = some (.int .i64 ((rd_T70 l0_2 x4_2).f4.f0)) := (zc BK354.out 7).trans rfl
                  have hcz49_8 : wr.cell? ⟨gb354, 8, none⟩ = some (.int .i64 ((rd_T70 l0_2 x4_2).f4.f1)) := (zc BK354.out 8).trans rfl
                  have hcz49_9 : wr.cell? ⟨gb354, 9, none⟩ = some (.int .i64 ((rd_T70 l0_2 x4_2).f4.f2)) := (zc BK354.out 9).trans rfl
                  have hcz49_10 : wr.cell? ⟨gb354, 10, none⟩ = some (.int .i64 ((rd_T70 l0_2 x4_2).f4.f3)) := (zc BK354.out 10).trans rfl
                  have hcz49_11 : wr.cell? ⟨gb354, 11, none⟩ = some (.int .i64 ((rd_T70 l0_2 x4_2).f5)) := (zc BK354.out 11).trans rfl
                  have hfz49_0 := zf BK354.out 0
                  have hfz49_1 := zf BK354.out 1
                  have hfz49_2 := zf BK354.out 2
                  have hfz49_3 := zf BK354.out 3
                  have hfz49_4 := zf BK354.out 4
                  have hfz49_5 := zf BK354.out 5
                  have hfz49_6 := zf BK354.out 6
                  have hfz49_7 := zf BK354.out 7
                  have hfz49_8 := zf BK354.out 8
                  have hfz49_9 := zf BK354.out 9
                  have hfz49_10 := zf BK354.out 10
                  have hfz49_11 := zf BK354.out 11
                  go_wp2
                  repeat (go_quiet (fail); try go_wp2)
                  go_meet
                  case rel => exact ⟨_, (true), (by first | rfl | simp [*]), H', ⟨by have := HJ6.out; have := HK2.out; have := HJ22.out; have := HK4.out; first | omega | exact Nat.le_refl _⟩, ⟨by (with_reducible repeat (first | apply zn | apply zd | apply za)); exact BK351.out⟩, ⟨by (with_reducible repeat (first | apply zn | apply zd | apply za)); exact BK354.out⟩, ⟨by repeat (first | (with_reducible first | exact HB.out | apply pa | apply pd | apply pe | refine zs ?_ GE351.out | refine zs ?_ GE354.out) | exact HB.out)⟩⟩
                rw [if_neg c47] at H
                have c47b0 : decide (((rd_T70 l0_2 x4_2).f2) < 1) = false := df_ c47
                clear c47
                (first | rw [c47b0] | (simp only [i64_w, i32_w]; rw [c47b0]) | skip)
                by_cases c50 : ((rd_T70 l0_2 x4_2).f2) > 1099511627776
                · rw [if_pos c50] at H
                  have c50b0 : decide (1099511627776 < ((rd_T70 l0_2 x4_2).f2)) = true := dt_ c50
                  clear c50
                  have H' := ak_ H
                  clear H
                  have hnb51 := NB354_351.out
                  have hnc51 := NB351_354.out
                  have hcz52_0 : wr.cell? ⟨gb354, 0, none⟩ = some (.string ((rd_T70 l0_2 x4_2).f0)) := (zc BK354.out 0).trans rfl
                  have hcz52_1 : wr.cell? ⟨gb354, 1, none⟩ = some (.string ((rd_T70 l0_2 x4_2).f1)) := (zc BK354.out 1).trans rfl
                  have hcz52_2 : wr.cell? ⟨gb354, 2, none⟩ = some (.int .i64 ((rd_T70 l0_2 x4_2).f2)) := (zc BK354.out 2).trans rfl
                  have hcz52_3 : wr.cell? ⟨gb354, 3, none⟩ = some (.int .i64 ((rd_T70 l0_2 x4_2).f3.f0)) := (zc BK354.out 3).trans rfl
                  have hcz52_4 : wr.cell? ⟨gb354, 4, none⟩ = some (.int .i64 ((rd_T70 l0_2 x4_2).f3.f1)) := (zc BK354.out 4).trans rfl
                  have hcz52_5 : wr.cell? ⟨gb354, 5, none⟩ = some (.int .i64 ((rd_T70 l0_2 x4_2).f3.f2)) := (zc BK354.out 5).trans rfl
                  have hcz52_6 : wr.cell? ⟨gb354, 6, none⟩ = some (.int .i64 ((rd_T70 l0_2 x4_2).f3.f3)) := (zc BK354.out 6).trans rfl
                  have hcz52_7 : wr.cell? ⟨gb354, 7, none⟩ = some (.int .i64 ((rd_T70 l0_2 x4_2).f4.f0)) := (zc BK354.out 7).trans rfl
                  have hcz52_8 : wr.cell? ⟨gb354, 8, none⟩ = some (.int .i64 ((rd_T70 l0_2 x4_2).f4.f1)) := (zc BK354.out 8).trans rfl
                  have hcz52_9 : wr.cell? ⟨gb354, 9, none⟩ = some (.int .i64 ((rd_T70 l0_2 x4_2).f4.f2)) := (zc BK354.out 9).trans rfl
                  have hcz52_10 : wr.cell? ⟨gb354, 10, none⟩ = some (.int .i64 ((rd_T70 l0_2 x4_2).f4.f3)) := (zc BK354.out 10).trans rfl
                  have hcz52_11 : wr.cell? ⟨gb354, 11, none⟩ = some (.int .i64 ((rd_T70 l0_2 x4_2).f5)) := (zc BK354.out 11).trans rfl
                  have hfz52_0 := zf BK354.out 0
                  have hfz52_1 := zf BK354.out 1
                  have hfz52_2 := zf BK354.out 2
                  have hfz52_3 := zf BK354.out 3
                  have hfz52_4 := zf BK354.out 4
                  have hfz52_5 := zf BK354.out 5
                  have hfz52_6 := zf BK354.out 6
                  have hfz52_7 := zf BK354.out 7
                  have hfz52_8 := zf BK354.out 8
                  have hfz52_9 := zf BK354.out 9
                  have hfz52_10 := zf BK354.out 10
                  have hfz52_11 := zf BK354.out 11
                  go_wp2
                  repeat (go_quiet (fail); try go_wp2)
                  go_meet
                  case rel => exact ⟨_, (true), (by first | rfl | simp [*]), H', ⟨by have := HJ6.out; have := HK2.out; have := HJ22.out; have := HK4.out; first | omega | exact Nat.le_refl _⟩, ⟨by (with_reducible repeat (first | apply zn | apply zd | apply za)); exact BK351.out⟩, ⟨by (with_reducible repeat (first | apply zn | apply zd | apply za)); exact BK354.out⟩, ⟨by repeat (first | (with_reducible first | exact HB.out | apply pa | apply pd | apply pe | refine zs ?_ GE351.out | refine zs ?_ GE354.out) | exact HB.out)⟩⟩
                rw [if_neg c50] at H
                have c50b0 : decide (1099511627776 < ((rd_T70 l0_2 x4_2).f2)) = false := df_ c50
                clear c50
                by_cases c53 : ((rd_T70 l0_2 x4_2).f5) < 0
                · rw [if_pos c53] at H
                  have c53b0 : decide (((rd_T70 l0_2 x4_2).f5) < 0) = true := dt_ c53
                  clear c53
                  have H' := ak_ H
                  clear H
                  have hnb54 := NB354_351.out
                  have hnc54 := NB351_354.out
                  have hcz55_0 : wr.cell? ⟨gb354, 0, none⟩ = some (.string ((rd_T70 l0_2 x4_2).f0)) := (zc BK354.out 0).trans rfl
                  have hcz55_1 : wr.cell? ⟨gb354, 1, none⟩ = some (.string ((rd_T70 l0_2 x4_2).f1)) := (zc BK354.out 1).trans rfl
                  have hcz55_2 : wr.cell? ⟨gb354, 2, none⟩ = some (.int .i64 ((rd_T70 l0_2 x4_2).f2)) := (zc BK354.out 2).trans rfl
                  have hcz55_3 : wr.cell? ⟨gb354, 3, none⟩ = some (.int .i64 ((rd_T70 l0_2 x4_2).f3.f0)) := (zc BK354.out 3).trans rfl
                  have hcz55_4 : wr.cell? ⟨gb354, 4, none⟩ = some (.int .i64 ((rd_T70 l0_2 x4_2).f3.f1)) := (zc BK354.out 4).trans rfl
                  have hcz55_5 : wr.cell? ⟨gb354, 5, none⟩ = some (.int .i64 ((rd_T70 l0_2 x4_2).f3.f2)) := (zc BK354.out 5).trans rfl
                  have hcz55_6 : wr.cell? ⟨gb354, 6, none⟩ = some (.int .i64 ((rd_T70 l0_2 x4_2).f3.f3)) := (zc BK354.out 6).trans rfl
                  have hcz55_7 : wr.cell? ⟨gb354, 7, none⟩ = some (.int .i64 ((rd_T70 l0_2 x4_2).f4.f0)) := (zc BK354.out 7).trans rfl
                  have hcz55_8 : wr.cell? ⟨gb354, 8, none⟩ = some (.int .i64 ((rd_T70 l0_2 x4_2).f4.f1)) := (zc BK354.out 8).trans rfl
                  have hcz55_9 : wr.cell? ⟨gb354, 9, none⟩ = some (.int .i64 ((rd_T70 l0_2 x4_2).f4.f2)) := (zc BK354.out 9).trans rfl
                  have hcz55_10 : wr.cell? ⟨gb354, 10, none⟩ = some (.int .i64 ((rd_T70 l0_2 x4_2).f4.f3)) := (zc BK354.out 10).trans rfl
                  have hcz55_11 : wr.cell? ⟨gb354, 11, none⟩ = some (.int .i64 ((rd_T70 l0_2 x4_2).f5)) := (zc BK354.out 11).trans rfl
                  have hfz55_0 := zf BK354.out 0
                  have hfz55_1 := zf BK354.out 1
                  have hfz55_2 := zf BK354.out 2
                  have hfz55_3 := zf BK354.out 3
                  have hfz55_4 := zf BK354.out 4
                  have hfz55_5 := zf BK354.out 5
                  have hfz55_6 := zf BK354.out 6
                  have hfz55_7 := zf BK354.out 7
                  have hfz55_8 := zf BK354.out 8
                  have hfz55_9 := zf BK354.out 9
                  have hfz55_10 := zf BK354.out 10
                  have hfz55_11 := zf BK354.out 11
                  go_wp2
                  repeat (go_quiet (fail); try go_wp2)
                  go_meet
                  case rel => exact ⟨_, (true), (by first | rfl | simp [*]), H', ⟨by have := HJ6.out; have := HK2.out; have := HJ22.out; have := HK4.out; first | omega | exact Nat.le_refl _⟩, ⟨by (with_reducible repeat (first | apply zn | apply zd | apply za)); exact BK351.out⟩, ⟨by (with_reducible repeat (first | apply zn | apply zd | apply za)); exact BK354.out⟩, ⟨by repeat (first | (with_reducible first | exact HB.out | apply pa | apply pd | apply pe | refine zs ?_ GE351.out | refine zs ?_ GE354.out) | exact HB.out)⟩⟩
                rw [if_neg c53] at H
                have c53b0 : decide (((rd_T70 l0_2 x4_2).f5) < 0) = false := df_ c53
                clear c53
                have H' := ak_ H
                clear H
                have hnb56 := NB354_351.out
                have hnc56 := NB351_354.out
                have hcz57_0 : wr.cell? ⟨gb354, 0, none⟩ = some (.string ((rd_T70 l0_2 x4_2).f0)) := (zc BK354.out 0).trans rfl
                have hcz57_1 : wr.cell? ⟨gb354, 1, none⟩ = some (.string ((rd_T70 l0_2 x4_2).f1)) := (zc BK354.out 1).trans rfl
                have hcz57_2 : wr.cell? ⟨gb354, 2, none⟩ = some (.int .i64 ((rd_T70 l0_2 x4_2).f2)) := (zc BK354.out 2).trans rfl
                have hcz57_3 : wr.cell? ⟨gb354, 3, none⟩ = some (.int .i64 ((rd_T70 l0_2 x4_2).f3.f0)) := (zc BK354.out 3).trans rfl
                have hcz57_4 : wr.cell? ⟨gb354, 4, none⟩ = some (.int .i64 ((rd_T70 l0_2 x4_2).f3.f1)) := (zc BK354.out 4).trans rfl
                have hcz57_5 : wr.cell? ⟨gb354, 5, none⟩ = some (.int .i64 ((rd_T70 l0_2 x4_2).f3.f2)) := (zc BK354.out 5).trans rfl
                have hcz57_6 : wr.cell? ⟨gb354, 6, none⟩ = some (.int .i64 ((rd_T70 l0_2 x4_2).f3.f3)) := (zc BK354.out 6).trans rfl
                have hcz57_7 : wr.cell? ⟨gb354, 7, none⟩ = some (.int .i64 ((rd_T70 l0_2 x4_2).f4.f0)) := (zc BK354.out 7).trans rfl
                have hcz57_8 : wr.cell? ⟨gb354, 8, none⟩ = some (.int .i64 ((rd_T70 l0_2 x4_2).f4.f1)) := (zc BK354.out 8).trans rfl
                have hcz57_9 : wr.cell? ⟨gb354, 9, none⟩ = some (.int .i64 ((rd_T70 l0_2 x4_2).f4.f2)) := (zc BK354.out 9).trans rfl
                have hcz57_10 : wr.cell? ⟨gb354, 10, none⟩ = some (.int .i64 ((rd_T70 l0_2 x4_2).f4.f3)) := (zc BK354.out 10).trans rfl
                have hcz57_11 : wr.cell? ⟨gb354, 11, none⟩ = some (.int .i64 ((rd_T70 l0_2 x4_2).f5)) := (zc BK354.out 11).trans rfl
                have hfz57_0 := zf BK354.out 0
                have hfz57_1 := zf BK354.out 1
                have hfz57_2 := zf BK354.out 2
                have hfz57_3 := zf BK354.out 3
                have hfz57_4 := zf BK354.out 4
                have hfz57_5 := zf BK354.out 5
                have hfz57_6 := zf BK354.out 6
                have hfz57_7 := zf BK354.out 7
                have hfz57_8 := zf BK354.out 8
                have hfz57_9 := zf BK354.out 9
                have hfz57_10 := zf BK354.out 10
                have hfz57_11 := zf BK354.out 11
                go_wp2
                repeat (go_quiet (fail); try go_wp2)
                go_meet
                case rel => exact ⟨_, (decide (((rd_T70 l0_2 x4_2).f5) > 255)), (by first | rfl | simp [*]), H', ⟨by have := HJ6.out; have := HK2.out; have := HJ22.out; have := HK4.out; first | omega | exact Nat.le_refl _⟩, ⟨by (with_reducible repeat (first | apply zn | apply zd | apply za)); exact BK351.out⟩, ⟨by (with_reducible repeat (first | apply zn | apply zd | apply za)); exact BK354.out⟩, ⟨by repeat (first | (with_reducible first | exact HB.out | apply pa | apply pd | apply pe | refine zs ?_ GE351.out | refine zs ?_ GE354.out) | exact HB.out)⟩⟩
               case rest =>
                clear HC46
                try clear c1
                try clear c2
                try clear p2
                try clear c3
                try clear p3
                try clear q3
                try clear hx3
                try clear c4
                try clear c5
                try clear c6
                try clear p6
                try clear c8
                try clear c8b0
                try clear c9
                try clear c12
                try clear c15
                try clear c15b0
                try clear c15b1
                try clear c18
                try clear c18b0
                try clear c18b1
                try clear c21
                try clear c21b0
                try clear c22
                try clear c22b0
                try clear c26
                try clear c29
                try clear c31
                try clear c33
                try clear p35
                try clear q35
                try clear hx35
                try clear c36
                try clear c38
                try clear c38b0
                try clear c39
                try clear c39b0
                try clear c40
                try clear c40b0
                try clear c42
                try clear c45
                try clear c45b0
                try clear c45b1
                try clear c47
                try clear c47b0
                try clear c48
                try clear c50
                try clear c50b0
                try clear c51
                try clear c53
                try clear c53b0
                try clear c54
                try clear c56
                try clear hcz10_0
                try clear hcz10_1
                try clear hcz10_2
                try clear hcz14_0
                try clear hcz14_1
                try clear hcz14_2
                try clear hcz17_0
                try clear hcz17_1
                try clear hcz17_2
                try clear hcz20_0
                try clear hcz20_1
                try clear hcz20_2
                try clear hcz24_0
                try clear hcz24_1
                try clear hcz24_2
                try clear hcz27_0
                try clear hcz27_1
                try clear hcz27_10
                try clear hcz27_11
                try clear hcz27_2
                try clear hcz27_3
                try clear hcz27_4
                try clear hcz27_5
                try clear hcz27_6
                try clear hcz27_7
                try clear hcz27_8
                try clear hcz27_9
                try clear hcz32_0
                try clear hcz32_1
                try clear hcz32_10
                try clear hcz32_11
                try clear hcz32_2
                try clear hcz32_3
                try clear hcz32_4
                try clear hcz32_5
                try clear hcz32_6
                try clear hcz32_7
                try clear hcz32_8
                try clear hcz32_9
                try clear hcz34_0
                try clear hcz34_1
                try clear hcz34_10
                try clear hcz34_11
                try clear hcz34_2
                try clear hcz34_3
                try clear hcz34_4
                try clear hcz34_5
                try clear hcz34_6
                try clear hcz34_7
                try clear hcz34_8
                try clear hcz34_9
                try clear hcz43_0
                try clear hcz43_1
                try clear hcz43_2
                try clear hcz44_0
                try clear hcz44_1
                try clear hcz44_10
                try clear hcz44_11
                try clear hcz44_2
                try clear hcz44_3
                try clear hcz44_4
                try clear hcz44_5
                try clear hcz44_6
                try clear hcz44_7
                try clear hcz44_8
                try clear hcz44_9
                try clear hcz49_0
                try clear hcz49_1
                try clear hcz49_10
                try clear hcz49_11
                try clear hcz49_2
                try clear hcz49_3
                try clear hcz49_4
                try clear hcz49_5
                try clear hcz49_6
                try clear hcz49_7
                try clear hcz49_8
                try clear hcz49_9
                try clear hcz52_0
                try clear hcz52_1
                try clear hcz52_10
                try clear hcz52_11
                try clear hcz52_2
                try clear hcz52_3
                try clear hcz52_4
                try clear hcz52_5
                try clear hcz52_6
                try clear hcz52_7
                try clear hcz52_8
                try clear hcz52_9
                try clear hcz55_0
                try clear hcz55_1
                try clear hcz55_10
                try clear hcz55_11
                try clear hcz55_2
                try clear hcz55_3
                try clear hcz55_4
                try clear hcz55_5
                try clear hcz55_6
                try clear hcz55_7
                try clear hcz55_8
                try clear hcz55_9
                try clear hcz57_0
                try clear hcz57_1
                try clear hcz57_10
                try clear hcz57_11
                try clear hcz57_2
                try clear hcz57_3
                try clear hcz57_4
                try clear hcz57_5
                try clear hcz57_6
                try clear hcz57_7
                try clear hcz57_8
                try clear hcz57_9
                try clear hcz5_0
                try clear hcz5_1
                try clear hcz5_2
                try clear hcz9_0
                try clear hcz9_1
                try clear hcz9_2
                try clear hfz10_0
                try clear hfz10_1
                try clear hfz10_2
                try clear hfz14_0
                try clear hfz14_1
                try clear hfz14_2
                try clear hfz17_0
                try clear hfz17_1
                try clear hfz17_2
                try clear hfz20_0
                try clear hfz20_1
                try clear hfz20_2
                try clear hfz24_0
                try clear hfz24_1
                try clear hfz24_2
                try clear hfz27_0
                try clear hfz27_1
                try clear hfz27_10
                try clear hfz27_11
                try clear hfz27_2
                try clear hfz27_3
                try clear hfz27_4
                try clear hfz27_5
                try clear hfz27_6
                try clear hfz27_7
                try clear hfz27_8
                try clear hfz27_9
                try clear hfz32_0
                try clear hfz32_1
                try clear hfz32_10
                try clear hfz32_11
                try clear hfz32_2
                try clear hfz32_3
                try clear hfz32_4
                try clear hfz32_5
                try clear hfz32_6
                try clear hfz32_7
                try clear hfz32_8
                try clear hfz32_9
                try clear hfz34_0
                try clear hfz34_1
                try clear hfz34_10
                try clear hfz34_11
                try clear hfz34_2
                try clear hfz34_3
                try clear hfz34_4
                try clear hfz34_5
                try clear hfz34_6
                try clear hfz34_7
                try clear hfz34_8
                try clear hfz34_9
                try clear hfz43_0
                try clear hfz43_1
                try clear hfz43_2
                try clear hfz44_0
                try clear hfz44_1
                try clear hfz44_10
                try clear hfz44_11
                try clear hfz44_2
                try clear hfz44_3
                try clear hfz44_4
                try clear hfz44_5
                try clear hfz44_6
                try clear hfz44_7
                try clear hfz44_8
                try clear hfz44_9
                try clear hfz49_0
                try clear hfz49_1
                try clear hfz49_10
                try clear hfz49_11
                try clear hfz49_2
                try clear hfz49_3
                try clear hfz49_4
                try clear hfz49_5
                try clear hfz49_6
                try clear hfz49_7
                try clear hfz49_8
                try clear hfz49_9
                try clear hfz52_0
                try clear hfz52_1
                try clear hfz52_10
                try clear hfz52_11
                try clear hfz52_2
                try clear hfz52_3
                try clear hfz52_4
                try clear hfz52_5
                try clear hfz52_6
                try clear hfz52_7
                try clear hfz52_8
                try clear hfz52_9
                try clear hfz55_0
                try clear hfz55_1
                try clear hfz55_10
                try clear hfz55_11
                try clear hfz55_2
                try clear hfz55_3
                try clear hfz55_4
                try clear hfz55_5
                try clear hfz55_6
                try clear hfz55_7
                try clear hfz55_8
                try clear hfz55_9
                try clear hfz57_0
                try clear hfz57_1
                try clear hfz57_10
                try clear hfz57_11
                try clear hfz57_2
                try clear hfz57_3
                try clear hfz57_4
                try clear hfz57_5
                try clear hfz57_6
                try clear hfz57_7
                try clear hfz57_8
                try clear hfz57_9
                try clear hfz5_0
                try clear hfz5_1
                try clear hfz5_2
                try clear hfz9_0
                try clear hfz9_1
                try clear hfz9_2
                try clear hx353_0
                try clear hx353_1
                try clear hx353_10
                try clear hx353_11
                try clear hx353_2
                try clear hx353_3
                try clear hx353_4
                try clear hx353_5
                try clear hx353_6
                try clear hx353_7
                try clear hx353_8
                try clear hx353_9
                try clear hx357_0
                try clear hx357_1
                try clear hx357_10
                try clear hx357_11
                try clear hx357_2
                try clear hx357_3
                try clear hx357_4
                try clear hx357_5
                try clear hx357_6
                try clear hx357_7
                try clear hx357_8
                try clear hx357_9
                try clear p2
                try clear p3
                try clear p35
                try clear p353
                try clear p357
                try clear q3
                try clear q35
                try clear q353
                try clear q357
                obtain ⟨kq, x82_45, rfl, HA, HJ45, BK351, BK354, HB⟩ := hcut
                cases kq with
                | zero => exact absurd HA.out (by simp [uK.j4])
                | succ kj45 =>
                 have H := HA.out
                 clear HA
                 simp only [uK.j4] at H
                 have HF58 := ak_ H
                 clear H
                 go_upto_if 82 with (fail)
                 repeat (go_quiet (fail); go_upto_if 82 with (fail))
                 have H := HF58.out
                 clear HF58
                 by_cases c59 : x82_45 = true
                 · subst c59
                   have H1 : (some (x4_2, 1)) = some (r1, r2) := by rw [if_pos rfl] at H; exact H
                   clear H
                   have H := H1
                   clear H1
                   simp only [Option.some.injEq, Prod.mk.injEq] at H
                   obtain ⟨rfl, rfl⟩ := H
                   go_wp2
                   repeat (go_quiet (fail); try go_wp2)
                   go_ret2
                   exact ⟨by first | rfl | simp [*], by repeat (first | (with_reducible first | exact HB.out | apply pa | apply pd | apply pe | refine zs ?_ GE351.out | refine zs ?_ GE354.out) | exact HB.out)⟩
                 replace c59 := Bool.eq_false_iff.mpr c59
                 subst c59
                 have H1 : ((uR11_Good.f ((rd_T70 l0_2 x4_2).f3.f0) ((rd_T70 l0_2 x4_2).f3.f1) ((rd_T70 l0_2 x4_2).f3.f2) ((rd_T70 l0_2 x4_2).f3.f3)).bind fun t358 => (if t358 = true then ((uR11_Good.f ((rd_T70 l0_2 x4_2).f4.f0) ((rd_T70 l0_2 x4_2).f4.f1) ((rd_T70 l0_2 x4_2).f4.f2) ((rd_T70 l0_2 x4_2).f4.f3)).bind fun t359 => (if t359 = true then (uK.l0 kj45 (wrap64 (x4_2 + 1)) a0_0 a0_1 l0_2) else (some (x4_2, 3)))) else (some (x4_2, 3)))) = some (r1, r2) := by rw [if_neg (show ¬ (false = true) by decide)] at H; exact H
                 clear H
                 have H := H1
                 clear H1
                 replace H := ob_ H
                 obtain ⟨t358, A600, H⟩ := H
                 replace H : (if t358 = true then ((uR11_Good.f ((rd_T70 l0_2 x4_2).f4.f0) ((rd_T70 l0_2 x4_2).f4.f1) ((rd_T70 l0_2 x4_2).f4.f2) ((rd_T70 l0_2 x4_2).f4.f3)).bind fun t359 => (if t359 = true then (uK.l0 kj45 (wrap64 (x4_2 + 1)) a0_0 a0_1 l0_2) else (some (x4_2, 3)))) else (some (x4_2, 3))) = some (r1, r2) := H
                 have A60 := ak_ A600
                 clear A600
                 by_cases c61 : t358 = true
                 · subst c61
                   have H1 : ((uR11_Good.f ((rd_T70 l0_2 x4_2).f4.f0) ((rd_T70 l0_2 x4_2).f4.f1) ((rd_T70 l0_2 x4_2).f4.f2) ((rd_T70 l0_2 x4_2).f4.f3)).bind fun t359 => (if t359 = true then (uK.l0 kj45 (wrap64 (x4_2 + 1)) a0_0 a0_1 l0_2) else (some (x4_2, 3)))) = some (r1, r2) := by rw [if_pos rfl] at H; exact H
                   clear H
                   have H := H1
                   clear H1
                   replace H := ob_ H
                   obtain ⟨t359, A620, H⟩ := H
                   replace H : (if t359 = true then (uK.l0 kj45 (wrap64 (x4_2 + 1)) a0_0 a0_1 l0_2) else (some (x4_2, 3))) = some (r1, r2) := H
                   have A62 := ak_ A620
                   clear A620
                   have HF63 := ak_ H
                   clear H
                   have hnb64 := NB354_351.out
                   have hnc64 := NB351_354.out
                   have hcz65_0 : wc.cell? ⟨gb354, 0, none⟩ = some (.string ((rd_T70 l0_2 x4_2).f0)) := (zc BK354.out 0).trans rfl
                   have hcz65_1 : wc.cell? ⟨gb354, 1, none⟩ = some (.string ((rd_T70 l0_2 x4_2).f1)) := (zc BK354.out 1).trans rfl
                   have hcz65_2 : wc.cell? ⟨gb354, 2, none⟩ = some (.int .i64 ((rd_T70 l0_2 x4_2).f2)) := (zc BK354.out 2).trans rfl
                   have hcz65_3 : wc.cell? ⟨gb354, 3, none⟩ = some (.int .i64 ((rd_T70 l0_2 x4_2).f3.f0)) := (zc BK354.out 3).trans rfl
                   have hcz65_4 : wc.cell? ⟨gb354, 4, none⟩ = some (.int .i64 ((rd_T70 l0_2 x4_2).f3.f1)) := (zc BK354.out 4).trans rfl
                   have hcz65_5 : wc.cell? ⟨gb354, 5, none⟩ = some (.int .i64 ((rd_T70 l0_2 x4_2).f3.f2)) := (zc BK354.out 5).trans rfl
                   have hcz65_6 : wc.cell? ⟨gb354, 6, none⟩ = some (.int .i64 ((rd_T70 l0_2 x4_2).f3.f3)) := (zc BK354.out 6).trans rfl
                   have hcz65_7 : wc.cell? ⟨gb354, 7, none⟩ = some (.int .i64 ((rd_T70 l0_2 x4_2).f4.f0)) := (zc BK354.out 7).trans rfl
                   have hcz65_8 : wc.cell? ⟨gb354, 8, none⟩ = some (.int .i64 ((rd_T70 l0_2 x4_2).f4.f1)) := (zc BK354.out 8).trans rfl
                   have hcz65_9 : wc.cell? ⟨gb354, 9, none⟩ = some (.int .i64 ((rd_T70 l0_2 x4_2).f4.f2)) := (zc BK354.out 9).trans rfl
                   have hcz65_10 : wc.cell? ⟨gb354, 10, none⟩ = some (.int .i64 ((rd_T70 l0_2 x4_2).f4.f3)) := (zc BK354.out 10).trans rfl
                   have hcz65_11 : wc.cell? ⟨gb354, 11, none⟩ = some (.int .i64 ((rd_T70 l0_2 x4_2).f5)) := (zc BK354.out 11).trans rfl
                   have hfz65_0 := zf BK354.out 0
                   have hfz65_1 := zf BK354.out 1
                   have hfz65_2 := zf BK354.out 2
                   have hfz65_3 := zf BK354.out 3
                   have hfz65_4 := zf BK354.out 4
                   have hfz65_5 := zf BK354.out 5
                   have hfz65_6 := zf BK354.out 6
                   have hfz65_7 := zf BK354.out 7
                   have hfz65_8 := zf BK354.out 8
                   have hfz65_9 := zf BK354.out 9
                   have hfz65_10 := zf BK354.out 10
                   have hfz65_11 := zf BK354.out 11
                   go_upto_if 93 with (first | (go_at_call 32; (with_reducible refine (uR11_Good.calls ((rd_T70 l0_2 x4_2).f3.f0) ((rd_T70 l0_2 x4_2).f3.f1) ((rd_T70 l0_2 x4_2).f3.f2) ((rd_T70 l0_2 x4_2).f3.f3) true _ A60.out).mono ?_); rintro e w66 ⟨rfl, hb⟩; have n0_ := ak_ (blk_below (g := gb351) (o := .cells #[.string a0_0, .int .i64 a0_1, .slice (some ad353) l0_2.length c0_2] 24 (0, 0)) (by (with_reducible repeat (first | apply zn | apply zd | apply za)); exact BK351.out) hb); have n1_ := ak_ (blk_below (g := gb354) (o := .cells #[.string ((rd_T70 l0_2 x4_2).f0), .string ((rd_T70 l0_2 x4_2).f1), .int .i64 ((rd_T70 l0_2 x4_2).f2), .int .i64 ((rd_T70 l0_2 x4_2).f3.f0), .int .i64 ((rd_T70 l0_2 x4_2).f3.f1), .int .i64 ((rd_T70 l0_2 x4_2).f3.f2), .int .i64 ((rd_T70 l0_2 x4_2).f3.f3), .int .i64 ((rd_T70 l0_2 x4_2).f4.f0), .int .i64 ((rd_T70 l0_2 x4_2).f4.f1), .int .i64 ((rd_T70 l0_2 x4_2).f4.f2), .int .i64 ((rd_T70 l0_2 x4_2).f4.f3), .int .i64 ((rd_T70 l0_2 x4_2).f5)] 70 (0, 0)) (by (with_reducible repeat (first | apply zn | apply zd | apply za)); exact BK354.out) hb); have n2_ := ak_ (ps (by with_reducible repeat first | exact HB.out | apply pa | apply pd | apply pe | refine zs ?_ GE351.out | refine zs ?_ GE354.out) hb); clear BK351 BK354 HB; have BK351 := n0_; have BK354 := n1_; have HB := n2_; clear n0_ n1_ n2_; have hcz67_0 : w66.cell? ⟨gb354, 0, none⟩ = some (.string ((rd_T70 l0_2 x4_2).f0)) := (zc BK354.out 0).trans rfl; have hcz67_1 : w66.cell? ⟨gb354, 1, none⟩ = some (.string ((rd_T70 l0_2 x4_2).f1)) := (zc BK354.out 1).trans rfl; have hcz67_2 : w66.cell? ⟨gb354, 2, none⟩ = some (.int .i64 ((rd_T70 l0_2 x4_2).f2)) := (zc BK354.out 2).trans rfl; have hcz67_3 : w66.cell? ⟨gb354, 3, none⟩ = some (.int .i64 ((rd_T70 l0_2 x4_2).f3.f0)) := (zc BK354.out 3).trans rfl; have hcz67_4 : w66.cell? ⟨gb354, 4, none⟩ = some (.int .i64 ((rd_T70 l0_2 x4_2).f3.f1)) := (zc BK354.out 4).trans rfl; have hcz67_5 : w66.cell? ⟨gb354, 5, none⟩ = some (.int .i64 ((rd_T70 l0_2 x4_2).f3.f2)) := (zc BK354.out 5).trans rfl; have hcz67_6 : w66.cell? ⟨gb354, 6, none⟩ = some (.int .i64 ((rd_T70 l0_2 x4_2).f3.f3)) := (zc BK354.out 6).trans rfl; have hcz67_7 : w66.cell? ⟨gb354, 7, none⟩ = some (.int .i64 ((rd_T70 l0_2 x4_2).f4.f0)) := (zc BK354.out 7).trans rfl; have hcz67_8 : w66.cell? ⟨gb354, 8, none⟩ = some (.int .i64 ((rd_T70 l0_2 x4_2).f4.f1)) := (zc BK354.out 8).trans rfl; have hcz67_9 : w66.cell? ⟨gb354, 9, none⟩ = some (.int .i64 ((rd_T70 l0_2 x4_2).f4.f2)) := (zc BK354.out 9).trans rfl; have hcz67_10 : w66.cell? ⟨gb354, 10, none⟩ = some (.int .i64 ((rd_T70 l0_2 x4_2).f4.f3)) := (zc BK354.out 10).trans rfl; have hcz67_11 : w66.cell? ⟨gb354, 11, none⟩ = some (.int .i64 ((rd_T70 l0_2 x4_2).f5)) := (zc BK354.out 11).trans rfl; have hfz67_0 := zf BK354.out 0; have hfz67_1 := zf BK354.out 1; have hfz67_2 := zf BK354.out 2; have hfz67_3 := zf BK354.out 3; have hfz67_4 := zf BK354.out 4; have hfz67_5 := zf BK354.out 5; have hfz67_6 := zf BK354.out 6; have hfz67_7 := zf BK354.out 7; have hfz67_8 := zf BK354.out 8; have hfz67_9 := zf BK354.out 9; have hfz67_10 := zf BK354.out 10; have hfz67_11 := zf BK354.out 11) | (go_at_call 32; (with_reducible refine (uR11_Good.calls ((rd_T70 l0_2 x4_2).f4.f0) ((rd_T70 l0_2 x4_2).f4.f1) ((rd_T70 l0_2 x4_2).f4.f2) ((rd_T70 l0_2 x4_2).f4.f3) t359 _ A62.out).mono ?_); rintro e w68 ⟨rfl, hb⟩; have n0_ := ak_ (blk_below (g := gb351) (o := .cells #[.string a0_0, .int .i64 a0_1, .slice (some ad353) l0_2.length c0_2] 24 (0, 0)) (by (with_reducible repeat (first | apply zn | apply zd | apply za)); exact BK351.out) hb); have n1_ := ak_ (blk_below (g := gb354) (o := .cells #[.string ((rd_T70 l0_2 x4_2).f0), .string ((rd_T70 l0_2 x4_2).f1), .int .i64 ((rd_T70 l0_2 x4_2).f2), .int .i64 ((rd_T70 l0_2 x4_2).f3.f0), .int .i64 ((rd_T70 l0_2 x4_2).f3.f1), .int .i64 ((rd_T70 l0_2 x4_2).f3.f2), .int .i64 ((rd_T70 l0_2 x4_2).f3.f3), .int .i64 ((rd_T70 l0_2 x4_2).f4.f0), .int .i64 ((rd_T70 l0_2 x4_2).f4.f1), .int .i64 ((rd_T70 l0_2 x4_2).f4.f2), .int .i64 ((rd_T70 l0_2 x4_2).f4.f3), .int .i64 ((rd_T70 l0_2 x4_2).f5)] 70 (0, 0)) (by (with_reducible repeat (first | apply zn | apply zd | apply za)); exact BK354.out) hb); have n2_ := ak_ (ps (by with_reducible repeat first | exact HB.out | apply pa | apply pd | apply pe | refine zs ?_ GE351.out | refine zs ?_ GE354.out) hb); clear BK351 BK354 HB; have BK351 := n0_; have BK354 := n1_; have HB := n2_; clear n0_ n1_ n2_))
                   repeat (go_quiet (first | (go_at_call 32; (with_reducible refine (uR11_Good.calls ((rd_T70 l0_2 x4_2).f3.f0) ((rd_T70 l0_2 x4_2).f3.f1) ((rd_T70 l0_2 x4_2).f3.f2) ((rd_T70 l0_2 x4_2).f3.f3) true _ A60.out).mono ?_); rintro e w66 ⟨rfl, hb⟩; have n0_ := ak_ (blk_below (g := gb351) (o := .cells #[.string a0_0, .int .i64 a0_1, .slice (some ad353) l0_2.length c0_2] 24 (0, 0)) (by (with_reducible repeat (first | apply zn | apply zd | apply za)); exact BK351.out) hb); have n1_ := ak_ (blk_below (g := gb354) (o := .cells #[.string ((rd_T70 l0_2 x4_2).f0), .string ((rd_T70 l0_2 x4_2).f1), .int .i64 ((rd_T70 l0_2 x4_2).f2), .int .i64 ((rd_T70 l0_2 x4_2).f3.f0), .int .i64 ((rd_T70 l0_2 x4_2).f3.f1), .int .i64 ((rd_T70 l0_2 x4_2).f3.f2), .int .i64 ((rd_T70 l0_2 x4_2).f3.f3), .int .i64 ((rd_T70 l0_2 x4_2).f4.f0), .int .i64 ((rd_T70 l0_2 x4_2).f4.f1), .int .i64 ((rd_T70 l0_2 x4_2).f4.f2), .int .i64 ((rd_T70 l0_2 x4_2).f4.f3), .int .i64 ((rd_T70 l0_2 x4_2).f5)] 70 (0, 0)) (by (with_reducible repeat (first | apply zn | apply zd | apply za)); exact BK354.out) hb); have n2_ := ak_ (ps (by with_reducible repeat first | exact HB.out | apply pa | apply pd | apply pe | refine zs ?_ GE351.out | refine zs ?_ GE354.out) hb); clear BK351 BK354 HB; have BK351 := n0_; have BK354 := n1_; have HB := n2_; clear n0_ n1_ n2_; have hcz67_0 : w66.cell? ⟨gb354, 0, none⟩ = some (.string ((rd_T70 l0_2 x4_2).f0)) := (zc BK354.out 0).trans rfl; have hcz67_1 : w66.cell? ⟨gb354, 1, none⟩ = some (.string ((rd_T70 l0_2 x4_2).f1)) := (zc BK354.out 1).trans rfl; have hcz67_2 : w66.cell? ⟨gb354, 2, none⟩ = some (.int .i64 ((rd_T70 l0_2 x4_2).f2)) := (zc BK354.out 2).trans rfl; have hcz67_3 : w66.cell? ⟨gb354, 3, none⟩ = some (.int .i64 ((rd_T70 l0_2 x4_2).f3.f0)) := (zc BK354.out 3).trans rfl; have hcz67_4 : w66.cell? ⟨gb354, 4, none⟩ = some (.int .i64 ((rd_T70 l0_2 x4_2).f3.f1)) := (zc BK354.out 4).trans rfl; have hcz67_5 : w66.cell? ⟨gb354, 5, none⟩ = some (.int .i64 ((rd_T70 l0_2 x4_2).f3.f2)) := (zc BK354.out 5).trans rfl; have hcz67_6 : w66.cell? ⟨gb354, 6, none⟩ = some (.int .i64 ((rd_T70 l0_2 x4_2).f3.f3)) := (zc BK354.out 6).trans rfl; have hcz67_7 : w66.cell? ⟨gb354, 7, none⟩ = some (.int .i64 ((rd_T70 l0_2 x4_2).f4.f0)) := (zc BK354.out 7).trans rfl; have hcz67_8 : w66.cell? ⟨gb354, 8, none⟩ = some (.int .i64 ((rd_T70 l0_2 x4_2).f4.f1)) := (zc BK354.out 8).trans rfl; have hcz67_9 : w66.cell? ⟨gb354, 9, none⟩ = some (.int .i64 ((rd_T70 l0_2 x4_2).f4.f2)) := (zc BK354.out 9).trans rfl; have hcz67_10 : w66.cell? ⟨gb354, 10, none⟩ = some (.int .i64 ((rd_T70 l0_2 x4_2).f4.f3)) := (zc BK354.out 10).trans rfl; have hcz67_11 : w66.cell? ⟨gb354, 11, none⟩ = some (.int .i64 ((rd_T70 l0_2 x4_2).f5)) := (zc BK354.out 11).trans rfl; have hfz67_0 := zf BK354.out 0; have hfz67_1 := zf BK354.out 1; have hfz67_2 := zf BK354.out 2; have hfz67_3 := zf BK354.out 3; have hfz67_4 := zf BK354.out 4; have hfz67_5 := zf BK354.out 5; have hfz67_6 := zf BK354.out 6; have hfz67_7 := zf BK354.out 7; have hfz67_8 := zf BK354.out 8; have hfz67_9 := zf BK354.out 9; have hfz67_10 := zf BK354.out 10; have hfz67_11 := zf BK354.out 11) | (go_at_call 32; (with_reducible refine (uR11_Good.calls ((rd_T70 l0_2 x4_2).f4.f0) ((rd_T70 l0_2 x4_2).f4.f1) ((rd_T70 l0_2 x4_2).f4.f2) ((rd_T70 l0_2 x4_2).f4.f3) t359 _ A62.out).mono ?_); rintro e w68 ⟨rfl, hb⟩; have n0_ := ak_ (blk_below (g := gb351) (o := .cells #[.string a0_0, .int .i64 a0_1, .slice (some ad353) l0_2.length c0_2] 24 (0, 0)) (by (with_reducible repeat (first | apply zn | apply zd | apply za)); exact BK351.out) hb); have n1_ := ak_ (blk_below (g := gb354) (o := .cells #[.string ((rd_T70 l0_2 x4_2).f0), .string ((rd_T70 l0_2 x4_2).f1), .int .i64 ((rd_T70 l0_2 x4_2).f2), .int .i64 ((rd_T70 l0_2 x4_2).f3.f0), .int .i64 ((rd_T70 l0_2 x4_2).f3.f1), .int .i64 ((rd_T70 l0_2 x4_2).f3.f2), .int .i64 ((rd_T70 l0_2 x4_2).f3.f3), .int .i64 ((rd_T70 l0_2 x4_2).f4.f0), .int .i64 ((rd_T70 l0_2 x4_2).f4.f1), .int .i64 ((rd_T70 l0_2 x4_2).f4.f2), .int .i64 ((rd_T70 l0_2 x4_2).f4.f3), .int .i64 ((rd_T70 l0_2 x4_2).f5)] 70 (0, 0)) (by (with_reducible repeat (first | apply zn | apply zd | apply za)); exact BK354.out) hb); have n2_ := ak_ (ps (by with_reducible repeat first | exact HB.out | apply pa | apply pd | apply pe | refine zs ?_ GE351.out | refine zs ?_ GE354.out) hb); clear BK351 BK354 HB; have BK351 := n0_; have BK354 := n1_; have HB := n2_; clear n0_ n1_ n2_)); go_upto_if 93 with (first | (go_at_call 32; (with_reducible refine (uR11_Good.calls ((rd_T70 l0_2 x4_2).f3.f0) ((rd_T70 l0_2 x4_2).f3.f1) ((rd_T70 l0_2 x4_2).f3.f2) ((rd_T70 l0_2 x4_2).f3.f3) true _ A60.out).mono ?_); rintro e w66 ⟨rfl, hb⟩; have n0_ := ak_ (blk_below (g := gb351) (o := .cells #[.string a0_0, .int .i64 a0_1, .slice (some ad353) l0_2.length c0_2] 24 (0, 0)) (by (with_reducible repeat (first | apply zn | apply zd | apply za)); exact BK351.out) hb); have n1_ := ak_ (blk_below (g := gb354) (o := .cells #[.string ((rd_T70 l0_2 x4_2).f0), .string ((rd_T70 l0_2 x4_2).f1), .int .i64 ((rd_T70 l0_2 x4_2).f2), .int .i64 ((rd_T70 l0_2 x4_2).f3.f0), .int .i64 ((rd_T70 l0_2 x4_2).f3.f1), .int .i64 ((rd_T70 l0_2 x4_2).f3.f2), .int .i64 ((rd_T70 l0_2 x4_2).f3.f3), .int .i64 ((rd_T70 l0_2 x4_2).f4.f0), .int .i64 ((rd_T70 l0_2 x4_2).f4.f1), .int .i64 ((rd_T70 l0_2 x4_2).f4.f2), .int .i64 ((rd_T70 l0_2 x4_2).f4.f3), .int .i64 ((rd_T70 l0_2 x4_2).f5)] 70 (0, 0)) (by (with_reducible repeat (first | apply zn | apply zd | apply za)); exact BK354.out) hb); have n2_ := ak_ (ps (by with_reducible repeat first | exact HB.out | apply pa | apply pd | apply pe | refine zs ?_ GE351.out | refine zs ?_ GE354.out) hb); clear BK351 BK354 HB; have BK351 := n0_; have BK354 := n1_; have HB := n2_; clear n0_ n1_ n2_; have hcz67_0 : w66.cell? ⟨gb354, 0, none⟩ = some (.string ((rd_T70 l0_2 x4_2).f0)) := (zc BK354.out 0).trans rfl; have hcz67_1 : w66.cell? ⟨gb354, 1, none⟩ = some (.string ((rd_T70 l0_2 x4_2).f1)) := (zc BK354.out 1).trans rfl; have hcz67_2 : w66.cell? ⟨gb354, 2, none⟩ = some (.int .i64 ((rd_T70 l0_2 x4_2).f2)) := (zc BK354.out 2).trans rfl; have hcz67_3 : w66.cell? ⟨gb354, 3, none⟩ = some (.int .i64 ((rd_T70 l0_2 x4_2).f3.f0)) := (zc BK354.out 3).trans rfl; have hcz67_4 : w66.cell? ⟨gb354, 4, none⟩ = some (.int .i64 ((rd_T70 l0_2 x4_2).f3.f1)) := (zc BK354.out 4).trans rfl; have hcz67_5 : w66.cell? ⟨gb354, 5, none⟩ = some (.int .i64 ((rd_T70 l0_2 x4_2).f3.f2)) := (zc BK354.out 5).trans rfl; have hcz67_6 : w66.cell? ⟨gb354, 6, none⟩ = some (.int .i64 ((rd_T70 l0_2 x4_2).f3.f3)) := (zc BK354.out 6).trans rfl; have hcz67_7 : w66.cell? ⟨gb354, 7, none⟩ = some (.int .i64 ((rd_T70 l0_2 x4_2).f4.f0)) := (zc BK354.out 7).trans rfl; have hcz67_8 : w66.cell? ⟨gb354, 8, none⟩ = some (.int .i64 ((rd_T70 l0_2 x4_2).f4.f1)) := (zc BK354.out 8).trans rfl; have hcz67_9 : w66.cell? ⟨gb354, 9, none⟩ = some (.int .i64 ((rd_T70 l0_2 x4_2).f4.f2)) := (zc BK354.out 9).trans rfl; have hcz67_10 : w66.cell? ⟨gb354, 10, none⟩ = some (.int .i64 ((rd_T70 l0_2 x4_2).f4.f3)) := (zc BK354.out 10).trans rfl; have hcz67_11 : w66.cell? ⟨gb354, 11, none⟩ = some (.int .i64 ((rd_T70 l0_2 x4_2).f5)) := (zc BK354.out 11).trans rfl; have hfz67_0 := zf BK354.out 0; have hfz67_1 := zf BK354.out 1; have hfz67_2 := zf BK354.out 2; have hfz67_3 := zf BK354.out 3; have hfz67_4 := zf BK354.out 4; have hfz67_5 := zf BK354.out 5; have hfz67_6 := zf BK354.out 6; have hfz67_7 := zf BK354.out 7; have hfz67_8 := zf BK354.out 8; have hfz67_9 := zf BK354.out 9; have hfz67_10 := zf BK354.out 10; have hfz67_11 := zf BK354.out 11) | (go_at_call 32; (with_reducible refine (uR11_Good.calls ((rd_T70 l0_2 x4_2).f4.f0) ((rd_T70 l0_2 x4_2).f4.f1) ((rd_T70 l0_2 x4_2).f4.f2) ((rd_T70 l0_2 x4_2).f4.f3) t359 _ A62.out).mono ?_); rintro e w68 ⟨rfl, hb⟩; have n0_ := ak_ (blk_below (g := gb351) (o := .cells #[.string a0_0, .int .i64 a0_1, .slice (some ad353) l0_2.length c0_2] 24 (0, 0)) (by (with_reducible repeat (first | apply zn | apply zd | apply za)); exact BK351.out) hb); have n1_ := ak_ (blk_below (g := gb354) (o := .cells #[.string ((rd_T70 l0_2 x4_2).f0), .string ((rd_T70 l0_2 x4_2).f1), .int .i64 ((rd_T70 l0_2 x4_2).f2), .int .i64 ((rd_T70 l0_2 x4_2).f3.f0), .int .i64 ((rd_T70 l0_2 x4_2).f3.f1), .int .i64 ((rd_T70 l0_2 x4_2).f3.f2), .int .i64 ((rd_T70 l0_2 x4_2).f3.f3), .int .i64 ((rd_T70 l0_2 x4_2).f4.f0), .int .i64 ((rd_T70 l0_2 x4_2).f4.f1), .int .i64 ((rd_T70 l0_2 x4_2).f4.f2), .int .i64 ((rd_T70 l0_2 x4_2).f4.f3), .int .i64 ((rd_T70 l0_2 x4_2).f5)] 70 (0, 0)) (by (with_reducible repeat (first | apply zn | apply zd | apply za)); exact BK354.out) hb); have n2_ := ak_ (ps (by with_reducible repeat first | exact HB.out | apply pa | apply pd | apply pe | refine zs ?_ GE351.out | refine zs ?_ GE354.out) hb); clear BK351 BK354 HB; have BK351 := n0_; have BK354 := n1_; have HB := n2_; clear n0_ n1_ n2_)))
                   (try simp only [Act.put, sa_, sz_, ss_])
                   have H := HF63.out
                   clear HF63
                   by_cases c69 : t359 = true
                   · subst c69
                     have H1 : (uK.l0 kj45 (wrap64 (x4_2 + 1)) a0_0 a0_1 l0_2) = some (r1, r2) := by rw [if_pos rfl] at H; exact H
                     clear H
                     have H := H1
                     clear H1
                     have H' := ak_ H
                     clear H
                     go_wp2
                     repeat (go_quiet (fail); try go_wp2)
                     go_roundg kj45
                     case measure => have := HJ6.out; have := HK2.out; have := HJ22.out; have := HK4.out; have := HJ45.out; omega
                     case rel => exact ⟨(wrap64 (x4_2 + 1)), (by first | rfl | simp [*]), H', ⟨by have := HJ6.out; have := HK2.out; have := HJ22.out; have := HK4.out; have := HJ45.out; omega⟩, ⟨by (with_reducible repeat (first | apply zn | apply zd | apply za)); exact BK351.out⟩, ⟨by repeat (first | (with_reducible first | exact HB.out | apply pa | apply pd | apply pe | refine zs ?_ GE351.out | refine zs ?_ GE354.out) | exact HB.out)⟩⟩
                   replace c69 := Bool.eq_false_iff.mpr c69
                   subst c69
                   have H1 : (some (x4_2, 3)) = some (r1, r2) := by rw [if_neg (show ¬ (false = true) by decide)] at H; exact H
                   clear H
                   have H := H1
                   clear H1
                   simp only [Option.some.injEq, Prod.mk.injEq] at H
                   obtain ⟨rfl, rfl⟩ := H
                   go_wp2
                   repeat (go_quiet (fail); try go_wp2)
                   go_ret2
                   exact ⟨by first | rfl | simp [*], by repeat (first | (with_reducible first | exact HB.out | apply pa | apply pd | apply pe | refine zs ?_ GE351.out | refine zs ?_ GE354.out) | exact HB.out)⟩
                 replace c61 := Bool.eq_false_iff.mpr c61
                 subst c61
                 have H1 : (some (x4_2, 3)) = some (r1, r2) := by rw [if_neg (show ¬ (false = true) by decide)] at H; exact H
                 clear H
                 have H := H1
                 clear H1
                 simp only [Option.some.injEq, Prod.mk.injEq] at H
                 obtain ⟨rfl, rfl⟩ := H
                 have hnb70 := NB354_351.out
                 have hnc70 := NB351_354.out
                 have hcz71_0 : wc.cell? ⟨gb354, 0, none⟩ = some (.string ((rd_T70 l0_2 x4_2).f0)) := (zc BK354.out 0).trans rfl
                 have hcz71_1 : wc.cell? ⟨gb354, 1, none⟩ = some (.string ((rd_T70 l0_2 x4_2).f1)) := (zc BK354.out 1).trans rfl
                 have hcz71_2 : wc.cell? ⟨gb354, 2, none⟩ = some (.int .i64 ((rd_T70 l0_2 x4_2).f2)) := (zc BK354.out 2).trans rfl
                 have hcz71_3 : wc.cell? ⟨gb354, 3, none⟩ = some (.int .i64 ((rd_T70 l0_2 x4_2).f3.f0)) := (zc BK354.out 3).trans rfl
                 have hcz71_4 : wc.cell? ⟨gb354, 4, none⟩ = some (.int .i64 ((rd_T70 l0_2 x4_2).f3.f1)) := (zc BK354.out 4).trans rfl
                 have hcz71_5 : wc.cell? ⟨gb354, 5, none⟩ = some (.int .i64 ((rd_T70 l0_2 x4_2).f3.f2)) := (zc BK354.out 5).trans rfl
                 have hcz71_6 : wc.cell? ⟨gb354, 6, none⟩ = some (.int .i64 ((rd_T70 l0_2 x4_2).f3.f3)) := (zc BK354.out 6).trans rfl
                 have hcz71_7 : wc.cell? ⟨gb354, 7, none⟩ = some (.int .i64 ((rd_T70 l0_2 x4_2).f4.f0)) := (zc BK354.out 7).trans rfl
                 have hcz71_8 : wc.cell? ⟨gb354, 8, none⟩ = some (.int .i64 ((rd_T70 l0_2 x4_2).f4.f1)) := (zc BK354.out 8).trans rfl
                 have hcz71_9 : wc.cell? ⟨gb354, 9, none⟩ = some (.int .i64 ((rd_T70 l0_2 x4_2).f4.f2)) := (zc BK354.out 9).trans rfl
                 have hcz71_10 : wc.cell? ⟨gb354, 10, none⟩ = some (.int .i64 ((rd_T70 l0_2 x4_2).f4.f3)) := (zc BK354.out 10).trans rfl
                 have hcz71_11 : wc.cell? ⟨gb354, 11, none⟩ = some (.int .i64 ((rd_T70 l0_2 x4_2).f5)) := (zc BK354.out 11).trans rfl
                 have hfz71_0 := zf BK354.out 0
                 have hfz71_1 := zf BK354.out 1
                 have hfz71_2 := zf BK354.out 2
                 have hfz71_3 := zf BK354.out 3
                 have hfz71_4 := zf BK354.out 4
                 have hfz71_5 := zf BK354.out 5
                 have hfz71_6 := zf BK354.out 6
                 have hfz71_7 := zf BK354.out 7
                 have hfz71_8 := zf BK354.out 8
                 have hfz71_9 := zf BK354.out 9
                 have hfz71_10 := zf BK354.out 10
                 have hfz71_11 := zf BK354.out 11
                 go_wp2_with (first | (go_at_call 32; (with_reducible refine (uR11_Good.calls ((rd_T70 l0_2 x4_2).f3.f0) ((rd_T70 l0_2 x4_2).f3.f1) ((rd_T70 l0_2 x4_2).f3.f2) ((rd_T70 l0_2 x4_2).f3.f3) false _ A60.out).mono ?_); rintro e w72 ⟨rfl, hb⟩; have n0_ := ak_ (blk_below (g := gb351) (o := .cells #[.string a0_0, .int .i64 a0_1, .slice (some ad353) l0_2.length c0_2] 24 (0, 0)) (by (with_reducible repeat (first | apply zn | apply zd | apply za)); exact BK351.out) hb); have n1_ := ak_ (blk_below (g := gb354) (o := .cells #[.string ((rd_T70 l0_2 x4_2).f0), .string ((rd_T70 l0_2 x4_2).f1), .int .i64 ((rd_T70 l0_2 x4_2).f2), .int .i64 ((rd_T70 l0_2 x4_2).f3.f0), .int .i64 ((rd_T70 l0_2 x4_2).f3.f1), .int .i64 ((rd_T70 l0_2 x4_2).f3.f2), .int .i64 ((rd_T70 l0_2 x4_2).f3.f3), .int .i64 ((rd_T70 l0_2 x4_2).f4.f0), .int .i64 ((rd_T70 l0_2 x4_2).f4.f1), .int .i64 ((rd_T70 l0_2 x4_2).f4.f2), .int .i64 ((rd_T70 l0_2 x4_2).f4.f3), .int .i64 ((rd_T70 l0_2 x4_2).f5)] 70 (0, 0)) (by (with_reducible repeat (first | apply zn | apply zd | apply za)); exact BK354.out) hb); have n2_ := ak_ (ps (by with_reducible repeat first | exact HB.out | apply pa | apply pd | apply pe | refine zs ?_ GE351.out | refine zs ?_ GE354.out) hb); clear BK351 BK354 HB; have BK351 := n0_; have BK354 := n1_; have HB := n2_; clear n0_ n1_ n2_))
                 repeat (go_quiet (first | (go_at_call 32; (with_reducible refine (uR11_Good.calls ((rd_T70 l0_2 x4_2).f3.f0) ((rd_T70 l0_2 x4_2).f3.f1) ((rd_T70 l0_2 x4_2).f3.f2) ((rd_T70 l0_2 x4_2).f3.f3) false _ A60.out).mono ?_); rintro e w72 ⟨rfl, hb⟩; have n0_ := ak_ (blk_below (g := gb351) (o := .cells #[.string a0_0, .int .i64 a0_1, .slice (some ad353) l0_2.length c0_2] 24 (0, 0)) (by (with_reducible repeat (first | apply zn | apply zd | apply za)); exact BK351.out) hb); have n1_ := ak_ (blk_below (g := gb354) (o := .cells #[.string ((rd_T70 l0_2 x4_2).f0), .string ((rd_T70 l0_2 x4_2).f1), .int .i64 ((rd_T70 l0_2 x4_2).f2), .int .i64 ((rd_T70 l0_2 x4_2).f3.f0), .int .i64 ((rd_T70 l0_2 x4_2).f3.f1), .int .i64 ((rd_T70 l0_2 x4_2).f3.f2), .int .i64 ((rd_T70 l0_2 x4_2).f3.f3), .int .i64 ((rd_T70 l0_2 x4_2).f4.f0), .int .i64 ((rd_T70 l0_2 x4_2).f4.f1), .int .i64 ((rd_T70 l0_2 x4_2).f4.f2), .int .i64 ((rd_T70 l0_2 x4_2).f4.f3), .int .i64 ((rd_T70 l0_2 x4_2).f5)] 70 (0, 0)) (by (with_reducible repeat (first | apply zn | apply zd | apply za)); exact BK354.out) hb); have n2_ := ak_ (ps (by with_reducible repeat first | exact HB.out | apply pa | apply pd | apply pe | refine zs ?_ GE351.out | refine zs ?_ GE354.out) hb); clear BK351 BK354 HB; have BK351 := n0_; have BK354 := n1_; have HB := n2_; clear n0_ n1_ n2_)); try go_wp2_with (first | (go_at_call 32; (with_reducible refine (uR11_Good.calls ((rd_T70 l0_2 x4_2).f3.f0) ((rd_T70 l0_2 x4_2).f3.f1) ((rd_T70 l0_2 x4_2).f3.f2) ((rd_T70 l0_2 x4_2).f3.f3) false _ A60.out).mono ?_); rintro e w72 ⟨rfl, hb⟩; have n0_ := ak_ (blk_below (g := gb351) (o := .cells #[.string a0_0, .int .i64 a0_1, .slice (some ad353) l0_2.length c0_2] 24 (0, 0)) (by (with_reducible repeat (first | apply zn | apply zd | apply za)); exact BK351.out) hb); have n1_ := ak_ (blk_below (g := gb354) (o := .cells #[.string ((rd_T70 l0_2 x4_2).f0), .string ((rd_T70 l0_2 x4_2).f1), .int .i64 ((rd_T70 l0_2 x4_2).f2), .int .i64 ((rd_T70 l0_2 x4_2).f3.f0), .int .i64 ((rd_T70 l0_2 x4_2).f3.f1), .int .i64 ((rd_T70 l0_2 x4_2).f3.f2), .int .i64 ((rd_T70 l0_2 x4_2).f3.f3), .int .i64 ((rd_T70 l0_2 x4_2).f4.f0), .int .i64 ((rd_T70 l0_2 x4_2).f4.f1), .int .i64 ((rd_T70 l0_2 x4_2).f4.f2), .int .i64 ((rd_T70 l0_2 x4_2).f4.f3), .int .i64 ((rd_T70 l0_2 x4_2).f5)] 70 (0, 0)) (by (with_reducible repeat (first | apply zn | apply zd | apply za)); exact BK354.out) hb); have n2_ := ak_ (ps (by with_reducible repeat first | exact HB.out | apply pa | apply pd | apply pe | refine zs ?_ GE351.out | refine zs ?_ GE354.out) hb); clear BK351 BK354 HB; have BK351 := n0_; have BK354 := n1_; have HB := n2_; clear n0_ n1_ n2_)))
                 go_ret2
                 exact ⟨by first | rfl | simp [*], by repeat (first | (with_reducible first | exact HB.out | apply pa | apply pd | apply pe | refine zs ?_ GE351.out | refine zs ?_ GE354.out) | exact HB.out)⟩
         rw [if_neg c22] at H
         exact absurd H (by simp)
       rw [if_neg c21] at H
       have c21b0 : decide (x4_2 < (l0_2.length : Int)) = false := df_ c21
       clear c21
       (first | rw [c21b0] | (simp only [i64_w, i32_w]; rw [c21b0]) | skip)
       simp only [Option.some.injEq, Prod.mk.injEq] at H
       obtain ⟨rfl, rfl⟩ := H
       go_wp2
       repeat (go_quiet (fail); try go_wp2)
       go_ret2
       exact ⟨by first | rfl | simp [*], by repeat (first | (with_reducible first | exact HB.out | apply pa | apply pd | apply pe | refine zs ?_ GE351.out) | exact HB.out)⟩
 replace c6 := Bool.eq_false_iff.mpr c6
 subst c6
 have H1 : (some ((-1), 10)) = some (r1, r2) := by rw [if_neg (show ¬ (false = true) by decide)] at H; exact H
 clear H
 have H := H1
 clear H1
 simp only [Option.some.injEq, Prod.mk.injEq] at H
 obtain ⟨rfl, rfl⟩ := H
 go_wp2
 repeat (go_quiet (fail); try go_wp2)
 go_ret2
 exact ⟨by first | rfl | simp [*], by repeat (first | (with_reducible first | exact HB.out | apply pa | apply pd | apply pe | refine zs ?_ GE351.out) | exact HB.out)⟩
def chkL (l : List S70) : Nat → Nat → Int × Int
  | 0, _ => (-1, 0)
  | d + 1, i => if h : i < l.length then (if stepR l i l[i] = 0 then chkL l d (i + 1) else ((i : Int), stepR l i l[i])) else (-1, 0)
def chkD (n : ByteArray) (dl : Int) (l : List S70) : Int × Int :=
  if Utf.goodD n.data.toList = false then (-1, 10)
  else if ¬ (0 ≤ dl ∧ dl ≤ 1099511627776) then (-1, 1)
  else if l.length = 0 then (-1, 2)
  else if l.length > 32 then (-1, 4)
  else chkL l l.length 0
def NmS (m : Nat) (l : List S70) : Prop := ∀ s ∈ l, s.f0.size ≤ m ∧ s.f1.size ≤ m
theorem wr1 {a : Int} (h : 0 ≤ a) (h' : a ≤ 100000000) : wrap64 (a + 1) = a + 1 := by unfold wrap64; omega
theorem def_step_at {l : List S70} {i : Nat} (hi : i < l.length) (hl : l.length < 1000000) {m : Nat} (hm : m ≤ 140737488351232) (hn : NmS m l) : def_step.f l (i : Int) = some (stepR l i l[i]) := by
  have hs := hn _ (List.getElem_mem hi)
  unfold def_step.f
  rw [rdS_at hi, if_pos ⟨by omega, by omega, hl, by omega, by omega⟩, Int.toNat_natCast]
theorem def_check_l (l : List S70) (hl : l.length ≤ 32) {m : Nat} (hm : m ≤ 140737488351232) (hn : NmS m l) (n : ByteArray) (dl : Int) : ∀ (d i k : Nat), l.length - i ≤ d → d < k → def_Check.l0 k (l.length : Int) (i : Int) n dl l = some (chkL l d i)
  | 0, i, 0, _, h => absurd h (by omega)
  | 0, i, k + 1, h, _ => by
    rw [def_Check.l0, if_neg (by omega)]
    rfl
  | d + 1, i, 0, _, h => absurd h (by omega)
  | d + 1, i, k + 1, h, hk => by
    rw [def_Check.l0, chkL]
    by_cases hi : i < l.length
    · rw [if_pos (by omega), dif_pos hi, def_step_at hi (by omega) hm hn, bs_]
      by_cases h0 : stepR l i l[i] = 0
      · rw [if_pos h0, if_pos h0, wr1 (by omega) (by omega)]
        exact def_check_l l hl hm hn n dl d (i + 1) k (by omega) (by omega)
      · rw [if_neg h0, if_neg h0]
    · rw [if_neg (by omega), dif_neg hi]
theorem def_check_f (n : ByteArray) (dl : Int) (l : List S70) {m : Nat} (hm : m ≤ 140737488351232) (hn : NmS m l) (hz : n.size ≤ m) (k : Nat) (hk : 34 ≤ k) : def_Check.f k n dl l = some (chkD n dl l) := by
  unfold def_Check.f label_Good.f chkD
  rw [if_pos (by omega), bs_]
  cases hg : Utf.goodD n.data.toList with
  | false => rw [if_neg (by decide), if_pos rfl]
  | true =>
    rw [if_pos rfl, if_neg (c := true = false) (by decide), tick_Good_f, bs_]
    by_cases ht : 0 ≤ dl ∧ dl ≤ 1099511627776
    · rw [if_pos (dt_ ht), if_neg (not_not_intro ht)]
      by_cases h0 : l.length = 0
      · rw [if_pos (show (l.length : Int) = 0 by omega), if_pos h0]
      · rw [if_neg (show ¬ (l.length : Int) = 0 by omega), if_neg h0]
        by_cases h1 : l.length > 32
        · rw [if_pos (show (l.length : Int) > 32 by omega), if_pos h1]
        · rw [if_neg (show ¬ (l.length : Int) > 32 by omega), if_neg h1]
          exact def_check_l l (by omega) hm hn n dl l.length 0 k (by omega) (by omega)
    · rw [if_neg (show ¬ decide (0 ≤ dl ∧ dl ≤ 1099511627776) = true by rw [df_ ht]; decide), if_pos ht]
theorem plan_ref (p : S54) : uR11_Good.f p.f0 p.f1 p.f2 p.f3 = some (planP p) := by
  unfold uR11_Good.f planP
  repeat' split
  all_goals (refine congrArg some ?_; rw [Bool.eq_iff_iff]; simp only [decide_eq_true_eq, true_iff, false_iff, Bool.false_eq_true]; omega)
theorem named_eq (s : ByteArray) (x : S70) : stepNamed s x = true ↔ x.f0.toList = s.toList := by
  unfold stepNamed
  exact beq_iff_eq
theorem take_any_succ {l : List S70} (p : S70 → Bool) {j : Nat} (hj : j < l.length) : (l.take (j + 1)).any p = ((l.take j).any p || p l[j]) := by
  rw [List.take_succ_eq_append_getElem hj, List.any_append, List.any_cons, List.any_nil, Bool.or_false]
theorem ref_check_l1 (l : List S70) (hl : l.length ≤ 32) (n : ByteArray) (dl : Int) (i : Nat) (hi : i < l.length) (x : S70) (R : Option (Int × Int)) (K : Nat) (hR : ∀ k, K ≤ k → uK.l0 k ((i + 1 : Nat) : Int) n dl l = R) :
    ∀ (d j k : Nat), i - j ≤ d → j ≤ i → d + K + 4 ≤ k → (l.take j).any (stepNamed x.f0) = false →
      uK.l1 k (i : Int) (j : Int) n dl l x.f0 x.f1 x.f2 x.f3.f0 x.f3.f1 x.f3.f2 x.f3.f3 x.f4.f0 x.f4.f1 x.f4.f2 x.f4.f3 x.f5 =
        if (l.take i).any (stepNamed x.f0) = true then some ((i : Int), 6) else if numB x = true then some ((i : Int), 1) else if (planP x.f3 && planP x.f4) = false then some ((i : Int), 3) else R
  | d, j, 0, _, _, hk, _ => absurd hk (by omega)
  | d, j, k + 1, hd, hj, hk, ha => by
    rw [uK.l1]
    by_cases hji : j < i
    · rw [if_pos (by omega), if_pos (by omega), if_pos (by omega), rdS_at (by omega)]
      have hjl : j < l.length := by omega
      by_cases he : (l[j]).f0.toList = x.f0.toList
      · rw [if_pos he]
        have : (l.take i).any (stepNamed x.f0) = true := by
          refine List.any_eq_true.2 ⟨l[j], ?_, (named_eq _ _).2 he⟩
          exact List.mem_of_getElem? (i := j) (by rw [List.getElem?_take, if_pos hji, List.getElem?_eq_getElem hjl])
        rw [if_pos this]
      · rw [if_neg he, wr1 (by omega) (by omega)]
        cases d with
        | zero => omega
        | succ d =>
          refine ref_check_l1 l hl n dl i hi x R K hR d (j + 1) k (by omega) (by omega) (by omega) ?_
          rw [take_any_succ _ hjl, ha, Bool.false_or]
          cases hc : stepNamed x.f0 l[j] with
          | false => rfl
          | true => exact absurd ((named_eq _ _).1 hc) he
    · obtain rfl : j = i := by omega
      rw [if_neg (by omega), if_neg (c := (l.take j).any (stepNamed x.f0) = true) (by rw [ha]; decide)]
      have hj4 : ∀ (b : Bool), b = numB x → uK.j4 k (j : Int) b n dl l x.f0 x.f1 x.f2 x.f3.f0 x.f3.f1 x.f3.f2 x.f3.f3 x.f4.f0 x.f4.f1 x.f4.f2 x.f4.f3 x.f5 = if numB x = true then some ((j : Int), 1) else if (planP x.f3 && planP x.f4) = false then some ((j : Int), 3) else R := by
        intro b hb
        subst hb
        obtain ⟨k2, rfl⟩ : ∃ k2, k = k2 + 1 := ⟨k - 1, by omega⟩
        rw [uK.j4]
        by_cases hn : numB x = true
        · rw [if_pos hn, if_pos hn]
        · rw [if_neg hn, if_neg hn, plan_ref, bs_]
          cases h3 : planP x.f3 with
          | false => rw [if_neg (by decide), if_pos (by rfl)]
          | true =>
            rw [if_pos rfl, plan_ref, bs_]
            cases h4 : planP x.f4 with
            | false => rw [if_neg (by decide), if_pos (by rfl)]
            | true =>
              rw [if_pos rfl, if_neg (by decide), wr1 (by omega) (by omega)]
              exact hR k2 (by omega)
      have hnb : numB x = decide (x.f2 < 1 ∨ x.f2 > 1099511627776 ∨ x.f5 < 0 ∨ x.f5 > 255) := rfl
      by_cases c1 : x.f2 < 1
      · rw [if_pos c1]
        exact hj4 true (by rw [hnb, dt_ (Or.inl c1)])
      · rw [if_neg c1]
        by_cases c2 : x.f2 > 1099511627776
        · rw [if_pos c2]
          exact hj4 true (by rw [hnb, dt_ (Or.inr (Or.inl c2))])
        · rw [if_neg c2]
          by_cases c3 : x.f5 < 0
          · rw [if_pos c3]
            exact hj4 true (by rw [hnb, dt_ (Or.inr (Or.inr (Or.inl c3)))])
          · rw [if_neg c3]
            exact hj4 _ (by rw [hnb, Bool.eq_iff_iff, decide_eq_true_eq, decide_eq_true_eq]; omega)
theorem ref_check_l (l : List S70) (hl : l.length ≤ 32) {m : Nat} (hm : m ≤ 140737488351232) (hn : NmS m l) (n : ByteArray) (dl : Int) : ∀ (d i k : Nat), l.length - i ≤ d → 50 * d + 2 * m + 50 ≤ k → uK.l0 k (i : Int) n dl l = some (chkL l d i)
  | 0, i, 0, _, h => absurd h (by omega)
  | 0, i, k + 1, h, _ => by
    rw [uK.l0, if_neg (by omega)]
    rfl
  | d + 1, i, 0, _, h => absurd h (by omega)
  | d + 1, i, k + 1, h, hk => by
    rw [uK.l0, chkL]
    by_cases hi : i < l.length
    · have hs := hn _ (List.getElem_mem hi)
      rw [if_pos (by omega), if_pos (by omega), dif_pos hi, rdS_at hi, ref_good _ (by omega) k (by omega), bs_]
      generalize hx : l[i] = x at *
      have hstep : stepR l i x = stepB (Utf.goodD x.f0.data.toList) (Utf.goodD x.f1.data.toList) ((l.take i).any (stepNamed x.f0)) (numB x) (planP x.f3) (planP x.f4) := rfl
      obtain ⟨k2, rfl⟩ : ∃ k2, k = k2 + 1 := ⟨k - 1, by omega⟩
      cases g1 : Utf.goodD x.f0.data.toList with
      | false =>
        rw [if_neg (by decide), uK.j2, if_pos rfl]
        have : stepR l i x = 10 := by rw [hstep, g1]; rfl
        rw [this, if_neg (by decide)]
      | true =>
        rw [if_pos rfl, ref_good _ (by omega) (k2 + 1) (by omega), bs_, uK.j2]
        cases g2 : Utf.goodD x.f1.data.toList with
        | false =>
          rw [if_pos (by rfl)]
          have : stepR l i x = 10 := by rw [hstep, g1, g2]; rfl
          rw [this, if_neg (by decide)]
        | true =>
          rw [if_neg (by decide)]
          have h0 : ((0 : Nat) : Int) = 0 := rfl
          rw [← h0, ref_check_l1 l hl n dl i hi x (some (chkL l d (i + 1))) (50 * d + 2 * m + 50) (fun k' hk' => ref_check_l l hl hm hn n dl d (i + 1) k' (by omega) (by omega)) i 0 k2 (by omega) (by omega) (by omega) (by rfl)]
          rw [hstep, g1, g2]
          unfold stepB
          rw [if_neg (c := (true && true) = false) (by decide)]
          by_cases c1 : (l.take i).any (stepNamed x.f0) = true
          · rw [if_pos c1, if_pos c1]
            rfl
          · rw [if_neg c1, if_neg c1]
            by_cases c2 : numB x = true
            · rw [if_pos c2, if_pos c2]
              rfl
            · rw [if_neg c2, if_neg c2]
              by_cases c3 : (planP x.f3 && planP x.f4) = false
              · rw [if_pos c3, if_pos c3]
                rfl
              · rw [if_neg c3, if_neg c3]
                rfl
    · rw [if_neg (by omega), dif_neg hi]
theorem ref_check_f (n : ByteArray) (dl : Int) (l : List S70) {m : Nat} (hm : m ≤ 140737488351232) (hn : NmS m l) (hz : n.size ≤ m) (k : Nat) (hk : 2 * m + 1800 ≤ k) : uK.f k n dl l = some (chkD n dl l) := by
  unfold uK.f chkD
  rw [ref_good n (by omega) k (by omega), bs_]
  cases hg : Utf.goodD n.data.toList with
  | false => rw [if_neg (by decide), if_pos rfl]
  | true =>
    rw [if_pos rfl, if_neg (c := true = false) (by decide)]
    obtain ⟨k2, rfl⟩ : ∃ k2, k = k2 + 1 := ⟨k - 1, by omega⟩
    have hj : ∀ b : Bool, b = (!decide (0 ≤ dl ∧ dl ≤ 1099511627776)) → uK.j0 (k2 + 1) b n dl l = some (if ¬ (0 ≤ dl ∧ dl ≤ 1099511627776) then (-1, 1) else if l.length = 0 then (-1, 2) else if l.length > 32 then (-1, 4) else chkL l l.length 0) := by
      intro b hb
      rw [uK.j0]
      by_cases ht : 0 ≤ dl ∧ dl ≤ 1099511627776
      · rw [dt_ ht] at hb
        subst hb
        rw [if_neg (c := (!true) = true) (by decide), if_neg (not_not_intro ht)]
        by_cases h0 : l.length = 0
        · rw [if_pos (show (l.length : Int) < 1 by omega), if_pos h0]
        · rw [if_neg (show ¬ (l.length : Int) < 1 by omega), if_neg h0]
          by_cases h1 : l.length > 32
          · rw [if_pos (show (l.length : Int) > 32 by omega), if_pos h1]
          · rw [if_neg (show ¬ (l.length : Int) > 32 by omega), if_neg h1]
            exact ref_check_l l (by omega) hm hn n dl l.length 0 k2 (by omega) (by omega)
      · rw [df_ ht] at hb
        subst hb
        rw [if_pos (c := (!false) = true) rfl, if_pos ht]
    by_cases c1 : dl < 0
    · rw [if_pos c1]
      exact hj true (by rw [df_ (by omega)]; rfl)
    · rw [if_neg c1]
      exact hj _ (by rw [Bool.eq_iff_iff, Bool.not_eq_true', decide_eq_true_eq, decide_eq_false_iff_not]; omega)
def saga_Over.f (a0_0 : Int) (a0_1 : ByteArray) (a0_2 : Int) (a0_3 : Int) (a0_4 : Int) (a0_5 : Int) (a0_6 : Bool) (a0_7 : Int) (a0_8 : Int) : Option (Bool) := if a0_3 = 3 then (some true) else (if a0_3 = 4 then (some true) else (if a0_3 = 5 then (some true) else (some false)))
theorem saga_Over.calls (a0_0 : Int) (a0_1 : ByteArray) (a0_2 : Int) (a0_3 : Int) (a0_4 : Int) (a0_5 : Int) (a0_6 : Bool) (a0_7 : Int) (a0_8 : Int) (r : Bool) (w : World) (h : saga_Over.f a0_0 a0_1 a0_2 a0_3 a0_4 a0_5 a0_6 a0_7 a0_8 = some r) :
 Calls Tryd.prog 19 #[.agg #[.int .i64 a0_0, .string a0_1, .int .i64 a0_2, .int .i64 a0_3, .int .i64 a0_4, .int .i64 a0_5, .bool a0_6, .int .i64 a0_7, .int .i64 a0_8]] w fun e w' => e = .returned (.bool r) ∧ Below w.heap.size w w' := by
 have hu31 := Tryd.underlying31
 have HB := ak_ (Below.refl w.heap.size w)
 have H : (if a0_3 = 3 then (some true) else (if a0_3 = 4 then (some true) else (if a0_3 = 5 then (some true) else (some false)))) = some r := h
 clear h
 have HF2 := ak_ H
 clear H
 go_enter Tryd.func19, Tryd.ntmps19
 go_upto_if 5 with (first | ((with_reducible refine gate_dst (N := 1) rfl ?_); refine box_event ?hg (N := 1) ?hd (cs := #[.int .i64 a0_0, .string a0_1, .int .i64 a0_2, .int .i64 a0_3, .int .i64 a0_4, .int .i64 a0_5, .bool a0_6, .int .i64 a0_7, .int .i64 a0_8]) (t := 31) ?hr ?_; (case hd | hg => rfl); (case hr => first | (go_simp; done) | (go_simp; rfl)); intro gb118 hg w3 hbox hb; have n0_ := ak_ (below_step (by with_reducible repeat first | exact HB.out | apply below_alloc | apply pw_below_drewN | apply below_drew1) hb); have n1_ := ak_ (hbox); have n2_ := ak_ ((by rw [hg]; exact (below_size (by with_reducible repeat first | exact HB.out | apply below_alloc | apply pw_below_drewN | apply below_drew1)) : w.heap.size ≤ gb118)); have n3_ := ak_ ((by rw [hg]; exact (below_size (by with_reducible repeat first | exact HB.out | apply below_alloc | apply pw_below_drewN | apply below_drew1)) : w.heap.size ≤ gb118)); clear HB; have HB := n0_; have BK118 := n1_; have GW118 := n2_; have GE118 := n3_; clear n0_ n1_ n2_ n3_ hb hbox hg; have hcz4_0 : w3.cell? ⟨gb118, 0, none⟩ = some (.int .i64 a0_0) := (zc BK118.out 0).trans rfl; have hcz4_1 : w3.cell? ⟨gb118, 1, none⟩ = some (.string a0_1) := (zc BK118.out 1).trans rfl; have hcz4_2 : w3.cell? ⟨gb118, 2, none⟩ = some (.int .i64 a0_2) := (zc BK118.out 2).trans rfl; have hcz4_3 : w3.cell? ⟨gb118, 3, none⟩ = some (.int .i64 a0_3) := (zc BK118.out 3).trans rfl; have hcz4_4 : w3.cell? ⟨gb118, 4, none⟩ = some (.int .i64 a0_4) := (zc BK118.out 4).trans rfl; have hcz4_5 : w3.cell? ⟨gb118, 5, none⟩ = some (.int .i64 a0_5) := (zc BK118.out 5).trans rfl; have hcz4_6 : w3.cell? ⟨gb118, 6, none⟩ = some (.bool a0_6) := (zc BK118.out 6).trans rfl; have hcz4_7 : w3.cell? ⟨gb118, 7, none⟩ = some (.int .i64 a0_7) := (zc BK118.out 7).trans rfl; have hcz4_8 : w3.cell? ⟨gb118, 8, none⟩ = some (.int .i64 a0_8) := (zc BK118.out 8).trans rfl; have hfz4_0 := zf BK118.out 0; have hfz4_1 := zf BK118.out 1; have hfz4_2 := zf BK118.out 2; have hfz4_3 := zf BK118.out 3; have hfz4_4 := zf BK118.out 4; have hfz4_5 := zf BK118.out 5; have hfz4_6 := zf BK118.out 6; have hfz4_7 := zf BK118.out 7; have hfz4_8 := zf BK118.out 8))
 (try simp only [Act.put, sa_, sz_, ss_])
 have H := HF2.out
 clear HF2
 by_cases c5 : a0_3 = 3
 · rw [if_pos c5] at H
   have c5b0 : (a0_3 == 3) = true := beq_iff_eq.mpr c5
   have c5b1 : (a0_3 != 3) = false := bne_eq_false_iff_eq.mpr c5
   clear c5
   (first | rw [c5b0] | (simp only [i64_w, i32_w]; rw [c5b0]) | skip)
   obtain rfl := Option.some.inj H
   go_wp2
   go_ret
   exact ⟨by first | rfl | simp [*], by repeat (first | (with_reducible first | exact HB.out | apply below_alloc | apply pw_below_drewN | apply below_drew1 | refine below_set ?_ GE118.out) | exact HB.out)⟩
 · rw [if_neg c5] at H
   have c5b0 : (a0_3 == 3) = false := beq_eq_false_iff_ne.mpr c5
   have c5b1 : (a0_3 != 3) = true := bne_iff_ne.mpr c5
   (first | rw [c5b0] | (simp only [i64_w, i32_w]; rw [c5b0]) | skip)
   have HF6 := ak_ H
   clear H
   go_upto_if 7 with (fail)
   have H := HF6.out
   clear HF6
   by_cases c7 : a0_3 = 4
   · rw [if_pos c7] at H
     have c7b0 : (a0_3 == 4) = true := beq_iff_eq.mpr c7
     have c7b1 : (a0_3 != 4) = false := bne_eq_false_iff_eq.mpr c7
     clear c7
     (first | rw [c7b0] | (simp only [i64_w, i32_w]; rw [c7b0]) | skip)
     obtain rfl := Option.some.inj H
     go_wp2
     go_ret
     exact ⟨by first | rfl | simp [*], by repeat (first | (with_reducible first | exact HB.out | apply below_alloc | apply pw_below_drewN | apply below_drew1 | refine below_set ?_ GE118.out) | exact HB.out)⟩
   · rw [if_neg c7] at H
     have c7b0 : (a0_3 == 4) = false := beq_eq_false_iff_ne.mpr c7
     have c7b1 : (a0_3 != 4) = true := bne_iff_ne.mpr c7
     (first | rw [c7b0] | (simp only [i64_w, i32_w]; rw [c7b0]) | skip)
     have HF8 := ak_ H
     clear H
     go_upto_if 9 with (fail)
     have H := HF8.out
     clear HF8
     by_cases c9 : a0_3 = 5
     · rw [if_pos c9] at H
       have c9b0 : (a0_3 == 5) = true := beq_iff_eq.mpr c9
       have c9b1 : (a0_3 != 5) = false := bne_eq_false_iff_eq.mpr c9
       clear c9
       (first | rw [c9b0] | (simp only [i64_w, i32_w]; rw [c9b0]) | skip)
       obtain rfl := Option.some.inj H
       go_wp2
       go_ret
       exact ⟨by first | rfl | simp [*], by repeat (first | (with_reducible first | exact HB.out | apply below_alloc | apply pw_below_drewN | apply below_drew1 | refine below_set ?_ GE118.out) | exact HB.out)⟩
     · rw [if_neg c9] at H
       have c9b0 : (a0_3 == 5) = false := beq_eq_false_iff_ne.mpr c9
       have c9b1 : (a0_3 != 5) = true := bne_iff_ne.mpr c9
       (first | rw [c9b0] | (simp only [i64_w, i32_w]; rw [c9b0]) | skip)
       obtain rfl := Option.some.inj H
       go_wp2
       go_ret
       exact ⟨by first | rfl | simp [*], by repeat (first | (with_reducible first | exact HB.out | apply below_alloc | apply pw_below_drewN | apply below_drew1 | refine below_set ?_ GE118.out) | exact HB.out)⟩
end Go.Proofs.YtmfddmhomkcikaaDoor.Q
