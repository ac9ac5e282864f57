/- Part 10 of a claim's texts. -/
import Derived.Test.YtcgpbakimkhdpaaDoorPk1
namespace Go.Proofs.YtcgpbakimkhdpaaDoor.Q
open Go.RowKit Go.Proofs.YtcgpbakimkhdpaaDoorW.PrintWords Go.Proofs.YtcgpbakimkhdpaaDoorW.PrintLast Go.Proofs.YtcgpbakimkhdpaaDoorW.PrintMore
attribute [local go_sem] max2_int min2_int max_two min_two max_three min_three max_four min_four
set_option linter.unusedVariables false
set_option linter.unusedSimpArgs false
set_option maxHeartbeats 8000000
set_option maxRecDepth 100000
open Go.Proofs.YtcgpbakimkhdpaaDoor.Q.H_
mutual
def uL13_Small.j0 : Nat → Bool → ByteArray → Int → List (S61) → Option (Int)
 | 0, _, _, _, _ => none
 | k + 1, x13, x107000, x107001, x107002 => if x13 = true then (some 1) else (uL13_Small.l0 k 0 x107000 x107001 x107002)
def uL13_Small.l0 : Nat → Int → ByteArray → Int → List (S61) → Option (Int)
 | 0, _, _, _, _ => none
 | k + 1, x3, x107000, x107001, x107002 => if x3 < (x107002.length : Int) then (if 0 ≤ x3 then (if (((rT x107002 x3).f0).size : Int) > 100 then (some 2) else (if (((rT x107002 x3).f1).size : Int) > 100 then (some 2) else (uL13_Small.l0 k (wrap64 (x3 + 1)) x107000 x107001 x107002))) else (none)) else (some 0)
end
def uL13_Small.f (k : Nat) (a0_0 : ByteArray) (a0_1 : Int) (l0_2 : List (S61)) : Option (Int) := if (l0_2.length : Int) > 40 then (uL13_Small.j0 k true a0_0 a0_1 l0_2) else (uL13_Small.j0 k (decide ((a0_0.size : Int) > 100)) a0_0 a0_1 l0_2)
theorem uL13_Small.calls (k : Nat) (a0_0 : ByteArray) (a0_1 : Int) (A0_2 : Option Addr) (c0_2 : Nat) (l0_2 : List (S61)) (r : Int) (w : World) (hr0_2 : Kd.C k61 w A0_2 l0_2.length l0_2) (hc0_2 : l0_2.length ≤ c0_2) (h : uL13_Small.f k a0_0 a0_1 l0_2 = some r) :
 Calls Tryd.prog 7 #[.agg #[.string a0_0, .int .i64 a0_1, .slice A0_2 l0_2.length c0_2]] w fun e w' => e = .returned (.int .i64 r) ∧ Below w.heap.size w w' := by
 have hu24 := Tryd.underlying24
 have HR0_2 := ak_ hr0_2
 have HC0_2 := ak_ hc0_2
 clear hr0_2 hc0_2
 have HB := ak_ (Below.refl w.heap.size w)
 have H : (if (l0_2.length : Int) > 40 then (uL13_Small.j0 k true a0_0 a0_1 l0_2) else (uL13_Small.j0 k (decide ((a0_0.size : Int) > 100)) a0_0 a0_1 l0_2)) = some r := h
 clear h
 have HC2 := ak_ H
 clear H
 go_enter Tryd.func7, Tryd.ntmps7
 go_upto_region 1 with (first | ((with_reducible refine gate_dst (N := 1) rfl ?_); (try (refine gate_guard (by rfl) ?_; dsimp only)); refine box_event ?hg (N := 1) ?hd (cs := #[.string a0_0, .int .i64 a0_1, .slice A0_2 l0_2.length c0_2]) (t := 24) ?hr ?_; (case hd | hg => rfl); (case hr => first | (go_simp; done) | (go_simp; rfl)); intro gb106 hg w3 hbox hb; have n0_ := ak_ (ps (by with_reducible repeat first | exact HB.out | apply pa | apply pd | apply pe) hb); have n1_ := ak_ (hbox); have n2_ := ak_ ((by rw [hg]; exact (below_size (by with_reducible repeat first | exact HB.out | apply pa | apply pd | apply pe)) : w.heap.size ≤ gb106)); have n3_ := ak_ ((by rw [hg]; exact (below_size (by with_reducible repeat first | exact HB.out | apply pa | apply pd | apply pe)) : w.heap.size ≤ gb106)); clear HB; have HB := n0_; have BK106 := n1_; have GW106 := n2_; have GE106 := n3_; clear n0_ n1_ n2_ n3_ hb hbox hg))
 (try simp only [Act.put, sa_, sz_, ss_])
 go_cut [13] (fun v13 wc => ∃ (kq : Nat) (x13_1 : Bool), v13 = .bool x13_1 ∧ Aside0 (uL13_Small.j0 kq x13_1 a0_0 a0_1 l0_2 = some r) ∧ Aside0 (kq ≤ k) ∧ Aside0 (wc.heap[gb106]? = some (.cells #[.string a0_0, .int .i64 a0_1, (.slice A0_2 l0_2.length c0_2)] 24 (0, 0))) ∧ Aside0 (Below w.heap.size w wc))
 case first =>
  have H := HC2.out
  clear HC2
  by_cases c4 : (l0_2.length : Int) > 40
  · rw [if_pos c4] at H
    have c4b0 : decide (40 < (l0_2.length : Int)) = true := dt_ c4
    have c4b1 : decide (40 < l0_2.length) = true := dt_ (by omega)
    clear c4
    (first | rw [c4b0] | (simp only [i64_w, i32_w]; rw [c4b0]) | skip)
    have H' := ak_ H
    clear H
    have hcz5_0 : w3.cell? ⟨gb106, 0, none⟩ = some (.string a0_0) := (zc BK106.out 0).trans rfl
    have hcz5_1 : w3.cell? ⟨gb106, 1, none⟩ = some (.int .i64 a0_1) := (zc BK106.out 1).trans rfl
    have hcz5_2 : w3.cell? ⟨gb106, 2, none⟩ = some (.slice A0_2 l0_2.length c0_2) := (zc BK106.out 2).trans rfl
    have hfz5_0 := zf BK106.out 0
    have hfz5_1 := zf BK106.out 1
    have hfz5_2 := zf BK106.out 2
    go_wp2
    go_meet
    case rel => exact ⟨_, (true), (by first | rfl | simp [*]), H', ⟨by first | omega | exact Nat.le_refl _⟩, ⟨by (with_reducible repeat (first | apply zn | apply zd | apply za)); exact BK106.out⟩, ⟨by repeat (first | (with_reducible first | exact HB.out | apply pa | apply pd | apply pe | refine zs ?_ GE106.out) | exact HB.out)⟩⟩
  rw [if_neg c4] at H
  have c4b0 : decide (40 < (l0_2.length : Int)) = false := df_ c4
  have c4b1 : decide (40 < l0_2.length) = false := df_ (by omega)
  clear c4
  (first | rw [c4b0] | (simp only [i64_w, i32_w]; rw [c4b0]) | skip)
  have H' := ak_ H
  clear H
  have hcz6_0 : w3.cell? ⟨gb106, 0, none⟩ = some (.string a0_0) := (zc BK106.out 0).trans rfl
  have hcz6_1 : w3.cell? ⟨gb106, 1, none⟩ = some (.int .i64 a0_1) := (zc BK106.out 1).trans rfl
  have hcz6_2 : w3.cell? ⟨gb106, 2, none⟩ = some (.slice A0_2 l0_2.length c0_2) := (zc BK106.out 2).trans rfl
  have hfz6_0 := zf BK106.out 0
  have hfz6_1 := zf BK106.out 1
  have hfz6_2 := zf BK106.out 2
  go_wp2
  go_meet
  case rel => exact ⟨_, (decide ((a0_0.size : Int) > 100)), (by first | rfl | simp [*]), H', ⟨by first | omega | exact Nat.le_refl _⟩, ⟨by (with_reducible repeat (first | apply zn | apply zd | apply za)); exact BK106.out⟩, ⟨by repeat (first | (with_reducible first | exact HB.out | apply pa | apply pd | apply pe | refine zs ?_ GE106.out) | exact HB.out)⟩⟩
 case rest =>
  clear HC2
  try clear p2
  try clear c4
  try clear c4b0
  try clear c4b1
  try clear hcz5_0
  try clear hcz5_1
  try clear hcz5_2
  try clear hcz6_0
  try clear hcz6_1
  try clear hcz6_2
  try clear hfz5_0
  try clear hfz5_1
  try clear hfz5_2
  try clear hfz6_0
  try clear hfz6_1
  try clear hfz6_2
  obtain ⟨kq, x13_1, rfl, HA, HJ1, BK106, HB⟩ := hcut
  cases kq with
  | zero => exact absurd HA.out (by simp [uL13_Small.j0])
  | succ kj1 =>
   have H := HA.out
   clear HA
   simp only [uL13_Small.j0] at H
   have HF7 := ak_ H
   clear H
   go_upto_if 13 with (fail)
   have H := HF7.out
   clear HF7
   by_cases c8 : x13_1 = true
   · subst c8
     have H1 : (some 1) = some r := by rw [if_pos rfl] at H; exact H
     clear H
     have H := H1
     clear H1
     obtain rfl := Option.some.inj H
     go_wp2
     go_ret
     exact ⟨by first | rfl | simp [*], by repeat (first | (with_reducible first | exact HB.out | apply pa | apply pd | apply pe | refine zs ?_ GE106.out) | exact HB.out)⟩
   replace c8 := Bool.eq_false_iff.mpr c8
   subst c8
   have H1 : (uL13_Small.l0 kj1 0 a0_0 a0_1 l0_2) = some r := by rw [if_neg (show ¬ (false = true) by decide)] at H; exact H
   clear H
   have H := H1
   clear H1
   have H' := ak_ H
   clear H
   go_wp2
   go_loopg [3] kj1 (fun kq v3 w' => ∃ (x3_2 : Int), v3 = .int .i64 x3_2 ∧ Aside0 (uL13_Small.l0 kq x3_2 a0_0 a0_1 l0_2 = some r) ∧ Aside0 (kq ≤ kj1) ∧ Aside0 (w'.heap[gb106]? = some (.cells #[.string a0_0, .int .i64 a0_1, (.slice A0_2 l0_2.length c0_2)] 24 (0, 0))) ∧ Aside0 (Below w.heap.size w w'))
   case atStart => exact ⟨(0), (by first | rfl | simp [*]), H', ⟨Nat.le_refl _⟩, ⟨by (with_reducible repeat (first | apply zn | apply zd | apply za)); exact BK106.out⟩, ⟨by repeat (first | (with_reducible first | exact HB.out | apply pa | apply pd | apply pe | refine zs ?_ GE106.out) | exact HB.out)⟩⟩
   case round =>
    clear H'
    try clear p2
    try clear c4
    try clear c4b0
    try clear c4b1
    try clear c7
    try clear c8
    try clear hcz5_0
    try clear hcz5_1
    try clear hcz5_2
    try clear hcz6_0
    try clear hcz6_1
    try clear hcz6_2
    try clear hfz5_0
    try clear hfz5_1
    try clear hfz5_2
    try clear hfz6_0
    try clear hfz6_1
    try clear hfz6_2
    try clear p2
    obtain ⟨x3_2, rfl, HA, HK2, BK106, HB⟩ := hrel
    cases gk with
    | zero => exact absurd HA.out (by simp [uL13_Small.l0])
    | succ k2 =>
     have H := HA.out
     clear HA
     simp only [uL13_Small.l0] at H
     have HF9 := ak_ H
     clear H
     have hcz10_0 : wr.cell? ⟨gb106, 0, none⟩ = some (.string a0_0) := (zc BK106.out 0).trans rfl
     have hcz10_1 : wr.cell? ⟨gb106, 1, none⟩ = some (.int .i64 a0_1) := (zc BK106.out 1).trans rfl
     have hcz10_2 : wr.cell? ⟨gb106, 2, none⟩ = some (.slice A0_2 l0_2.length c0_2) := (zc BK106.out 2).trans rfl
     have hfz10_0 := zf BK106.out 0
     have hfz10_1 := zf BK106.out 1
     have hfz10_2 := zf BK106.out 2
     go_upto_if 18 with (fail)
     have H := HF9.out
     clear HF9
     by_cases c11 : x3_2 < (l0_2.length : Int)
     · rw [if_pos c11] at H
       have c11b0 : decide (x3_2 < (l0_2.length : Int)) = true := dt_ c11
       clear c11
       (first | rw [c11b0] | (simp only [i64_w, i32_w]; rw [c11b0]) | skip)
       by_cases c12 : 0 ≤ x3_2
       · rw [if_pos c12] at H
         have c12b0 : decide (0 ≤ x3_2) = true := dt_ c12
         clear c12
         by_cases c13 : (((rT l0_2 x3_2).f0).size : Int) > 100
         · rw [if_pos c13] at H
           have c13b0 : decide (100 < (((rT l0_2 x3_2).f0).size : Int)) = true := dt_ c13
           have c13b1 : decide (100 < ((rT l0_2 x3_2).f0).size) = true := dt_ (by omega)
           clear c13
           obtain rfl := Option.some.inj H
           have hcz14_0 : wr.cell? ⟨gb106, 0, none⟩ = some (.string a0_0) := (zc BK106.out 0).trans rfl
           have hcz14_1 : wr.cell? ⟨gb106, 1, none⟩ = some (.int .i64 a0_1) := (zc BK106.out 1).trans rfl
           have hcz14_2 : wr.cell? ⟨gb106, 2, none⟩ = some (.slice A0_2 l0_2.length c0_2) := (zc BK106.out 2).trans rfl
           have hfz14_0 := zf BK106.out 0
           have hfz14_1 := zf BK106.out 1
           have hfz14_2 := zf BK106.out 2
           have p107 : 0 ≤ (x3_2 : Int) := of_decide_eq_true (by assumption)
           have q107 : x3_2 < (l0_2.length : Int) := of_decide_eq_true (by assumption)
           obtain ⟨ad107, e107, hx107_0, hx107_1, hx107_2, hx107_3, hx107_4, hx107_5, hx107_6, hx107_7, hx107_8, hx107_9, hx107_10, hx107_11⟩ := at_T61 HR0_2.out x3_2 p107 q107
           cases e107
           replace hx107_0 := (HB.out.cell (bl_ w _ hx107_0)).trans hx107_0
           replace hx107_1 := (HB.out.cell (bl_ w _ hx107_1)).trans hx107_1
           replace hx107_2 := (HB.out.cell (bl_ w _ hx107_2)).trans hx107_2
           replace hx107_3 := (HB.out.cell (bl_ w _ hx107_3)).trans hx107_3
           replace hx107_4 := (HB.out.cell (bl_ w _ hx107_4)).trans hx107_4
           replace hx107_5 := (HB.out.cell (bl_ w _ hx107_5)).trans hx107_5
           replace hx107_6 := (HB.out.cell (bl_ w _ hx107_6)).trans hx107_6
           replace hx107_7 := (HB.out.cell (bl_ w _ hx107_7)).trans hx107_7
           replace hx107_8 := (HB.out.cell (bl_ w _ hx107_8)).trans hx107_8
           replace hx107_9 := (HB.out.cell (bl_ w _ hx107_9)).trans hx107_9
           replace hx107_10 := (HB.out.cell (bl_ w _ hx107_10)).trans hx107_10
           replace hx107_11 := (HB.out.cell (bl_ w _ hx107_11)).trans hx107_11
           replace p107 := eq_true p107
           replace q107 := eq_true q107
           go_wp2
           go_ret
           exact ⟨by first | rfl | simp [*], by repeat (first | (with_reducible first | exact HB.out | apply pa | apply pd | apply pe | refine zs ?_ GE106.out) | exact HB.out)⟩
         rw [if_neg c13] at H
         have c13b0 : decide (100 < (((rT l0_2 x3_2).f0).size : Int)) = false := df_ c13
         have c13b1 : decide (100 < ((rT l0_2 x3_2).f0).size) = false := df_ (by omega)
         clear c13
         have HF15 := ak_ H
         clear H
         have hcz16_0 : wr.cell? ⟨gb106, 0, none⟩ = some (.string a0_0) := (zc BK106.out 0).trans rfl
         have hcz16_1 : wr.cell? ⟨gb106, 1, none⟩ = some (.int .i64 a0_1) := (zc BK106.out 1).trans rfl
         have hcz16_2 : wr.cell? ⟨gb106, 2, none⟩ = some (.slice A0_2 l0_2.length c0_2) := (zc BK106.out 2).trans rfl
         have hfz16_0 := zf BK106.out 0
         have hfz16_1 := zf BK106.out 1
         have hfz16_2 := zf BK106.out 2
         have p107 : 0 ≤ (x3_2 : Int) := of_decide_eq_true (by assumption)
         have q107 : x3_2 < (l0_2.length : Int) := of_decide_eq_true (by assumption)
         obtain ⟨ad107, e107, hx107_0, hx107_1, hx107_2, hx107_3, hx107_4, hx107_5, hx107_6, hx107_7, hx107_8, hx107_9, hx107_10, hx107_11⟩ := at_T61 HR0_2.out x3_2 p107 q107
         cases e107
         replace hx107_0 := (HB.out.cell (bl_ w _ hx107_0)).trans hx107_0
         replace hx107_1 := (HB.out.cell (bl_ w _ hx107_1)).trans hx107_1
         replace hx107_2 := (HB.out.cell (bl_ w _ hx107_2)).trans hx107_2
         replace hx107_3 := (HB.out.cell (bl_ w _ hx107_3)).trans hx107_3
         replace hx107_4 := (HB.out.cell (bl_ w _ hx107_4)).trans hx107_4
         replace hx107_5 := (HB.out.cell (bl_ w _ hx107_5)).trans hx107_5
         replace hx107_6 := (HB.out.cell (bl_ w _ hx107_6)).trans hx107_6
         replace hx107_7 := (HB.out.cell (bl_ w _ hx107_7)).trans hx107_7
         replace hx107_8 := (HB.out.cell (bl_ w _ hx107_8)).trans hx107_8
         replace hx107_9 := (HB.out.cell (bl_ w _ hx107_9)).trans hx107_9
         replace hx107_10 := (HB.out.cell (bl_ w _ hx107_10)).trans hx107_10
         replace hx107_11 := (HB.out.cell (bl_ w _ hx107_11)).trans hx107_11
         replace p107 := eq_true p107
         replace q107 := eq_true q107
         have p108 : 0 ≤ (x3_2 : Int) := of_decide_eq_true (by assumption)
         have q108 : x3_2 < (l0_2.length : Int) := of_decide_eq_true (by assumption)
         obtain ⟨ad108, e108, hx108_0, hx108_1, hx108_2, hx108_3, hx108_4, hx108_5, hx108_6, hx108_7, hx108_8, hx108_9, hx108_10, hx108_11⟩ := at_T61 HR0_2.out x3_2 p108 q108
         obtain rfl : ad107 = ad108 := (by injection e108)
         replace hx108_0 := (HB.out.cell (bl_ w _ hx108_0)).trans hx108_0
         replace hx108_1 := (HB.out.cell (bl_ w _ hx108_1)).trans hx108_1
         replace hx108_2 := (HB.out.cell (bl_ w _ hx108_2)).trans hx108_2
         replace hx108_3 := (HB.out.cell (bl_ w _ hx108_3)).trans hx108_3
         replace hx108_4 := (HB.out.cell (bl_ w _ hx108_4)).trans hx108_4
         replace hx108_5 := (HB.out.cell (bl_ w _ hx108_5)).trans hx108_5
         replace hx108_6 := (HB.out.cell (bl_ w _ hx108_6)).trans hx108_6
         replace hx108_7 := (HB.out.cell (bl_ w _ hx108_7)).trans hx108_7
         replace hx108_8 := (HB.out.cell (bl_ w _ hx108_8)).trans hx108_8
         replace hx108_9 := (HB.out.cell (bl_ w _ hx108_9)).trans hx108_9
         replace hx108_10 := (HB.out.cell (bl_ w _ hx108_10)).trans hx108_10
         replace hx108_11 := (HB.out.cell (bl_ w _ hx108_11)).trans hx108_11
         replace p108 := eq_true p108
         replace q108 := eq_true q108
         go_upto_if 38 with (fail)
         have H := HF15.out
         clear HF15
         by_cases c17 : (((rT l0_2 x3_2).f1).size : Int) > 100
         · rw [if_pos c17] at H
           have c17b0 : decide (100 < (((rT l0_2 x3_2).f1).size : Int)) = true := dt_ c17
           have c17b1 : decide (100 < ((rT l0_2 x3_2).f1).size) = true := dt_ (by omega)
           clear c17
           (first | rw [c17b0] | (simp only [i64_w, i32_w]; rw [c17b0]) | skip)
           obtain rfl := Option.some.inj H
           go_wp2
           go_ret
           exact ⟨by first | rfl | simp [*], by repeat (first | (with_reducible first | exact HB.out | apply pa | apply pd | apply pe | refine zs ?_ GE106.out) | exact HB.out)⟩
         rw [if_neg c17] at H
         have c17b0 : decide (100 < (((rT l0_2 x3_2).f1).size : Int)) = false := df_ c17
         have c17b1 : decide (100 < ((rT l0_2 x3_2).f1).size) = false := df_ (by omega)
         clear c17
         (first | rw [c17b0] | (simp only [i64_w, i32_w]; rw [c17b0]) | skip)
         have H' := ak_ H
         clear H
         go_wp2
         go_roundg k2
         case measure => have := HJ1.out; have := HK2.out; omega
         case rel => exact ⟨(wrap64 (x3_2 + 1)), (by first | rfl | simp [*]), H', ⟨by have := HJ1.out; have := HK2.out; omega⟩, ⟨by (with_reducible repeat (first | apply zn | apply zd | apply za)); exact BK106.out⟩, ⟨by repeat (first | (with_reducible first | exact HB.out | apply pa | apply pd | apply pe | refine zs ?_ GE106.out) | exact HB.out)⟩⟩
       rw [if_neg c12] at H
       exact absurd H (by simp)
     rw [if_neg c11] at H
     have c11b0 : decide (x3_2 < (l0_2.length : Int)) = false := df_ c11
     clear c11
     (first | rw [c11b0] | (simp only [i64_w, i32_w]; rw [c11b0]) | skip)
     obtain rfl := Option.some.inj H
     go_wp2
     go_ret
     exact ⟨by first | rfl | simp [*], by repeat (first | (with_reducible first | exact HB.out | apply pa | apply pd | apply pe | refine zs ?_ GE106.out) | exact HB.out)⟩
theorem eqA59 (d : Nat) (w : World) (x0 y0 : Int) (x1 y1 : Int) (x2 y2 : Int) (x3 y3 : Int) :
 (Op.equalIn (d + 2) 59 (.agg #[.int .i64 x0, .int .i64 x1, .int .i64 x2, .int .i64 x3]) (.agg #[.int .i64 y0, .int .i64 y1, .int .i64 y2, .int .i64 y3])).run Tryd.prog w = .ok (x0 == y0 && (x1 == y1 && (x2 == y2 && (x3 == y3)))) w := by
 refine eqA_of Tryd.underlying59 (by kernel_rfl) ?_
 refine eqf_cons (by rfl) (by go_simp; rfl) (by go_simp; rfl) (by go_simp) ?_
 refine eqf_cons (by rfl) (by go_simp; rfl) (by go_simp; rfl) (by go_simp) ?_
 refine eqf_cons (by rfl) (by go_simp; rfl) (by go_simp; rfl) (by go_simp) ?_
 exact eqf_last (by rfl) (by go_simp; rfl) (by go_simp; rfl) (by go_simp)
theorem eqA61 (d : Nat) (w : World) (x0 y0 : ByteArray) (x1 y1 : ByteArray) (x2 y2 : Int) (x3 y3 : Int) (x4 y4 : Int) (x5 y5 : Int) (x6 y6 : Int) (x7 y7 : Int) (x8 y8 : Int) (x9 y9 : Int) (x10 y10 : Int) (x11 y11 : Int) :
 (Op.equalIn (d + 3) 61 (.agg #[.string x0, .string x1, .int .i64 x2, .int .i64 x3, .int .i64 x4, .int .i64 x5, .int .i64 x6, .int .i64 x7, .int .i64 x8, .int .i64 x9, .int .i64 x10, .int .i64 x11]) (.agg #[.string y0, .string y1, .int .i64 y2, .int .i64 y3, .int .i64 y4, .int .i64 y5, .int .i64 y6, .int .i64 y7, .int .i64 y8, .int .i64 y9, .int .i64 y10, .int .i64 y11])).run Tryd.prog w = .ok (x0.toList == y0.toList && (x1.toList == y1.toList && (x2 == y2 && ((x3 == y3 && (x4 == y4 && (x5 == y5 && (x6 == y6)))) && ((x7 == y7 && (x8 == y8 && (x9 == y9 && (x10 == y10)))) && (x11 == y11)))))) w := by
 refine eqA_of Tryd.underlying61 (by kernel_rfl) ?_
 refine eqf_cons (by rfl) (by go_simp; rfl) (by go_simp; rfl) (by go_simp) ?_
 refine eqf_cons (by rfl) (by go_simp; rfl) (by go_simp; rfl) (by go_simp) ?_
 refine eqf_cons (by rfl) (by go_simp; rfl) (by go_simp; rfl) (by go_simp) ?_
 refine eqf_cons (by rfl) (by go_simp) (by go_simp) (eqA59 (d + 0) w _ _ _ _ _ _ _ _) ?_
 refine eqf_cons (by rfl) (by go_simp) (by go_simp) (eqA59 (d + 0) w _ _ _ _ _ _ _ _) ?_
 exact eqf_last (by rfl) (by go_simp; rfl) (by go_simp; rfl) (by go_simp)
attribute [local go_sem high] eqA61
mutual
def uR13_Same.j0 : Nat → Bool → ByteArray → Int → List (S61) → ByteArray → Int → List (S61) → Option (Bool)
 | 0, _, _, _, _, _, _, _ => none
 | k + 1, x26, x291000, x291001, x291002, x292000, x292001, x292002 => if x26 = true then (some false) else (uR13_Same.l0 k 0 x291000 x291001 x291002 x292000 x292001 x292002)
def uR13_Same.l0 : Nat → Int → ByteArray → Int → List (S61) → ByteArray → Int → List (S61) → Option (Bool)
 | 0, _, _, _, _, _, _, _ => none
 | k + 1, x5, x291000, x291001, x291002, x292000, x292001, x292002 => if x5 < (x291002.length : Int) then (if 0 ≤ x5 then (if x5 < (x292002.length : Int) then (if (!((((rT x291002 x5).f0).toList) == (((rT x292002 x5).f0).toList)) || (!((((rT x291002 x5).f1).toList) == (((rT x292002 x5).f1).toList)) || (!(((rT x291002 x5).f2) == ((rT x292002 x5).f2)) || ((!(((rT x291002 x5).f3.f0) == ((rT x292002 x5).f3.f0)) || (!(((rT x291002 x5).f3.f1) == ((rT x292002 x5).f3.f1)) || (!(((rT x291002 x5).f3.f2) == ((rT x292002 x5).f3.f2)) || (!(((rT x291002 x5).f3.f3) == ((rT x292002 x5).f3.f3)))))) || ((!(((rT x291002 x5).f4.f0) == ((rT x292002 x5).f4.f0)) || (!(((rT x291002 x5).f4.f1) == ((rT x292002 x5).f4.f1)) || (!(((rT x291002 x5).f4.f2) == ((rT x292002 x5).f4.f2)) || (!(((rT x291002 x5).f4.f3) == ((rT x292002 x5).f4.f3)))))) || (!(((rT x291002 x5).f5) == ((rT x292002 x5).f5)))))))) = true then (some false) else (uR13_Same.l0 k (wrap64 (x5 + 1)) x291000 x291001 x291002 x292000 x292001 x292002)) else (none)) else (none)) else (some true)
end
def uR13_Same.f (k : Nat) (a0_0 : ByteArray) (a0_1 : Int) (l0_2 : List (S61)) (a1_0 : ByteArray) (a1_1 : Int) (l1_2 : List (S61)) : Option (Bool) := if a0_0.toList = a1_0.toList then (if a0_1 = a1_1 then (uR13_Same.j0 k ((l0_2.length : Int) != (l1_2.length : Int)) a0_0 a0_1 l0_2 a1_0 a1_1 l1_2) else (uR13_Same.j0 k true a0_0 a0_1 l0_2 a1_0 a1_1 l1_2)) else (uR13_Same.j0 k true a0_0 a0_1 l0_2 a1_0 a1_1 l1_2)
theorem uR13_Same.calls (k : Nat) (a0_0 : ByteArray) (a0_1 : Int) (A0_2 : Option Addr) (c0_2 : Nat) (l0_2 : List (S61)) (a1_0 : ByteArray) (a1_1 : Int) (A1_2 : Option Addr) (c1_2 : Nat) (l1_2 : List (S61)) (r : Bool) (w : World) (hr0_2 : Kd.C k61 w A0_2 l0_2.length l0_2) (hc0_2 : l0_2.length ≤ c0_2) (hr1_2 : Kd.C k61 w A1_2 l1_2.length l1_2) (hc1_2 : l1_2.length ≤ c1_2) (h : uR13_Same.f k a0_0 a0_1 l0_2 a1_0 a1_1 l1_2 = some r) :
 Calls Tryd.prog 12 #[.agg #[.string a0_0, .int .i64 a0_1, .slice A0_2 l0_2.length c0_2], .agg #[.string a1_0, .int .i64 a1_1, .slice A1_2 l1_2.length c1_2]] w fun e w' => e = .returned (.bool r) ∧ Below w.heap.size w w' := by
 have hu24 := Tryd.underlying24
 have hu61 := Tryd.underlying61
 have HR0_2 := ak_ hr0_2
 have HC0_2 := ak_ hc0_2
 clear hr0_2 hc0_2
 have HR1_2 := ak_ hr1_2
 have HC1_2 := ak_ hc1_2
 clear hr1_2 hc1_2
 have HB := ak_ (Below.refl w.heap.size w)
 have H : (if a0_0.toList = a1_0.toList then (if a0_1 = a1_1 then (uR13_Same.j0 k ((l0_2.length : Int) != (l1_2.length : Int)) a0_0 a0_1 l0_2 a1_0 a1_1 l1_2) else (uR13_Same.j0 k true a0_0 a0_1 l0_2 a1_0 a1_1 l1_2)) else (uR13_Same.j0 k true a0_0 a0_1 l0_2 a1_0 a1_1 l1_2)) = some r := h
 clear h
 have HC3 := ak_ H
 clear H
 go_enter Tryd.func12, Tryd.ntmps12
 go_upto_region 1 with (first | ((with_reducible refine gate_dst (N := 2) rfl ?_); (try (refine gate_guard (by rfl) ?_; dsimp only)); refine box_event ?hg (N := 2) ?hd (cs := #[.string a0_0, .int .i64 a0_1, .slice A0_2 l0_2.length c0_2]) (t := 24) ?hr ?_; (case hd | hg => rfl); (case hr => first | (go_simp; done) | (go_simp; rfl)); intro gb290 hg w4 hbox hb; have n0_ := ak_ (ps (by with_reducible repeat first | exact HB.out | apply pa | apply pd | apply pe) hb); have n1_ := ak_ (hbox); have n2_ := ak_ ((by rw [hg]; exact (below_size (by with_reducible repeat first | exact HB.out | apply pa | apply pd | apply pe)) : w.heap.size ≤ gb290)); have n3_ := ak_ ((by rw [hg]; exact (below_size (by with_reducible repeat first | exact HB.out | apply pa | apply pd | apply pe)) : w.heap.size ≤ gb290)); clear HB; have HB := n0_; have BK290 := n1_; have GW290 := n2_; have GE290 := n3_; clear n0_ n1_ n2_ n3_ hb hbox hg) | ((with_reducible refine gate_dst (N := 3) rfl ?_); (try (refine gate_guard (by rfl) ?_; dsimp only)); refine box_event ?hg (N := 3) ?hd (cs := #[.string a1_0, .int .i64 a1_1, .slice A1_2 l1_2.length c1_2]) (t := 24) ?hr ?_; (case hd | hg => rfl); (case hr => first | (go_simp; done) | (go_simp; rfl)); intro gb291 hg w5 hbox hb; have n0_ := ak_ (blk_below (g := gb290) (o := .cells #[.string a0_0, .int .i64 a0_1, .slice A0_2 l0_2.length c0_2] 24 (0, 0)) (by (with_reducible repeat (first | apply zn | apply zd | apply za)); exact BK290.out) hb); have n1_ := ak_ (ps (by with_reducible repeat first | exact HB.out | apply pa | apply pd | apply pe | refine zs ?_ GE290.out) hb); have n2_ := ak_ (hbox); have n3_ := ak_ ((by rw [hg]; exact (below_size (by with_reducible repeat first | exact HB.out | apply pa | apply pd | apply pe | refine zs ?_ GE290.out)) : w.heap.size ≤ gb291)); have n4_ := ak_ ((by rw [hg]; exact (below_size (by with_reducible repeat first | exact HB.out | apply pa | apply pd | apply pe | refine zs ?_ GE290.out)) : w.heap.size ≤ gb291)); have n5_ := ak_ ((by rw [hg]; exact Nat.ne_of_lt (blk_lt (g := gb290) (by (with_reducible repeat (first | apply zn | apply zd | apply za)); exact BK290.out)) : gb290 ≠ gb291)); have n6_ := ak_ ((by rw [hg]; exact Nat.ne_of_gt (blk_lt (g := gb290) (by (with_reducible repeat (first | apply zn | apply zd | apply za)); exact BK290.out)) : gb291 ≠ gb290)); clear BK290 HB; have BK290 := n0_; have HB := n1_; have BK291 := n2_; have GW291 := n3_; have GE291 := n4_; have NB290_291 := n5_; have NB291_290 := n6_; clear n0_ n1_ n2_ n3_ n4_ n5_ n6_ hb hbox hg))
 repeat (go_quiet (first | ((with_reducible refine gate_dst (N := 2) rfl ?_); (try (refine gate_guard (by rfl) ?_; dsimp only)); refine box_event ?hg (N := 2) ?hd (cs := #[.string a0_0, .int .i64 a0_1, .slice A0_2 l0_2.length c0_2]) (t := 24) ?hr ?_; (case hd | hg => rfl); (case hr => first | (go_simp; done) | (go_simp; rfl)); intro gb290 hg w4 hbox hb; have n0_ := ak_ (ps (by with_reducible repeat first | exact HB.out | apply pa | apply pd | apply pe) hb); have n1_ := ak_ (hbox); have n2_ := ak_ ((by rw [hg]; exact (below_size (by with_reducible repeat first | exact HB.out | apply pa | apply pd | apply pe)) : w.heap.size ≤ gb290)); have n3_ := ak_ ((by rw [hg]; exact (below_size (by with_reducible repeat first | exact HB.out | apply pa | apply pd | apply pe)) : w.heap.size ≤ gb290)); clear HB; have HB := n0_; have BK290 := n1_; have GW290 := n2_; have GE290 := n3_; clear n0_ n1_ n2_ n3_ hb hbox hg) | ((with_reducible refine gate_dst (N := 3) rfl ?_); (try (refine gate_guard (by rfl) ?_; dsimp only)); refine box_event ?hg (N := 3) ?hd (cs := #[.string a1_0, .int .i64 a1_1, .slice A1_2 l1_2.length c1_2]) (t := 24) ?hr ?_; (case hd | hg => rfl); (case hr => first | (go_simp; done) | (go_simp; rfl)); intro gb291 hg w5 hbox hb; have n0_ := ak_ (blk_below (g := gb290) (o := .cells #[.string a0_0, .int .i64 a0_1, .slice A0_2 l0_2.length c0_2] 24 (0, 0)) (by (with_reducible repeat (first | apply zn | apply zd | apply za)); exact BK290.out) hb); have n1_ := ak_ (ps (by with_reducible repeat first | exact HB.out | apply pa | apply pd | apply pe | refine zs ?_ GE290.out) hb); have n2_ := ak_ (hbox); have n3_ := ak_ ((by rw [hg]; exact (below_size (by with_reducible repeat first | exact HB.out | apply pa | apply pd | apply pe | refine zs ?_ GE290.out)) : w.heap.size ≤ gb291)); have n4_ := ak_ ((by rw [hg]; exact (below_size (by with_reducible repeat first | exact HB.out | apply pa | apply pd | apply pe | refine zs ?_ GE290.out)) : w.heap.size ≤ gb291)); have n5_ := ak_ ((by rw [hg]; exact Nat.ne_of_lt (blk_lt (g := gb290) (by (with_reducible repeat (first | apply zn | apply zd | apply za)); exact BK290.out)) : gb290 ≠ gb291)); have n6_ := ak_ ((by rw [hg]; exact Nat.ne_of_gt (blk_lt (g := gb290) (by (with_reducible repeat (first | apply zn | apply zd | apply za)); exact BK290.out)) : gb291 ≠ gb290)); clear BK290 HB; have BK290 := n0_; have HB := n1_; have BK291 := n2_; have GW291 := n3_; have GE291 := n4_; have NB290_291 := n5_; have NB291_290 := n6_; clear n0_ n1_ n2_ n3_ n4_ n5_ n6_ hb hbox hg)); go_upto_region 1 with (first | ((with_reducible refine gate_dst (N := 2) rfl ?_); (try (refine gate_guard (by rfl) ?_; dsimp only)); refine box_event ?hg (N := 2) ?hd (cs := #[.string a0_0, .int .i64 a0_1, .slice A0_2 l0_2.length c0_2]) (t := 24) ?hr ?_; (case hd | hg => rfl); (case hr => first | (go_simp; done) | (go_simp; rfl)); intro gb290 hg w4 hbox hb; have n0_ := ak_ (ps (by with_reducible repeat first | exact HB.out | apply pa | apply pd | apply pe) hb); have n1_ := ak_ (hbox); have n2_ := ak_ ((by rw [hg]; exact (below_size (by with_reducible repeat first | exact HB.out | apply pa | apply pd | apply pe)) : w.heap.size ≤ gb290)); have n3_ := ak_ ((by rw [hg]; exact (below_size (by with_reducible repeat first | exact HB.out | apply pa | apply pd | apply pe)) : w.heap.size ≤ gb290)); clear HB; have HB := n0_; have BK290 := n1_; have GW290 := n2_; have GE290 := n3_; clear n0_ n1_ n2_ n3_ hb hbox hg) | ((with_reducible refine gate_dst (N := 3) rfl ?_); (try (refine gate_guard (by rfl) ?_; dsimp only)); refine box_event ?hg (N := 3) ?hd (cs := #[.string a1_0, .int .i64 a1_1, .slice A1_2 l1_2.length c1_2]) (t := 24) ?hr ?_; (case hd | hg => rfl); (case hr => first | (go_simp; done) | (go_simp; rfl)); intro gb291 hg w5 hbox hb; have n0_ := ak_ (blk_below (g := gb290) (o := .cells #[.string a0_0, .int .i64 a0_1, .slice A0_2 l0_2.length c0_2] 24 (0, 0)) (by (with_reducible repeat (first | apply zn | apply zd | apply za)); exact BK290.out) hb); have n1_ := ak_ (ps (by with_reducible repeat first | exact HB.out | apply pa | apply pd | apply pe | refine zs ?_ GE290.out) hb); have n2_ := ak_ (hbox); have n3_ := ak_ ((by rw [hg]; exact (below_size (by with_reducible repeat first | exact HB.out | apply pa | apply pd | apply pe | refine zs ?_ GE290.out)) : w.heap.size ≤ gb291)); have n4_ := ak_ ((by rw [hg]; exact (below_size (by with_reducible repeat first | exact HB.out | apply pa | apply pd | apply pe | refine zs ?_ GE290.out)) : w.heap.size ≤ gb291)); have n5_ := ak_ ((by rw [hg]; exact Nat.ne_of_lt (blk_lt (g := gb290) (by (with_reducible repeat (first | apply zn | apply zd | apply za)); exact BK290.out)) : gb290 ≠ gb291)); have n6_ := ak_ ((by rw [hg]; exact Nat.ne_of_gt (blk_lt (g := gb290) (by (with_reducible repeat (first | apply zn | apply zd | apply za)); exact BK290.out)) : gb291 ≠ gb290)); clear BK290 HB; have BK290 := n0_; have HB := n1_; have BK291 := n2_; have GW291 := n3_; have GE291 := n4_; have NB290_291 := n5_; have NB291_290 := n6_; clear n0_ n1_ n2_ n3_ n4_ n5_ n6_ hb hbox hg)))
 (try simp only [Act.put, sa_, sz_, ss_])
 go_cut [26] (fun v26 wc => ∃ (kq : Nat) (x26_2 : Bool), v26 = .bool x26_2 ∧ Aside0 (uR13_Same.j0 kq x26_2 a0_0 a0_1 l0_2 a1_0 a1_1 l1_2 = some r) ∧ Aside0 (kq ≤ k) ∧ Aside0 (wc.heap[gb290]? = some (.cells #[.string a0_0, .int .i64 a0_1, (.slice A0_2 l0_2.length c0_2)] 24 (0, 0))) ∧ Aside0 (wc.heap[gb291]? = some (.cells #[.string a1_0, .int .i64 a1_1, (.slice A1_2 l1_2.length c1_2)] 24 (0, 0))) ∧ Aside0 (Below w.heap.size w wc))
 case first =>
  have H := HC3.out
  clear HC3
  by_cases c6 : a0_0.toList = a1_0.toList
  · rw [if_pos c6] at H
    have c6b0 : (a0_0.toList == a1_0.toList) = true := beq_iff_eq.mpr c6
    have c6b1 : (a0_0.toList != a1_0.toList) = false := bne_eq_false_iff_eq.mpr c6
    clear c6
    (first | rw [c6b0] | (simp only [i64_w, i32_w]; rw [c6b0]) | skip)
    by_cases c7 : a0_1 = a1_1
    · rw [if_pos c7] at H
      have c7b0 : (a0_1 == a1_1) = true := beq_iff_eq.mpr c7
      have c7b1 : (a0_1 != a1_1) = false := bne_eq_false_iff_eq.mpr c7
      clear c7
      have H' := ak_ H
      clear H
      have hnb8 := NB290_291.out
      have hnc8 := NB291_290.out
      have hcz9_0 : w5.cell? ⟨gb290, 0, none⟩ = some (.string a0_0) := (zc BK290.out 0).trans rfl
      have hcz9_1 : w5.cell? ⟨gb290, 1, none⟩ = some (.int .i64 a0_1) := (zc BK290.out 1).trans rfl
      have hcz9_2 : w5.cell? ⟨gb290, 2, none⟩ = some (.slice A0_2 l0_2.length c0_2) := (zc BK290.out 2).trans rfl
      have hfz9_0 := zf BK290.out 0
      have hfz9_1 := zf BK290.out 1
      have hfz9_2 := zf BK290.out 2
      have hcz10_0 : w5.cell? ⟨gb291, 0, none⟩ = some (.string a1_0) := (zc BK291.out 0).trans rfl
      have hcz10_1 : w5.cell? ⟨gb291, 1, none⟩ = some (.int .i64 a1_1) := (zc BK291.out 1).trans rfl
      have hcz10_2 : w5.cell? ⟨gb291, 2, none⟩ = some (.slice A1_2 l1_2.length c1_2) := (zc BK291.out 2).trans rfl
      have hfz10_0 := zf BK291.out 0
      have hfz10_1 := zf BK291.out 1
      have hfz10_2 := zf BK291.out 2
      go_wp2
      repeat (go_quiet (fail); try go_wp2)
      go_meet
      case rel => exact ⟨_, (((l0_2.length : Int) != (l1_2.length : Int))), (by first | rfl | simp [*]), H', ⟨by first | omega | exact Nat.le_refl _⟩, ⟨by (with_reducible repeat (first | apply zn | apply zd | apply za)); exact BK290.out⟩, ⟨by (with_reducible repeat (first | apply zn | apply zd | apply za)); exact BK291.out⟩, ⟨by repeat (first | (with_reducible first | exact HB.out | apply pa | apply pd | apply pe | refine zs ?_ GE290.out | refine zs ?_ GE291.out) | exact HB.out)⟩⟩
    rw [if_neg c7] at H
    have c7b0 : (a0_1 == a1_1) = false := beq_eq_false_iff_ne.mpr c7
    have c7b1 : (a0_1 != a1_1) = true := bne_iff_ne.mpr c7
    have H' := ak_ H
    clear H
    have hnb11 := NB290_291.out
    have hnc11 := NB291_290.out
    have hcz12_0 : w5.cell? ⟨gb290, 0, none⟩ = some (.string a0_0) := (zc BK290.out 0).trans rfl
    have hcz12_1 : w5.cell? ⟨gb290, 1, none⟩ = some (.int .i64 a0_1) := (zc BK290.out 1).trans rfl
    have hcz12_2 : w5.cell? ⟨gb290, 2, none⟩ = some (.slice A0_2 l0_2.length c0_2) := (zc BK290.out 2).trans rfl
    have hfz12_0 := zf BK290.out 0
    have hfz12_1 := zf BK290.out 1
    have hfz12_2 := zf BK290.out 2
    have hcz13_0 : w5.cell? ⟨gb291, 0, none⟩ = some (.string a1_0) := (zc BK291.out 0).trans rfl
    have hcz13_1 : w5.cell? ⟨gb291, 1, none⟩ = some (.int .i64 a1_1) := (zc BK291.out 1).trans rfl
    have hcz13_2 : w5.cell? ⟨gb291, 2, none⟩ = some (.slice A1_2 l1_2.length c1_2) := (zc BK291.out 2).trans rfl
    have hfz13_0 := zf BK291.out 0
    have hfz13_1 := zf BK291.out 1
    have hfz13_2 := zf BK291.out 2
    go_wp2
    repeat (go_quiet (fail); try go_wp2)
    go_meet
    case rel => exact ⟨_, (true), (by first | rfl | simp [*]), H', ⟨by first | omega | exact Nat.le_refl _⟩, ⟨by (with_reducible repeat (first | apply zn | apply zd | apply za)); exact BK290.out⟩, ⟨by (with_reducible repeat (first | apply zn | apply zd | apply za)); exact BK291.out⟩, ⟨by repeat (first | (with_reducible first | exact HB.out | apply pa | apply pd | apply pe | refine zs ?_ GE290.out | refine zs ?_ GE291.out) | exact HB.out)⟩⟩
  rw [if_neg c6] at H
  have c6b0 : (a0_0.toList == a1_0.toList) = false := beq_eq_false_iff_ne.mpr c6
  have c6b1 : (a0_0.toList != a1_0.toList) = true := bne_iff_ne.mpr c6
  (first | rw [c6b0] | (simp only [i64_w, i32_w]; rw [c6b0]) | skip)
  have H' := ak_ H
  clear H
  have hnb14 := NB290_291.out
  have hnc14 := NB291_290.out
  have hcz15_0 : w5.cell? ⟨gb290, 0, none⟩ = some (.string a0_0) := (zc BK290.out 0).trans rfl
  have hcz15_1 : w5.cell? ⟨gb290, 1, none⟩ = some (.int .i64 a0_1) := (zc BK290.out 1).trans rfl
  have hcz15_2 : w5.cell? ⟨gb290, 2, none⟩ = some (.slice A0_2 l0_2.length c0_2) := (zc BK290.out 2).trans rfl
  have hfz15_0 := zf BK290.out 0
  have hfz15_1 := zf BK290.out 1
  have hfz15_2 := zf BK290.out 2
  have hcz16_0 : w5.cell? ⟨gb291, 0, none⟩ = some (.string a1_0) := (zc BK291.out 0).trans rfl
  have hcz16_1 : w5.cell? ⟨gb291, 1, none⟩ = some (.int .i64 a1_1) := (zc BK291.out 1).trans rfl
  have hcz16_2 : w5.cell? ⟨gb291, 2, none⟩ = some (.slice A1_2 l1_2.length c1_2) := (zc BK291.out 2).trans rfl
  have hfz16_0 := zf BK291.out 0
  have hfz16_1 := zf BK291.out 1
  have hfz16_2 := zf BK291.out 2
  go_wp2
  repeat (go_quiet (fail); try go_wp2)
  go_meet
  case rel => exact ⟨_, (true), (by first | rfl | simp [*]), H', ⟨by first | omega | exact Nat.le_refl _⟩, ⟨by (with_reducible repeat (first | apply zn | apply zd | apply za)); exact BK290.out⟩, ⟨by (with_reducible repeat (first | apply zn | apply zd | apply za)); exact BK291.out⟩, ⟨by repeat (first | (with_reducible first | exact HB.out | apply pa | apply pd | apply pe | refine zs ?_ GE290.out | refine zs ?_ GE291.out) | exact HB.out)⟩⟩
 case rest =>
  clear HC3
  try clear c1
  try clear p2
  try clear c6
  try clear c6b0
  try clear c6b1
  try clear c7
  try clear c7b0
  try clear c7b1
  try clear c8
  try clear c11
  try clear c12
  try clear c14
  try clear hcz10_0
  try clear hcz10_1
  try clear hcz10_2
  try clear hcz12_0
  try clear hcz12_1
  try clear hcz12_2
  try clear hcz13_0
  try clear hcz13_1
  try clear hcz13_2
  try clear hcz15_0
  try clear hcz15_1
  try clear hcz15_2
  try clear hcz16_0
  try clear hcz16_1
  try clear hcz16_2
  try clear hcz9_0
  try clear hcz9_1
  try clear hcz9_2
  try clear hfz10_0
  try clear hfz10_1
  try clear hfz10_2
  try clear hfz12_0
  try clear hfz12_1
  try clear hfz12_2
  try clear hfz13_0
  try clear hfz13_1
  try clear hfz13_2
  try clear hfz15_0
  try clear hfz15_1
  try clear hfz15_2
  try clear hfz16_0
  try clear hfz16_1
  try clear hfz16_2
  try clear hfz9_0
  try clear hfz9_1
  try clear hfz9_2
  obtain ⟨kq, x26_2, rfl, HA, HJ2, BK290, BK291, HB⟩ := hcut
  cases kq with
  | zero => exact absurd HA.out (by simp [uR13_Same.j0])
  | succ kj2 =>
   have H := HA.out
   clear HA
   simp only [uR13_Same.j0] at H
   have HF17 := ak_ H
   clear H
   go_upto_if 26 with (fail)
   repeat (go_quiet (fail); go_upto_if 26 with (fail))
   have H := HF17.out
   clear HF17
   by_cases c18 : x26_2 = true
   · subst c18
     have H1 : (some false) = some r := by rw [if_pos rfl] at H; exact H
     clear H
     have H := H1
     clear H1
     obtain rfl := Option.some.inj H
     go_wp2
     repeat (go_quiet (fail); try go_wp2)
     go_ret
     exact ⟨by first | rfl | simp [*], by repeat (first | (with_reducible first | exact HB.out | apply pa | apply pd | apply pe | refine zs ?_ GE290.out | refine zs ?_ GE291.out) | exact HB.out)⟩
   replace c18 := Bool.eq_false_iff.mpr c18
   subst c18
   have H1 : (uR13_Same.l0 kj2 0 a0_0 a0_1 l0_2 a1_0 a1_1 l1_2) = some r := by rw [if_neg (show ¬ (false = true) by decide)] at H; exact H
   clear H
   have H := H1
   clear H1
   have H' := ak_ H
   clear H
   go_wp2
   repeat (go_quiet (fail); try go_wp2)
   go_loopg [5] kj2 (fun kq v5 w' => ∃ (x5_2 : Int), v5 = .int .i64 x5_2 ∧ Aside0 (uR13_Same.l0 kq x5_2 a0_0 a0_1 l0_2 a1_0 a1_1 l1_2 = some r) ∧ Aside0 (kq ≤ kj2) ∧ Aside0 (w'.heap[gb290]? = some (.cells #[.string a0_0, .int .i64 a0_1, (.slice A0_2 l0_2.length c0_2)] 24 (0, 0))) ∧ Aside0 (w'.heap[gb291]? = some (.cells #[.string a1_0, .int .i64 a1_1, (.slice A1_2 l1_2.length c1_2)] 24 (0, 0))) ∧ Aside0 (Below w.heap.size w w'))
   case atStart => exact ⟨(0), (by first | rfl | simp [*]), H', ⟨Nat.le_refl _⟩, ⟨by (with_reducible repeat (first | apply zn | apply zd | apply za)); exact BK290.out⟩, ⟨by (with_reducible repeat (first | apply zn | apply zd | apply za)); exact BK291.out⟩, ⟨by repeat (first | (with_reducible first | exact HB.out | apply pa | apply pd | apply pe | refine zs ?_ GE290.out | refine zs ?_ GE291.out) | exact HB.out)⟩⟩
   case round =>
    clear H'
    try clear c1
    try clear p2
    try clear c6
    try clear c6b0
    try clear c6b1
    try clear c7
    try clear c7b0
    try clear c7b1
    try clear c8
    try clear c11
    try clear c12
    try clear c14
    try clear c18
    try clear hcz10_0
    try clear hcz10_1
    try clear hcz10_2
    try clear hcz12_0
    try clear hcz12_1
    try clear hcz12_2
    try clear hcz13_0
    try clear hcz13_1
    try clear hcz13_2
    try clear hcz15_0
    try clear hcz15_1
    try clear hcz15_2
    try clear hcz16_0
    try clear hcz16_1
    try clear hcz16_2
    try clear hcz9_0
    try clear hcz9_1
    try clear hcz9_2
    try clear hfz10_0
    try clear hfz10_1
    try clear hfz10_2
    try clear hfz12_0
    try clear hfz12_1
    try clear hfz12_2
    try clear hfz13_0
    try clear hfz13_1
    try clear hfz13_2
    try clear hfz15_0
    try clear hfz15_1
    try clear hfz15_2
    try clear hfz16_0
    try clear hfz16_1
    try clear hfz16_2
    try clear hfz9_0
    try clear hfz9_1
    try clear hfz9_2
    try clear p2
    obtain ⟨x5_2, rfl, HA, HK2, BK290, BK291, HB⟩ := hrel
    cases gk with
    | zero => exact absurd HA.out (by simp [uR13_Same.l0])
    | succ k2 =>
     have H := HA.out
     clear HA
     simp only [uR13_Same.l0] at H
     have HF19 := ak_ H
     clear H
     have hnb20 := NB290_291.out
     have hnc20 := NB291_290.out
     have hcz21_0 : wr.cell? ⟨gb290, 0, none⟩ = some (.string a0_0) := (zc BK290.out 0).trans rfl
     have hcz21_1 : wr.cell? ⟨gb290, 1, none⟩ = some (.int .i64 a0_1) := (zc BK290.out 1).trans rfl
     have hcz21_2 : wr.cell? ⟨gb290, 2, none⟩ = some (.slice A0_2 l0_2.length c0_2) := (zc BK290.out 2).trans rfl
     have hfz21_0 := zf BK290.out 0
     have hfz21_1 := zf BK290.out 1
     have hfz21_2 := zf BK290.out 2
     go_upto_if 31 with (fail)
     repeat (go_quiet (fail); go_upto_if 31 with (fail))
     have H := HF19.out
     clear HF19
     by_cases c22 : x5_2 < (l0_2.length : Int)
     · rw [if_pos c22] at H
       have c22b0 : decide (x5_2 < (l0_2.length : Int)) = true := dt_ c22
       clear c22
       (first | rw [c22b0] | (simp only [i64_w, i32_w]; rw [c22b0]) | skip)
       by_cases c23 : 0 ≤ x5_2
       · rw [if_pos c23] at H
         have c23b0 : decide (0 ≤ x5_2) = true := dt_ c23
         clear c23
         by_cases c24 : x5_2 < (l1_2.length : Int)
         · rw [if_pos c24] at H
           have c24b0 : decide (x5_2 < (l1_2.length : Int)) = true := dt_ c24
           clear c24
           have HF25 := ak_ H
           clear H
           have hnb26 := NB290_291.out
           have hnc26 := NB291_290.out
           have hcz27_0 : wr.cell? ⟨gb290, 0, none⟩ = some (.string a0_0) := (zc BK290.out 0).trans rfl
           have hcz27_1 : wr.cell? ⟨gb290, 1, none⟩ = some (.int .i64 a0_1) := (zc BK290.out 1).trans rfl
           have hcz27_2 : wr.cell? ⟨gb290, 2, none⟩ = some (.slice A0_2 l0_2.length c0_2) := (zc BK290.out 2).trans rfl
           have hfz27_0 := zf BK290.out 0
           have hfz27_1 := zf BK290.out 1
           have hfz27_2 := zf BK290.out 2
           have p292 : 0 ≤ (x5_2 : Int) := of_decide_eq_true (by assumption)
           have q292 : x5_2 < (l0_2.length : Int) := of_decide_eq_true (by assumption)
           obtain ⟨ad292, e292, hx292_0, hx292_1, hx292_2, hx292_3, hx292_4, hx292_5, hx292_6, hx292_7, hx292_8, hx292_9, hx292_10, hx292_11⟩ := at_T61 HR0_2.out x5_2 p292 q292
           cases e292
           replace hx292_0 := (HB.out.cell (bl_ w _ hx292_0)).trans hx292_0
           replace hx292_1 := (HB.out.cell (bl_ w _ hx292_1)).trans hx292_1
           replace hx292_2 := (HB.out.cell (bl_ w _ hx292_2)).trans hx292_2
           replace hx292_3 := (HB.out.cell (bl_ w _ hx292_3)).trans hx292_3
           replace hx292_4 := (HB.out.cell (bl_ w _ hx292_4)).trans hx292_4
           replace hx292_5 := (HB.out.cell (bl_ w _ hx292_5)).trans hx292_5
           replace hx292_6 := (HB.out.cell (bl_ w _ hx292_6)).trans hx292_6
           replace hx292_7 := (HB.out.cell (bl_ w _ hx292_7)).trans hx292_7
           replace hx292_8 := (HB.out.cell (bl_ w _ hx292_8)).trans hx292_8
           replace hx292_9 := (HB.out.cell (bl_ w _ hx292_9)).trans hx292_9
           replace hx292_10 := (HB.out.cell (bl_ w _ hx292_10)).trans hx292_10
           replace hx292_11 := (HB.out.cell (bl_ w _ hx292_11)).trans hx292_11
           replace p292 := eq_true p292
           replace q292 := eq_true q292
           have hcz28_0 : wr.cell? ⟨gb291, 0, none⟩ = some (.string a1_0) := (zc BK291.out 0).trans rfl
           have hcz28_1 : wr.cell? ⟨gb291, 1, none⟩ = some (.int .i64 a1_1) := (zc BK291.out 1).trans rfl
           have hcz28_2 : wr.cell? ⟨gb291, 2, none⟩ = some (.slice A1_2 l1_2.length c1_2) := (zc BK291.out 2).trans rfl
           have hfz28_0 := zf BK291.out 0
           have hfz28_1 := zf BK291.out 1
           have hfz28_2 := zf BK291.out 2
           have p293 : 0 ≤ (x5_2 : Int) := of_decide_eq_true (by assumption)
           have q293 : x5_2 < (l1_2.length : Int) := of_decide_eq_true (by assumption)
           obtain ⟨ad293, e293, hx293_0, hx293_1, hx293_2, hx293_3, hx293_4, hx293_5, hx293_6, hx293_7, hx293_8, hx293_9, hx293_10, hx293_11⟩ := at_T61 HR1_2.out x5_2 p293 q293
           cases e293
           replace hx293_0 := (HB.out.cell (bl_ w _ hx293_0)).trans hx293_0
           replace hx293_1 := (HB.out.cell (bl_ w _ hx293_1)).trans hx293_1
           replace hx293_2 := (HB.out.cell (bl_ w _ hx293_2)).trans hx293_2
           replace hx293_3 := (HB.out.cell (bl_ w _ hx293_3)).trans hx293_3
           replace hx293_4 := (HB.out.cell (bl_ w _ hx293_4)).trans hx293_4
           replace hx293_5 := (HB.out.cell (bl_ w _ hx293_5)).trans hx293_5
           replace hx293_6 := (HB.out.cell (bl_ w _ hx293_6)).trans hx293_6
           replace hx293_7 := (HB.out.cell (bl_ w _ hx293_7)).trans hx293_7
           replace hx293_8 := (HB.out.cell (bl_ w _ hx293_8)).trans hx293_8
           replace hx293_9 := (HB.out.cell (bl_ w _ hx293_9)).trans hx293_9
           replace hx293_10 := (HB.out.cell (bl_ w _ hx293_10)).trans hx293_10
           replace hx293_11 := (HB.out.cell (bl_ w _ hx293_11)).trans hx293_11
           replace p293 := eq_true p293
           replace q293 := eq_true q293
           go_upto_if 44 with (fail)
           repeat (go_quiet (fail); go_upto_if 44 with (fail))
           have H := HF25.out
           clear HF25
           by_cases c29 : (!((((rT l0_2 x5_2).f0).toList) == (((rT l1_2 x5_2).f0).toList)) || (!((((rT l0_2 x5_2).f1).toList) == (((rT l1_2 x5_2).f1).toList)) || (!(((rT l0_2 x5_2).f2) == ((rT l1_2 x5_2).f2)) || ((!(((rT l0_2 x5_2).f3.f0) == ((rT l1_2 x5_2).f3.f0)) || (!(((rT l0_2 x5_2).f3.f1) == ((rT l1_2 x5_2).f3.f1)) || (!(((rT l0_2 x5_2).f3.f2) == ((rT l1_2 x5_2).f3.f2)) || (!(((rT l0_2 x5_2).f3.f3) == ((rT l1_2 x5_2).f3.f3)))))) || ((!(((rT l0_2 x5_2).f4.f0) == ((rT l1_2 x5_2).f4.f0)) || (!(((rT l0_2 x5_2).f4.f1) == ((rT l1_2 x5_2).f4.f1)) || (!(((rT l0_2 x5_2).f4.f2) == ((rT l1_2 x5_2).f4.f2)) || (!(((rT l0_2 x5_2).f4.f3) == ((rT l1_2 x5_2).f4.f3)))))) || (!(((rT l0_2 x5_2).f5) == ((rT l1_2 x5_2).f5)))))))) = true
           · rw [if_pos c29] at H
             have c29b0 : (!((((rT l0_2 x5_2).f0).toList) == (((rT l1_2 x5_2).f0).toList)) || (!((((rT l0_2 x5_2).f1).toList) == (((rT l1_2 x5_2).f1).toList)) || (!(((rT l0_2 x5_2).f2) == ((rT l1_2 x5_2).f2)) || ((!(((rT l0_2 x5_2).f3.f0) == ((rT l1_2 x5_2).f3.f0)) || (!(((rT l0_2 x5_2).f3.f1) == ((rT l1_2 x5_2).f3.f1)) || (!(((rT l0_2 x5_2).f3.f2) == ((rT l1_2 x5_2).f3.f2)) || (!(((rT l0_2 x5_2).f3.f3) == ((rT l1_2 x5_2).f3.f3)))))) || ((!(((rT l0_2 x5_2).f4.f0) == ((rT l1_2 x5_2).f4.f0)) || (!(((rT l0_2 x5_2).f4.f1) == ((rT l1_2 x5_2).f4.f1)) || (!(((rT l0_2 x5_2).f4.f2) == ((rT l1_2 x5_2).f4.f2)) || (!(((rT l0_2 x5_2).f4.f3) == ((rT l1_2 x5_2).f4.f3)))))) || (!(((rT l0_2 x5_2).f5) == ((rT l1_2 x5_2).f5)))))))) = true := c29
             clear c29
             (first | rw [c29b0] | (simp only [i64_w, i32_w]; rw [c29b0]) | skip)
             obtain rfl := Option.some.inj H
             go_wp2
             repeat (go_quiet (fail); try go_wp2)
             go_ret
             exact ⟨by first | rfl | simp [*], by repeat (first | (with_reducible first | exact HB.out | apply pa | apply pd | apply pe | refine zs ?_ GE290.out | refine zs ?_ GE291.out) | exact HB.out)⟩
           rw [if_neg c29] at H
           have c29b0 : (!((((rT l0_2 x5_2).f0).toList) == (((rT l1_2 x5_2).f0).toList)) || (!((((rT l0_2 x5_2).f1).toList) == (((rT l1_2 x5_2).f1).toList)) || (!(((rT l0_2 x5_2).f2) == ((rT l1_2 x5_2).f2)) || ((!(((rT l0_2 x5_2).f3.f0) == ((rT l1_2 x5_2).f3.f0)) || (!(((rT l0_2 x5_2).f3.f1) == ((rT l1_2 x5_2).f3.f1)) || (!(((rT l0_2 x5_2).f3.f2) == ((rT l1_2 x5_2).f3.f2)) || (!(((rT l0_2 x5_2).f3.f3) == ((rT l1_2 x5_2).f3.f3)))))) || ((!(((rT l0_2 x5_2).f4.f0) == ((rT l1_2 x5_2).f4.f0)) || (!(((rT l0_2 x5_2).f4.f1) == ((rT l1_2 x5_2).f4.f1)) || (!(((rT l0_2 x5_2).f4.f2) == ((rT l1_2 x5_2).f4.f2)) || (!(((rT l0_2 x5_2).f4.f3) == ((rT l1_2 x5_2).f4.f3)))))) || (!(((rT l0_2 x5_2).f5) == ((rT l1_2 x5_2).f5)))))))) = false := by simpa using c29
           clear c29
           (first | rw [c29b0] | (simp only [i64_w, i32_w]; rw [c29b0]) | skip)
           have H' := ak_ H
           clear H
           go_wp2
           repeat (go_quiet (fail); try go_wp2)
           go_roundg k2
           case measure => have := HJ2.out; have := HK2.out; omega
           case rel => exact ⟨(wrap64 (x5_2 + 1)), (by first | rfl | simp [*]), H', ⟨by have := HJ2.out; have := HK2.out; omega⟩, ⟨by (with_reducible repeat (first | apply zn | apply zd | apply za)); exact BK290.out⟩, ⟨by (with_reducible repeat (first | apply zn | apply zd | apply za)); exact BK291.out⟩, ⟨by repeat (first | (with_reducible first | exact HB.out | apply pa | apply pd | apply pe | refine zs ?_ GE290.out | refine zs ?_ GE291.out) | exact HB.out)⟩⟩
         rw [if_neg c24] at H
         exact absurd H (by simp)
       rw [if_neg c23] at H
       exact absurd H (by simp)
     rw [if_neg c22] at H
     have c22b0 : decide (x5_2 < (l0_2.length : Int)) = false := df_ c22
     clear c22
     (first | rw [c22b0] | (simp only [i64_w, i32_w]; rw [c22b0]) | skip)
     obtain rfl := Option.some.inj H
     go_wp2
     repeat (go_quiet (fail); try go_wp2)
     go_ret
     exact ⟨by first | rfl | simp [*], by repeat (first | (with_reducible first | exact HB.out | apply pa | apply pd | apply pe | refine zs ?_ GE290.out | refine zs ?_ GE291.out) | exact HB.out)⟩
end Go.Proofs.YtcgpbakimkhdpaaDoor.Q
