/- Part 6 of a claim's texts. -/
import Derived.Test.YtcgpbakimkhdpaaDoorPk1
import Derived.Test.YtcgpbakimkhdpaaDoorPk5
import Derived.Test.YtcgpbakimkhdpaaDoorPk2
import Derived.Test.YtcgpbakimkhdpaaDoorPk3
namespace Go.Proofs.YtcgpbakimkhdpaaDoor.Q
open Go.RowKit Go.Proofs.YtcgpbakimkhdpaaDoorW.PrintWords Go.Proofs.YtcgpbakimkhdpaaDoorW.PrintLast Go.Proofs.YtcgpbakimkhdpaaDoorW.PrintMore
attribute [local go_sem] max2_int min2_int max_two min_two max_three min_three max_four min_four
set_option linter.unusedVariables false
set_option linter.unusedSimpArgs false
set_option maxHeartbeats 8000000
set_option maxRecDepth 100000
open Go.Proofs.YtcgpbakimkhdpaaDoor.Q.H_
attribute [local go_sem high] eqA40
mutual
def code_Good.j0 : Nat → Bool → Int → Int → Int → ByteArray → Int → Int → Bool → Int → Bool → ByteArray → Int → List (S61) → Option (Bool)
 | 0, _, _, _, _, _, _, _, _, _, _, _, _, _ => none
 | k + 1, x23, x334000, x334001, x334002, x334003, x334004, x334005, x334006, x334007, x334008, x334009, x334010, x334011 => if x23 = true then (some false) else (if x334000 = 3 then (if x334000 = 1 then (if x334000 = 0 then (code_Good.j1 k false x334000 x334001 x334002 x334003 x334004 x334005 x334006 x334007 x334008 x334009 x334010 x334011) else ((code_empty.f x334009 x334010 x334011).bind fun t335 => (code_Good.j1 k (!t335) x334000 x334001 x334002 x334003 x334004 x334005 x334006 x334007 x334008 x334009 x334010 x334011))) else (if x334003.toList = ([] : List UInt8) then (if x334000 = 0 then (code_Good.j1 k false x334000 x334001 x334002 x334003 x334004 x334005 x334006 x334007 x334008 x334009 x334010 x334011) else ((code_empty.f x334009 x334010 x334011).bind fun t336 => (code_Good.j1 k (!t336) x334000 x334001 x334002 x334003 x334004 x334005 x334006 x334007 x334008 x334009 x334010 x334011))) else (code_Good.j1 k true x334000 x334001 x334002 x334003 x334004 x334005 x334006 x334007 x334008 x334009 x334010 x334011))) else (if (!(x334004 == 0) || (!(x334005 == 0) || (x334006 || (!(x334007 == 0) || (x334008))))) = true then (code_Good.j1 k true x334000 x334001 x334002 x334003 x334004 x334005 x334006 x334007 x334008 x334009 x334010 x334011) else (if x334000 = 1 then (if x334000 = 0 then (code_Good.j1 k false x334000 x334001 x334002 x334003 x334004 x334005 x334006 x334007 x334008 x334009 x334010 x334011) else ((code_empty.f x334009 x334010 x334011).bind fun t337 => (code_Good.j1 k (!t337) x334000 x334001 x334002 x334003 x334004 x334005 x334006 x334007 x334008 x334009 x334010 x334011))) else (if x334003.toList = ([] : List UInt8) then (if x334000 = 0 then (code_Good.j1 k false x334000 x334001 x334002 x334003 x334004 x334005 x334006 x334007 x334008 x334009 x334010 x334011) else ((code_empty.f x334009 x334010 x334011).bind fun t338 => (code_Good.j1 k (!t338) x334000 x334001 x334002 x334003 x334004 x334005 x334006 x334007 x334008 x334009 x334010 x334011))) else (code_Good.j1 k true x334000 x334001 x334002 x334003 x334004 x334005 x334006 x334007 x334008 x334009 x334010 x334011)))))
def code_Good.j1 : Nat → Bool → Int → Int → Int → ByteArray → Int → Int → Bool → Int → Bool → ByteArray → Int → List (S61) → Option (Bool)
 | 0, _, _, _, _, _, _, _, _, _, _, _, _, _ => none
 | k + 1, x53, x334000, x334001, x334002, x334003, x334004, x334005, x334006, x334007, x334008, x334009, x334010, x334011 => if x53 = true then (some false) else (if x334000 = 0 then ((def_Check.f k x334009 x334010 x334011).bind fun bt339 => (if bt339.2 = 0 then (some (x334002 == 0)) else (some false))) else (if x334000 = 1 then ((label_Good.f x334003).bind fun t341 => (some t341)) else (if x334000 = 3 then (if x334004 ≥ 0 then (if x334005 ≥ 0 then (some (decide (x334007 ≥ 0))) else (some false)) else (some false)) else (some true))))
end
def code_Good.f (k : Nat) (a0_0 : Int) (a0_1 : Int) (a0_2 : Int) (a0_3 : ByteArray) (a0_4 : Int) (a0_5 : Int) (a0_6 : Bool) (a0_7 : Int) (a0_8 : Bool) (a0_9 : ByteArray) (a0_10 : Int) (l0_11 : List (S61)) : Option (Bool) := if a0_0 < 0 then (code_Good.j0 k true a0_0 a0_1 a0_2 a0_3 a0_4 a0_5 a0_6 a0_7 a0_8 a0_9 a0_10 l0_11) else (if a0_0 > 10 then (code_Good.j0 k true a0_0 a0_1 a0_2 a0_3 a0_4 a0_5 a0_6 a0_7 a0_8 a0_9 a0_10 l0_11) else ((tick_Good.f a0_1).bind fun t334 => (if t334 = true then (code_Good.j0 k (decide (a0_2 < 0)) a0_0 a0_1 a0_2 a0_3 a0_4 a0_5 a0_6 a0_7 a0_8 a0_9 a0_10 l0_11) else (code_Good.j0 k true a0_0 a0_1 a0_2 a0_3 a0_4 a0_5 a0_6 a0_7 a0_8 a0_9 a0_10 l0_11))))
theorem code_Good.calls (k : Nat) (a0_0 : Int) (a0_1 : Int) (a0_2 : Int) (a0_3 : ByteArray) (a0_4 : Int) (a0_5 : Int) (a0_6 : Bool) (a0_7 : Int) (a0_8 : Bool) (a0_9 : ByteArray) (a0_10 : Int) (A0_11 : Option Addr) (c0_11 : Nat) (l0_11 : List (S61)) (r : Bool) (w : World) (hr0_11 : Kd.C k61 w A0_11 l0_11.length l0_11) (hc0_11 : l0_11.length ≤ c0_11) (hTab_ : Tabs_ w) (h : code_Good.f k a0_0 a0_1 a0_2 a0_3 a0_4 a0_5 a0_6 a0_7 a0_8 a0_9 a0_10 l0_11 = some r) :
 Calls Tryd.prog 17 #[.agg #[.int .i64 a0_0, .int .i64 a0_1, .int .i64 a0_2, .string a0_3, .int .i64 a0_4, .int .i64 a0_5, .bool a0_6, .int .i64 a0_7, .bool a0_8, .string a0_9, .int .i64 a0_10, .slice A0_11 l0_11.length c0_11]] w fun e w' => e = .returned (.bool r) ∧ Below w.heap.size w w' := by
 have HT := ak_ hTab_
 clear hTab_
 have hu42 := Tryd.underlying42
 have hu40 := Tryd.underlying40
 have hu24 := Tryd.underlying24
 have HR0_11 := ak_ hr0_11
 have HC0_11 := ak_ hc0_11
 clear hr0_11 hc0_11
 have HB := ak_ (Below.refl w.heap.size w)
 have H : (if a0_0 < 0 then (code_Good.j0 k true a0_0 a0_1 a0_2 a0_3 a0_4 a0_5 a0_6 a0_7 a0_8 a0_9 a0_10 l0_11) else (if a0_0 > 10 then (code_Good.j0 k true a0_0 a0_1 a0_2 a0_3 a0_4 a0_5 a0_6 a0_7 a0_8 a0_9 a0_10 l0_11) else ((tick_Good.f a0_1).bind fun t334 => (if t334 = true then (code_Good.j0 k (decide (a0_2 < 0)) a0_0 a0_1 a0_2 a0_3 a0_4 a0_5 a0_6 a0_7 a0_8 a0_9 a0_10 l0_11) else (code_Good.j0 k true a0_0 a0_1 a0_2 a0_3 a0_4 a0_5 a0_6 a0_7 a0_8 a0_9 a0_10 l0_11))))) = some r := h
 clear h
 have HC2 := ak_ H
 clear H
 go_enter Tryd.func17, Tryd.ntmps17
 go_upto_region 1 with (first | ((with_reducible refine gate_dst (N := 1) rfl ?_); refine box_event ?hg (N := 1) ?hd (cs := #[.int .i64 a0_0, .int .i64 a0_1, .int .i64 a0_2, .string a0_3, .int .i64 a0_4, .int .i64 a0_5, .bool a0_6, .int .i64 a0_7, .bool a0_8, .string a0_9, .int .i64 a0_10, .slice A0_11 l0_11.length c0_11]) (t := 42) ?hr ?_; (case hd | hg => rfl); (case hr => first | (go_simp; done) | (go_simp; rfl)); intro gb333 hg w3 hbox hb; have n0_ := ak_ (ps (by with_reducible repeat first | exact HB.out | apply pa | apply pd | apply pe) hb); have n1_ := ak_ (hbox); have n2_ := ak_ ((by rw [hg]; exact (below_size (by with_reducible repeat first | exact HB.out | apply pa | apply pd | apply pe)) : w.heap.size ≤ gb333)); have n3_ := ak_ ((by rw [hg]; exact (below_size (by with_reducible repeat first | exact HB.out | apply pa | apply pd | apply pe)) : w.heap.size ≤ gb333)); clear HB; have HB := n0_; have BK333 := n1_; have GW333 := n2_; have GE333 := n3_; clear n0_ n1_ n2_ n3_ hb hbox hg))
 (try simp only [Act.put, sa_, sz_, ss_])
 go_cut [23] (fun v23 wc => ∃ (kq : Nat) (x23_1 : Bool), v23 = .bool x23_1 ∧ Aside0 (code_Good.j0 kq x23_1 a0_0 a0_1 a0_2 a0_3 a0_4 a0_5 a0_6 a0_7 a0_8 a0_9 a0_10 l0_11 = some r) ∧ Aside0 (kq ≤ k) ∧ Aside0 (wc.heap[gb333]? = some (.cells #[.int .i64 a0_0, .int .i64 a0_1, .int .i64 a0_2, .string a0_3, .int .i64 a0_4, .int .i64 a0_5, .bool a0_6, .int .i64 a0_7, .bool a0_8, .string a0_9, .int .i64 a0_10, (.slice A0_11 l0_11.length c0_11)] 42 (0, 0))) ∧ Aside0 (Below w.heap.size w wc))
 case first =>
  have H := HC2.out
  clear HC2
  by_cases c4 : a0_0 < 0
  · rw [if_pos c4] at H
    have c4b0 : decide (a0_0 < 0) = true := dt_ c4
    clear c4
    (first | rw [c4b0] | (simp only [i64_w, i32_w]; rw [c4b0]) | skip)
    have H' := ak_ H
    clear H
    have hcz5_0 : w3.cell? ⟨gb333, 0, none⟩ = some (.int .i64 a0_0) := (zc BK333.out 0).trans rfl
    have hcz5_1 : w3.cell? ⟨gb333, 1, none⟩ = some (.int .i64 a0_1) := (zc BK333.out 1).trans rfl
    have hcz5_2 : w3.cell? ⟨gb333, 2, none⟩ = some (.int .i64 a0_2) := (zc BK333.out 2).trans rfl
    have hcz5_3 : w3.cell? ⟨gb333, 3, none⟩ = some (.string a0_3) := (zc BK333.out 3).trans rfl
    have hcz5_4 : w3.cell? ⟨gb333, 4, none⟩ = some (.int .i64 a0_4) := (zc BK333.out 4).trans rfl
    have hcz5_5 : w3.cell? ⟨gb333, 5, none⟩ = some (.int .i64 a0_5) := (zc BK333.out 5).trans rfl
    have hcz5_6 : w3.cell? ⟨gb333, 6, none⟩ = some (.bool a0_6) := (zc BK333.out 6).trans rfl
    have hcz5_7 : w3.cell? ⟨gb333, 7, none⟩ = some (.int .i64 a0_7) := (zc BK333.out 7).trans rfl
    have hcz5_8 : w3.cell? ⟨gb333, 8, none⟩ = some (.bool a0_8) := (zc BK333.out 8).trans rfl
    have hcz5_9 : w3.cell? ⟨gb333, 9, none⟩ = some (.string a0_9) := (zc BK333.out 9).trans rfl
    have hcz5_10 : w3.cell? ⟨gb333, 10, none⟩ = some (.int .i64 a0_10) := (zc BK333.out 10).trans rfl
    have hcz5_11 : w3.cell? ⟨gb333, 11, none⟩ = some (.slice A0_11 l0_11.length c0_11) := (zc BK333.out 11).trans rfl
    have hfz5_0 := zf BK333.out 0
    have hfz5_1 := zf BK333.out 1
    have hfz5_2 := zf BK333.out 2
    have hfz5_3 := zf BK333.out 3
    have hfz5_4 := zf BK333.out 4
    have hfz5_5 := zf BK333.out 5
    have hfz5_6 := zf BK333.out 6
    have hfz5_7 := zf BK333.out 7
    have hfz5_8 := zf BK333.out 8
    have hfz5_9 := zf BK333.out 9
    have hfz5_10 := zf BK333.out 10
    have hfz5_11 := zf BK333.out 11
    go_wp2
    go_meet
    case rel => exact ⟨_, (true), (by first | rfl | simp [*]), H', ⟨by first | omega | exact Nat.le_refl _⟩, ⟨by (with_reducible repeat (first | apply zn | apply zd | apply za)); exact BK333.out⟩, ⟨by repeat (first | (with_reducible first | exact HB.out | apply pa | apply pd | apply pe | refine zs ?_ GE333.out) | exact HB.out)⟩⟩
  rw [if_neg c4] at H
  have c4b0 : decide (a0_0 < 0) = false := df_ c4
  clear c4
  (first | rw [c4b0] | (simp only [i64_w, i32_w]; rw [c4b0]) | skip)
  by_cases c6 : a0_0 > 10
  · rw [if_pos c6] at H
    have c6b0 : decide (10 < a0_0) = true := dt_ c6
    clear c6
    have H' := ak_ H
    clear H
    have hcz7_0 : w3.cell? ⟨gb333, 0, none⟩ = some (.int .i64 a0_0) := (zc BK333.out 0).trans rfl
    have hcz7_1 : w3.cell? ⟨gb333, 1, none⟩ = some (.int .i64 a0_1) := (zc BK333.out 1).trans rfl
    have hcz7_2 : w3.cell? ⟨gb333, 2, none⟩ = some (.int .i64 a0_2) := (zc BK333.out 2).trans rfl
    have hcz7_3 : w3.cell? ⟨gb333, 3, none⟩ = some (.string a0_3) := (zc BK333.out 3).trans rfl
    have hcz7_4 : w3.cell? ⟨gb333, 4, none⟩ = some (.int .i64 a0_4) := (zc BK333.out 4).trans rfl
    have hcz7_5 : w3.cell? ⟨gb333, 5, none⟩ = some (.int .i64 a0_5) := (zc BK333.out 5).trans rfl
    have hcz7_6 : w3.cell? ⟨gb333, 6, none⟩ = some (.bool a0_6) := (zc BK333.out 6).trans rfl
    have hcz7_7 : w3.cell? ⟨gb333, 7, none⟩ = some (.int .i64 a0_7) := (zc BK333.out 7).trans rfl
    have hcz7_8 : w3.cell? ⟨gb333, 8, none⟩ = some (.bool a0_8) := (zc BK333.out 8).trans rfl
    have hcz7_9 : w3.cell? ⟨gb333, 9, none⟩ = some (.string a0_9) := (zc BK333.out 9).trans rfl
    have hcz7_10 : w3.cell? ⟨gb333, 10, none⟩ = some (.int .i64 a0_10) := (zc BK333.out 10).trans rfl
    have hcz7_11 : w3.cell? ⟨gb333, 11, none⟩ = some (.slice A0_11 l0_11.length c0_11) := (zc BK333.out 11).trans rfl
    have hfz7_0 := zf BK333.out 0
    have hfz7_1 := zf BK333.out 1
    have hfz7_2 := zf BK333.out 2
    have hfz7_3 := zf BK333.out 3
    have hfz7_4 := zf BK333.out 4
    have hfz7_5 := zf BK333.out 5
    have hfz7_6 := zf BK333.out 6
    have hfz7_7 := zf BK333.out 7
    have hfz7_8 := zf BK333.out 8
    have hfz7_9 := zf BK333.out 9
    have hfz7_10 := zf BK333.out 10
    have hfz7_11 := zf BK333.out 11
    go_wp2
    go_meet
    case rel => exact ⟨_, (true), (by first | rfl | simp [*]), H', ⟨by first | omega | exact Nat.le_refl _⟩, ⟨by (with_reducible repeat (first | apply zn | apply zd | apply za)); exact BK333.out⟩, ⟨by repeat (first | (with_reducible first | exact HB.out | apply pa | apply pd | apply pe | refine zs ?_ GE333.out) | exact HB.out)⟩⟩
  rw [if_neg c6] at H
  have c6b0 : decide (10 < a0_0) = false := df_ c6
  clear c6
  replace H := ob_ H
  obtain ⟨t334, A80, H⟩ := H
  replace H : (if t334 = true then (code_Good.j0 k (decide (a0_2 < 0)) a0_0 a0_1 a0_2 a0_3 a0_4 a0_5 a0_6 a0_7 a0_8 a0_9 a0_10 l0_11) else (code_Good.j0 k true a0_0 a0_1 a0_2 a0_3 a0_4 a0_5 a0_6 a0_7 a0_8 a0_9 a0_10 l0_11)) = some r := H
  have A8 := ak_ A80
  clear A80
  by_cases c9 : t334 = true
  · subst c9
    have H1 : (code_Good.j0 k (decide (a0_2 < 0)) a0_0 a0_1 a0_2 a0_3 a0_4 a0_5 a0_6 a0_7 a0_8 a0_9 a0_10 l0_11) = some r := by rw [if_pos rfl] at H; exact H
    clear H
    have H := H1
    clear H1
    have H' := ak_ H
    clear H
    have hcz10_0 : w3.cell? ⟨gb333, 0, none⟩ = some (.int .i64 a0_0) := (zc BK333.out 0).trans rfl
    have hcz10_1 : w3.cell? ⟨gb333, 1, none⟩ = some (.int .i64 a0_1) := (zc BK333.out 1).trans rfl
    have hcz10_2 : w3.cell? ⟨gb333, 2, none⟩ = some (.int .i64 a0_2) := (zc BK333.out 2).trans rfl
    have hcz10_3 : w3.cell? ⟨gb333, 3, none⟩ = some (.string a0_3) := (zc BK333.out 3).trans rfl
    have hcz10_4 : w3.cell? ⟨gb333, 4, none⟩ = some (.int .i64 a0_4) := (zc BK333.out 4).trans rfl
    have hcz10_5 : w3.cell? ⟨gb333, 5, none⟩ = some (.int .i64 a0_5) := (zc BK333.out 5).trans rfl
    have hcz10_6 : w3.cell? ⟨gb333, 6, none⟩ = some (.bool a0_6) := (zc BK333.out 6).trans rfl
    have hcz10_7 : w3.cell? ⟨gb333, 7, none⟩ = some (.int .i64 a0_7) := (zc BK333.out 7).trans rfl
    have hcz10_8 : w3.cell? ⟨gb333, 8, none⟩ = some (.bool a0_8) := (zc BK333.out 8).trans rfl
    have hcz10_9 : w3.cell? ⟨gb333, 9, none⟩ = some (.string a0_9) := (zc BK333.out 9).trans rfl
    have hcz10_10 : w3.cell? ⟨gb333, 10, none⟩ = some (.int .i64 a0_10) := (zc BK333.out 10).trans rfl
    have hcz10_11 : w3.cell? ⟨gb333, 11, none⟩ = some (.slice A0_11 l0_11.length c0_11) := (zc BK333.out 11).trans rfl
    have hfz10_0 := zf BK333.out 0
    have hfz10_1 := zf BK333.out 1
    have hfz10_2 := zf BK333.out 2
    have hfz10_3 := zf BK333.out 3
    have hfz10_4 := zf BK333.out 4
    have hfz10_5 := zf BK333.out 5
    have hfz10_6 := zf BK333.out 6
    have hfz10_7 := zf BK333.out 7
    have hfz10_8 := zf BK333.out 8
    have hfz10_9 := zf BK333.out 9
    have hfz10_10 := zf BK333.out 10
    have hfz10_11 := zf BK333.out 11
    go_wp2_with (first | (go_at_call 42; (with_reducible refine (tick_Good.calls a0_1 true _ A8.out).mono ?_); rintro e w' ⟨rfl, ⟨nd, rfl⟩⟩))
    go_meet
    case rel => exact ⟨_, (decide (a0_2 < 0)), (by first | rfl | simp [*]), H', ⟨by first | omega | exact Nat.le_refl _⟩, ⟨by (with_reducible repeat (first | apply zn | apply zd | apply za)); exact BK333.out⟩, ⟨by repeat (first | (with_reducible first | exact HB.out | apply pa | apply pd | apply pe | refine zs ?_ GE333.out) | exact HB.out)⟩⟩
  replace c9 := Bool.eq_false_iff.mpr c9
  subst c9
  have H1 : (code_Good.j0 k true a0_0 a0_1 a0_2 a0_3 a0_4 a0_5 a0_6 a0_7 a0_8 a0_9 a0_10 l0_11) = some r := by rw [if_neg (show ¬ (false = true) by decide)] at H; exact H
  clear H
  have H := H1
  clear H1
  have H' := ak_ H
  clear H
  have hcz11_0 : w3.cell? ⟨gb333, 0, none⟩ = some (.int .i64 a0_0) := (zc BK333.out 0).trans rfl
  have hcz11_1 : w3.cell? ⟨gb333, 1, none⟩ = some (.int .i64 a0_1) := (zc BK333.out 1).trans rfl
  have hcz11_2 : w3.cell? ⟨gb333, 2, none⟩ = some (.int .i64 a0_2) := (zc BK333.out 2).trans rfl
  have hcz11_3 : w3.cell? ⟨gb333, 3, none⟩ = some (.string a0_3) := (zc BK333.out 3).trans rfl
  have hcz11_4 : w3.cell? ⟨gb333, 4, none⟩ = some (.int .i64 a0_4) := (zc BK333.out 4).trans rfl
  have hcz11_5 : w3.cell? ⟨gb333, 5, none⟩ = some (.int .i64 a0_5) := (zc BK333.out 5).trans rfl
  have hcz11_6 : w3.cell? ⟨gb333, 6, none⟩ = some (.bool a0_6) := (zc BK333.out 6).trans rfl
  have hcz11_7 : w3.cell? ⟨gb333, 7, none⟩ = some (.int .i64 a0_7) := (zc BK333.out 7).trans rfl
  have hcz11_8 : w3.cell? ⟨gb333, 8, none⟩ = some (.bool a0_8) := (zc BK333.out 8).trans rfl
  have hcz11_9 : w3.cell? ⟨gb333, 9, none⟩ = some (.string a0_9) := (zc BK333.out 9).trans rfl
  have hcz11_10 : w3.cell? ⟨gb333, 10, none⟩ = some (.int .i64 a0_10) := (zc BK333.out 10).trans rfl
  have hcz11_11 : w3.cell? ⟨gb333, 11, none⟩ = some (.slice A0_11 l0_11.length c0_11) := (zc BK333.out 11).trans rfl
  have hfz11_0 := zf BK333.out 0
  have hfz11_1 := zf BK333.out 1
  have hfz11_2 := zf BK333.out 2
  have hfz11_3 := zf BK333.out 3
  have hfz11_4 := zf BK333.out 4
  have hfz11_5 := zf BK333.out 5
  have hfz11_6 := zf BK333.out 6
  have hfz11_7 := zf BK333.out 7
  have hfz11_8 := zf BK333.out 8
  have hfz11_9 := zf BK333.out 9
  have hfz11_10 := zf BK333.out 10
  have hfz11_11 := zf BK333.out 11
  go_wp2_with (first | (go_at_call 42; (with_reducible refine (tick_Good.calls a0_1 false _ A8.out).mono ?_); rintro e w' ⟨rfl, ⟨nd, rfl⟩⟩))
  go_meet
  case rel => exact ⟨_, (true), (by first | rfl | simp [*]), H', ⟨by first | omega | exact Nat.le_refl _⟩, ⟨by (with_reducible repeat (first | apply zn | apply zd | apply za)); exact BK333.out⟩, ⟨by repeat (first | (with_reducible first | exact HB.out | apply pa | apply pd | apply pe | refine zs ?_ GE333.out) | exact HB.out)⟩⟩
 case rest =>
  clear HC2
  try clear c1
  try clear p2
  try clear c4
  try clear c4b0
  try clear c6
  try clear c6b0
  try clear c9
  try clear hcz10_0
  try clear hcz10_1
  try clear hcz10_10
  try clear hcz10_11
  try clear hcz10_2
  try clear hcz10_3
  try clear hcz10_4
  try clear hcz10_5
  try clear hcz10_6
  try clear hcz10_7
  try clear hcz10_8
  try clear hcz10_9
  try clear hcz11_0
  try clear hcz11_1
  try clear hcz11_10
  try clear hcz11_11
  try clear hcz11_2
  try clear hcz11_3
  try clear hcz11_4
  try clear hcz11_5
  try clear hcz11_6
  try clear hcz11_7
  try clear hcz11_8
  try clear hcz11_9
  try clear hcz5_0
  try clear hcz5_1
  try clear hcz5_10
  try clear hcz5_11
  try clear hcz5_2
  try clear hcz5_3
  try clear hcz5_4
  try clear hcz5_5
  try clear hcz5_6
  try clear hcz5_7
  try clear hcz5_8
  try clear hcz5_9
  try clear hcz7_0
  try clear hcz7_1
  try clear hcz7_10
  try clear hcz7_11
  try clear hcz7_2
  try clear hcz7_3
  try clear hcz7_4
  try clear hcz7_5
  try clear hcz7_6
  try clear hcz7_7
  try clear hcz7_8
  try clear hcz7_9
  try clear hfz10_0
  try clear hfz10_1
  try clear hfz10_10
  try clear hfz10_11
  try clear hfz10_2
  try clear hfz10_3
  try clear hfz10_4
  try clear hfz10_5
  try clear hfz10_6
  try clear hfz10_7
  try clear hfz10_8
  try clear hfz10_9
  try clear hfz11_0
  try clear hfz11_1
  try clear hfz11_10
  try clear hfz11_11
  try clear hfz11_2
  try clear hfz11_3
  try clear hfz11_4
  try clear hfz11_5
  try clear hfz11_6
  try clear hfz11_7
  try clear hfz11_8
  try clear hfz11_9
  try clear hfz5_0
  try clear hfz5_1
  try clear hfz5_10
  try clear hfz5_11
  try clear hfz5_2
  try clear hfz5_3
  try clear hfz5_4
  try clear hfz5_5
  try clear hfz5_6
  try clear hfz5_7
  try clear hfz5_8
  try clear hfz5_9
  try clear hfz7_0
  try clear hfz7_1
  try clear hfz7_10
  try clear hfz7_11
  try clear hfz7_2
  try clear hfz7_3
  try clear hfz7_4
  try clear hfz7_5
  try clear hfz7_6
  try clear hfz7_7
  try clear hfz7_8
  try clear hfz7_9
  obtain ⟨kq, x23_1, rfl, HA, HJ1, BK333, HB⟩ := hcut
  cases kq with
  | zero => exact absurd HA.out (by simp [code_Good.j0])
  | succ kj1 =>
   have H := HA.out
   clear HA
   simp only [code_Good.j0] at H
   have HF12 := ak_ H
   clear H
   go_upto_if 23 with (fail)
   have H := HF12.out
   clear HF12
   by_cases c13 : x23_1 = true
   · subst c13
     have H1 : (some false) = some r := by rw [if_pos rfl] at H; exact H
     clear H
     have H := H1
     clear H1
     obtain rfl := Option.some.inj H
     go_wp2
     go_ret
     exact ⟨by first | rfl | simp [*], by repeat (first | (with_reducible first | exact HB.out | apply pa | apply pd | apply pe | refine zs ?_ GE333.out) | exact HB.out)⟩
   replace c13 := Bool.eq_false_iff.mpr c13
   subst c13
   have H1 : (if a0_0 = 3 then (if a0_0 = 1 then (if a0_0 = 0 then (code_Good.j1 kj1 false a0_0 a0_1 a0_2 a0_3 a0_4 a0_5 a0_6 a0_7 a0_8 a0_9 a0_10 l0_11) else ((code_empty.f a0_9 a0_10 l0_11).bind fun t335 => (code_Good.j1 kj1 (!t335) a0_0 a0_1 a0_2 a0_3 a0_4 a0_5 a0_6 a0_7 a0_8 a0_9 a0_10 l0_11))) else (if a0_3.toList = ([] : List UInt8) then (if a0_0 = 0 then (code_Good.j1 kj1 false a0_0 a0_1 a0_2 a0_3 a0_4 a0_5 a0_6 a0_7 a0_8 a0_9 a0_10 l0_11) else ((code_empty.f a0_9 a0_10 l0_11).bind fun t336 => (code_Good.j1 kj1 (!t336) a0_0 a0_1 a0_2 a0_3 a0_4 a0_5 a0_6 a0_7 a0_8 a0_9 a0_10 l0_11))) else (code_Good.j1 kj1 true a0_0 a0_1 a0_2 a0_3 a0_4 a0_5 a0_6 a0_7 a0_8 a0_9 a0_10 l0_11))) else (if (!(a0_4 == 0) || (!(a0_5 == 0) || (a0_6 || (!(a0_7 == 0) || (a0_8))))) = true then (code_Good.j1 kj1 true a0_0 a0_1 a0_2 a0_3 a0_4 a0_5 a0_6 a0_7 a0_8 a0_9 a0_10 l0_11) else (if a0_0 = 1 then (if a0_0 = 0 then (code_Good.j1 kj1 false a0_0 a0_1 a0_2 a0_3 a0_4 a0_5 a0_6 a0_7 a0_8 a0_9 a0_10 l0_11) else ((code_empty.f a0_9 a0_10 l0_11).bind fun t337 => (code_Good.j1 kj1 (!t337) a0_0 a0_1 a0_2 a0_3 a0_4 a0_5 a0_6 a0_7 a0_8 a0_9 a0_10 l0_11))) else (if a0_3.toList = ([] : List UInt8) then (if a0_0 = 0 then (code_Good.j1 kj1 false a0_0 a0_1 a0_2 a0_3 a0_4 a0_5 a0_6 a0_7 a0_8 a0_9 a0_10 l0_11) else ((code_empty.f a0_9 a0_10 l0_11).bind fun t338 => (code_Good.j1 kj1 (!t338) a0_0 a0_1 a0_2 a0_3 a0_4 a0_5 a0_6 a0_7 a0_8 a0_9 a0_10 l0_11))) else (code_Good.j1 kj1 true a0_0 a0_1 a0_2 a0_3 a0_4 a0_5 a0_6 a0_7 a0_8 a0_9 a0_10 l0_11))))) = some r := by rw [if_neg (show ¬ (false = true) by decide)] at H; exact H
   clear H
   have H := H1
   clear H1
   have HC14 := ak_ H
   clear H
   go_upto_region 3 with (fail)
   go_cut [53] (fun v53 wc => ∃ (kq : Nat) (x53_13 : Bool), v53 = .bool x53_13 ∧ Aside0 (code_Good.j1 kq x53_13 a0_0 a0_1 a0_2 a0_3 a0_4 a0_5 a0_6 a0_7 a0_8 a0_9 a0_10 l0_11 = some r) ∧ Aside0 (kq ≤ kj1) ∧ Aside0 (wc.heap[gb333]? = some (.cells #[.int .i64 a0_0, .int .i64 a0_1, .int .i64 a0_2, .string a0_3, .int .i64 a0_4, .int .i64 a0_5, .bool a0_6, .int .i64 a0_7, .bool a0_8, .string a0_9, .int .i64 a0_10, (.slice A0_11 l0_11.length c0_11)] 42 (0, 0))) ∧ Aside0 (Below w.heap.size w wc))
   case first =>
    have H := HC14.out
    clear HC14
    by_cases c15 : a0_0 = 3
    · rw [if_pos c15] at H
      have c15b0 : (a0_0 == 3) = true := beq_iff_eq.mpr c15
      have c15b1 : (a0_0 != 3) = false := bne_eq_false_iff_eq.mpr c15
      clear c15
      (first | rw [c15b0] | (simp only [i64_w, i32_w]; rw [c15b0]) | skip)
      by_cases c16 : a0_0 = 1
      · rw [if_pos c16] at H
        have c16b0 : (a0_0 == 1) = true := beq_iff_eq.mpr c16
        have c16b1 : (a0_0 != 1) = false := bne_eq_false_iff_eq.mpr c16
        clear c16
        by_cases c17 : a0_0 = 0
        · rw [if_pos c17] at H
          have c17b0 : (a0_0 == 0) = true := beq_iff_eq.mpr c17
          have c17b1 : (a0_0 != 0) = false := bne_eq_false_iff_eq.mpr c17
          clear c17
          have H' := ak_ H
          clear H
          have hcz18_0 : wc.cell? ⟨gb333, 0, none⟩ = some (.int .i64 a0_0) := (zc BK333.out 0).trans rfl
          have hcz18_1 : wc.cell? ⟨gb333, 1, none⟩ = some (.int .i64 a0_1) := (zc BK333.out 1).trans rfl
          have hcz18_2 : wc.cell? ⟨gb333, 2, none⟩ = some (.int .i64 a0_2) := (zc BK333.out 2).trans rfl
          have hcz18_3 : wc.cell? ⟨gb333, 3, none⟩ = some (.string a0_3) := (zc BK333.out 3).trans rfl
          have hcz18_4 : wc.cell? ⟨gb333, 4, none⟩ = some (.int .i64 a0_4) := (zc BK333.out 4).trans rfl
          have hcz18_5 : wc.cell? ⟨gb333, 5, none⟩ = some (.int .i64 a0_5) := (zc BK333.out 5).trans rfl
          have hcz18_6 : wc.cell? ⟨gb333, 6, none⟩ = some (.bool a0_6) := (zc BK333.out 6).trans rfl
          have hcz18_7 : wc.cell? ⟨gb333, 7, none⟩ = some (.int .i64 a0_7) := (zc BK333.out 7).trans rfl
          have hcz18_8 : wc.cell? ⟨gb333, 8, none⟩ = some (.bool a0_8) := (zc BK333.out 8).trans rfl
          have hcz18_9 : wc.cell? ⟨gb333, 9, none⟩ = some (.string a0_9) := (zc BK333.out 9).trans rfl
          have hcz18_10 : wc.cell? ⟨gb333, 10, none⟩ = some (.int .i64 a0_10) := (zc BK333.out 10).trans rfl
          have hcz18_11 : wc.cell? ⟨gb333, 11, none⟩ = some (.slice A0_11 l0_11.length c0_11) := (zc BK333.out 11).trans rfl
          have hfz18_0 := zf BK333.out 0
          have hfz18_1 := zf BK333.out 1
          have hfz18_2 := zf BK333.out 2
          have hfz18_3 := zf BK333.out 3
          have hfz18_4 := zf BK333.out 4
          have hfz18_5 := zf BK333.out 5
          have hfz18_6 := zf BK333.out 6
          have hfz18_7 := zf BK333.out 7
          have hfz18_8 := zf BK333.out 8
          have hfz18_9 := zf BK333.out 9
          have hfz18_10 := zf BK333.out 10
          have hfz18_11 := zf BK333.out 11
          go_wp2
          go_meet
          case rel => exact ⟨_, (false), (by first | rfl | simp [*]), H', ⟨by have := HJ1.out; first | omega | exact Nat.le_refl _⟩, ⟨by (with_reducible repeat (first | apply zn | apply zd | apply za)); exact BK333.out⟩, ⟨by repeat (first | (with_reducible first | exact HB.out | apply pa | apply pd | apply pe | refine zs ?_ GE333.out) | exact HB.out)⟩⟩
        rw [if_neg c17] at H
        have c17b0 : (a0_0 == 0) = false := beq_eq_false_iff_ne.mpr c17
        have c17b1 : (a0_0 != 0) = true := bne_iff_ne.mpr c17
        replace H := ob_ H
        obtain ⟨t335, A190, H⟩ := H
        replace H : (code_Good.j1 kj1 (!t335) a0_0 a0_1 a0_2 a0_3 a0_4 a0_5 a0_6 a0_7 a0_8 a0_9 a0_10 l0_11) = some r := H
        have A19 := ak_ A190
        clear A190
        have H' := ak_ H
        clear H
        have hcz20_0 : wc.cell? ⟨gb333, 0, none⟩ = some (.int .i64 a0_0) := (zc BK333.out 0).trans rfl
        have hcz20_1 : wc.cell? ⟨gb333, 1, none⟩ = some (.int .i64 a0_1) := (zc BK333.out 1).trans rfl
        have hcz20_2 : wc.cell? ⟨gb333, 2, none⟩ = some (.int .i64 a0_2) := (zc BK333.out 2).trans rfl
        have hcz20_3 : wc.cell? ⟨gb333, 3, none⟩ = some (.string a0_3) := (zc BK333.out 3).trans rfl
        have hcz20_4 : wc.cell? ⟨gb333, 4, none⟩ = some (.int .i64 a0_4) := (zc BK333.out 4).trans rfl
        have hcz20_5 : wc.cell? ⟨gb333, 5, none⟩ = some (.int .i64 a0_5) := (zc BK333.out 5).trans rfl
        have hcz20_6 : wc.cell? ⟨gb333, 6, none⟩ = some (.bool a0_6) := (zc BK333.out 6).trans rfl
        have hcz20_7 : wc.cell? ⟨gb333, 7, none⟩ = some (.int .i64 a0_7) := (zc BK333.out 7).trans rfl
        have hcz20_8 : wc.cell? ⟨gb333, 8, none⟩ = some (.bool a0_8) := (zc BK333.out 8).trans rfl
        have hcz20_9 : wc.cell? ⟨gb333, 9, none⟩ = some (.string a0_9) := (zc BK333.out 9).trans rfl
        have hcz20_10 : wc.cell? ⟨gb333, 10, none⟩ = some (.int .i64 a0_10) := (zc BK333.out 10).trans rfl
        have hcz20_11 : wc.cell? ⟨gb333, 11, none⟩ = some (.slice A0_11 l0_11.length c0_11) := (zc BK333.out 11).trans rfl
        have hfz20_0 := zf BK333.out 0
        have hfz20_1 := zf BK333.out 1
        have hfz20_2 := zf BK333.out 2
        have hfz20_3 := zf BK333.out 3
        have hfz20_4 := zf BK333.out 4
        have hfz20_5 := zf BK333.out 5
        have hfz20_6 := zf BK333.out 6
        have hfz20_7 := zf BK333.out 7
        have hfz20_8 := zf BK333.out 8
        have hfz20_9 := zf BK333.out 9
        have hfz20_10 := zf BK333.out 10
        have hfz20_11 := zf BK333.out 11
        go_wp2_with (first | (go_at_call 43; (with_reducible refine (code_empty.calls a0_9 a0_10 _ _ l0_11 t335 _ ?side1 ?side2 A19.out).mono ?_); (case side1 => repeat (first | exact (Kd.C_below HR0_11.out HB.out) | (with_reducible refine Kd.C_alloc ?_ _) | (with_reducible refine Kd.C_drewN ?_ _) | (with_reducible refine Kd.C_drew ?_))); (case side2 => exact HC0_11.out); rintro e w21 ⟨rfl, hb⟩; have n0_ := ak_ (blk_below (g := gb333) (o := .cells #[.int .i64 a0_0, .int .i64 a0_1, .int .i64 a0_2, .string a0_3, .int .i64 a0_4, .int .i64 a0_5, .bool a0_6, .int .i64 a0_7, .bool a0_8, .string a0_9, .int .i64 a0_10, .slice A0_11 l0_11.length c0_11] 42 (0, 0)) (by (with_reducible repeat (first | apply zn | apply zd | apply za)); exact BK333.out) hb); have n1_ := ak_ (ps (by with_reducible repeat first | exact HB.out | apply pa | apply pd | apply pe | refine zs ?_ GE333.out) hb); clear BK333 HB; have BK333 := n0_; have HB := n1_; clear n0_ n1_))
        go_meet
        case rel => exact ⟨_, (!t335), (by first | rfl | simp [*]), H', ⟨by have := HJ1.out; first | omega | exact Nat.le_refl _⟩, ⟨by (with_reducible repeat (first | apply zn | apply zd | apply za)); exact BK333.out⟩, ⟨by repeat (first | (with_reducible first | exact HB.out | apply pa | apply pd | apply pe | refine zs ?_ GE333.out) | exact HB.out)⟩⟩
      rw [if_neg c16] at H
      have c16b0 : (a0_0 == 1) = false := beq_eq_false_iff_ne.mpr c16
      have c16b1 : (a0_0 != 1) = true := bne_iff_ne.mpr c16
      by_cases c22 : a0_3.toList = ([] : List UInt8)
      · rw [if_pos c22] at H
        have c22b0 : (a0_3.toList == ([] : List UInt8)) = true := beq_iff_eq.mpr c22
        have c22b1 : (a0_3.toList != ([] : List UInt8)) = false := bne_eq_false_iff_eq.mpr c22
        clear c22
        by_cases c23 : a0_0 = 0
        · rw [if_pos c23] at H
          have c23b0 : (a0_0 == 0) = true := beq_iff_eq.mpr c23
          have c23b1 : (a0_0 != 0) = false := bne_eq_false_iff_eq.mpr c23
          clear c23
          have H' := ak_ H
          clear H
          have hcz24_0 : wc.cell? ⟨gb333, 0, none⟩ = some (.int .i64 a0_0) := (zc BK333.out 0).trans rfl
          have hcz24_1 : wc.cell? ⟨gb333, 1, none⟩ = some (.int .i64 a0_1) := (zc BK333.out 1).trans rfl
          have hcz24_2 : wc.cell? ⟨gb333, 2, none⟩ = some (.int .i64 a0_2) := (zc BK333.out 2).trans rfl
          have hcz24_3 : wc.cell? ⟨gb333, 3, none⟩ = some (.string a0_3) := (zc BK333.out 3).trans rfl
          have hcz24_4 : wc.cell? ⟨gb333, 4, none⟩ = some (.int .i64 a0_4) := (zc BK333.out 4).trans rfl
          have hcz24_5 : wc.cell? ⟨gb333, 5, none⟩ = some (.int .i64 a0_5) := (zc BK333.out 5).trans rfl
          have hcz24_6 : wc.cell? ⟨gb333, 6, none⟩ = some (.bool a0_6) := (zc BK333.out 6).trans rfl
          have hcz24_7 : wc.cell? ⟨gb333, 7, none⟩ = some (.int .i64 a0_7) := (zc BK333.out 7).trans rfl
          have hcz24_8 : wc.cell? ⟨gb333, 8, none⟩ = some (.bool a0_8) := (zc BK333.out 8).trans rfl
          have hcz24_9 : wc.cell? ⟨gb333, 9, none⟩ = some (.string a0_9) := (zc BK333.out 9).trans rfl
          have hcz24_10 : wc.cell? ⟨gb333, 10, none⟩ = some (.int .i64 a0_10) := (zc BK333.out 10).trans rfl
          have hcz24_11 : wc.cell? ⟨gb333, 11, none⟩ = some (.slice A0_11 l0_11.length c0_11) := (zc BK333.out 11).trans rfl
          have hfz24_0 := zf BK333.out 0
          have hfz24_1 := zf BK333.out 1
          have hfz24_2 := zf BK333.out 2
          have hfz24_3 := zf BK333.out 3
          have hfz24_4 := zf BK333.out 4
          have hfz24_5 := zf BK333.out 5
          have hfz24_6 := zf BK333.out 6
          have hfz24_7 := zf BK333.out 7
          have hfz24_8 := zf BK333.out 8
          have hfz24_9 := zf BK333.out 9
          have hfz24_10 := zf BK333.out 10
          have hfz24_11 := zf BK333.out 11
          go_wp2
          go_meet
          case rel => exact ⟨_, (false), (by first | rfl | simp [*]), H', ⟨by have := HJ1.out; first | omega | exact Nat.le_refl _⟩, ⟨by (with_reducible repeat (first | apply zn | apply zd | apply za)); exact BK333.out⟩, ⟨by repeat (first | (with_reducible first | exact HB.out | apply pa | apply pd | apply pe | refine zs ?_ GE333.out) | exact HB.out)⟩⟩
        rw [if_neg c23] at H
        have c23b0 : (a0_0 == 0) = false := beq_eq_false_iff_ne.mpr c23
        have c23b1 : (a0_0 != 0) = true := bne_iff_ne.mpr c23
        replace H := ob_ H
        obtain ⟨t336, A250, H⟩ := H
        replace H : (code_Good.j1 kj1 (!t336) a0_0 a0_1 a0_2 a0_3 a0_4 a0_5 a0_6 a0_7 a0_8 a0_9 a0_10 l0_11) = some r := H
        have A25 := ak_ A250
        clear A250
        have H' := ak_ H
        clear H
        have hcz26_0 : wc.cell? ⟨gb333, 0, none⟩ = some (.int .i64 a0_0) := (zc BK333.out 0).trans rfl
        have hcz26_1 : wc.cell? ⟨gb333, 1, none⟩ = some (.int .i64 a0_1) := (zc BK333.out 1).trans rfl
        have hcz26_2 : wc.cell? ⟨gb333, 2, none⟩ = some (.int .i64 a0_2) := (zc BK333.out 2).trans rfl
        have hcz26_3 : wc.cell? ⟨gb333, 3, none⟩ = some (.string a0_3) := (zc BK333.out 3).trans rfl
        have hcz26_4 : wc.cell? ⟨gb333, 4, none⟩ = some (.int .i64 a0_4) := (zc BK333.out 4).trans rfl
        have hcz26_5 : wc.cell? ⟨gb333, 5, none⟩ = some (.int .i64 a0_5) := (zc BK333.out 5).trans rfl
        have hcz26_6 : wc.cell? ⟨gb333, 6, none⟩ = some (.bool a0_6) := (zc BK333.out 6).trans rfl
        have hcz26_7 : wc.cell? ⟨gb333, 7, none⟩ = some (.int .i64 a0_7) := (zc BK333.out 7).trans rfl
        have hcz26_8 : wc.cell? ⟨gb333, 8, none⟩ = some (.bool a0_8) := (zc BK333.out 8).trans rfl
        have hcz26_9 : wc.cell? ⟨gb333, 9, none⟩ = some (.string a0_9) := (zc BK333.out 9).trans rfl
        have hcz26_10 : wc.cell? ⟨gb333, 10, none⟩ = some (.int .i64 a0_10) := (zc BK333.out 10).trans rfl
        have hcz26_11 : wc.cell? ⟨gb333, 11, none⟩ = some (.slice A0_11 l0_11.length c0_11) := (zc BK333.out 11).trans rfl
        have hfz26_0 := zf BK333.out 0
        have hfz26_1 := zf BK333.out 1
        have hfz26_2 := zf BK333.out 2
        have hfz26_3 := zf BK333.out 3
        have hfz26_4 := zf BK333.out 4
        have hfz26_5 := zf BK333.out 5
        have hfz26_6 := zf BK333.out 6
        have hfz26_7 := zf BK333.out 7
        have hfz26_8 := zf BK333.out 8
        have hfz26_9 := zf BK333.out 9
        have hfz26_10 := zf BK333.out 10
        have hfz26_11 := zf BK333.out 11
        go_wp2_with (first | (go_at_call 43; (with_reducible refine (code_empty.calls a0_9 a0_10 _ _ l0_11 t336 _ ?side1 ?side2 A25.out).mono ?_); (case side1 => repeat (first | exact (Kd.C_below HR0_11.out HB.out) | (with_reducible refine Kd.C_alloc ?_ _) | (with_reducible refine Kd.C_drewN ?_ _) | (with_reducible refine Kd.C_drew ?_))); (case side2 => exact HC0_11.out); rintro e w27 ⟨rfl, hb⟩; have n0_ := ak_ (blk_below (g := gb333) (o := .cells #[.int .i64 a0_0, .int .i64 a0_1, .int .i64 a0_2, .string a0_3, .int .i64 a0_4, .int .i64 a0_5, .bool a0_6, .int .i64 a0_7, .bool a0_8, .string a0_9, .int .i64 a0_10, .slice A0_11 l0_11.length c0_11] 42 (0, 0)) (by (with_reducible repeat (first | apply zn | apply zd | apply za)); exact BK333.out) hb); have n1_ := ak_ (ps (by with_reducible repeat first | exact HB.out | apply pa | apply pd | apply pe | refine zs ?_ GE333.out) hb); clear BK333 HB; have BK333 := n0_; have HB := n1_; clear n0_ n1_))
        go_meet
        case rel => exact ⟨_, (!t336), (by first | rfl | simp [*]), H', ⟨by have := HJ1.out; first | omega | exact Nat.le_refl _⟩, ⟨by (with_reducible repeat (first | apply zn | apply zd | apply za)); exact BK333.out⟩, ⟨by repeat (first | (with_reducible first | exact HB.out | apply pa | apply pd | apply pe | refine zs ?_ GE333.out) | exact HB.out)⟩⟩
      rw [if_neg c22] at H
      have c22b0 : (a0_3.toList == ([] : List UInt8)) = false := beq_eq_false_iff_ne.mpr c22
      have c22b1 : (a0_3.toList != ([] : List UInt8)) = true := bne_iff_ne.mpr c22
      have H' := ak_ H
      clear H
      have hcz28_0 : wc.cell? ⟨gb333, 0, none⟩ = some (.int .i64 a0_0) := (zc BK333.out 0).trans rfl
      have hcz28_1 : wc.cell? ⟨gb333, 1, none⟩ = some (.int .i64 a0_1) := (zc BK333.out 1).trans rfl
      have hcz28_2 : wc.cell? ⟨gb333, 2, none⟩ = some (.int .i64 a0_2) := (zc BK333.out 2).trans rfl
      have hcz28_3 : wc.cell? ⟨gb333, 3, none⟩ = some (.string a0_3) := (zc BK333.out 3).trans rfl
      have hcz28_4 : wc.cell? ⟨gb333, 4, none⟩ = some (.int .i64 a0_4) := (zc BK333.out 4).trans rfl
      have hcz28_5 : wc.cell? ⟨gb333, 5, none⟩ = some (.int .i64 a0_5) := (zc BK333.out 5).trans rfl
      have hcz28_6 : wc.cell? ⟨gb333, 6, none⟩ = some (.bool a0_6) := (zc BK333.out 6).trans rfl
      have hcz28_7 : wc.cell? ⟨gb333, 7, none⟩ = some (.int .i64 a0_7) := (zc BK333.out 7).trans rfl
      have hcz28_8 : wc.cell? ⟨gb333, 8, none⟩ = some (.bool a0_8) := (zc BK333.out 8).trans rfl
      have hcz28_9 : wc.cell? ⟨gb333, 9, none⟩ = some (.string a0_9) := (zc BK333.out 9).trans rfl
      have hcz28_10 : wc.cell? ⟨gb333, 10, none⟩ = some (.int .i64 a0_10) := (zc BK333.out 10).trans rfl
      have hcz28_11 : wc.cell? ⟨gb333, 11, none⟩ = some (.slice A0_11 l0_11.length c0_11) := (zc BK333.out 11).trans rfl
      have hfz28_0 := zf BK333.out 0
      have hfz28_1 := zf BK333.out 1
      have hfz28_2 := zf BK333.out 2
      have hfz28_3 := zf BK333.out 3
      have hfz28_4 := zf BK333.out 4
      have hfz28_5 := zf BK333.out 5
      have hfz28_6 := zf BK333.out 6
      have hfz28_7 := zf BK333.out 7
      have hfz28_8 := zf BK333.out 8
      have hfz28_9 := zf BK333.out 9
      have hfz28_10 := zf BK333.out 10
      have hfz28_11 := zf BK333.out 11
      go_wp2
      go_meet
      case rel => exact ⟨_, (true), (by first | rfl | simp [*]), H', ⟨by have := HJ1.out; first | omega | exact Nat.le_refl _⟩, ⟨by (with_reducible repeat (first | apply zn | apply zd | apply za)); exact BK333.out⟩, ⟨by repeat (first | (with_reducible first | exact HB.out | apply pa | apply pd | apply pe | refine zs ?_ GE333.out) | exact HB.out)⟩⟩
    rw [if_neg c15] at H
    have c15b0 : (a0_0 == 3) = false := beq_eq_false_iff_ne.mpr c15
    have c15b1 : (a0_0 != 3) = true := bne_iff_ne.mpr c15
    (first | rw [c15b0] | (simp only [i64_w, i32_w]; rw [c15b0]) | skip)
    by_cases c29 : (!(a0_4 == 0) || (!(a0_5 == 0) || (a0_6 || (!(a0_7 == 0) || (a0_8))))) = true
    · rw [if_pos c29] at H
      have c29b0 : (!(a0_4 == 0) || (!(a0_5 == 0) || (a0_6 || (!(a0_7 == 0) || (a0_8))))) = true := c29
      clear c29
      have H' := ak_ H
      clear H
      have hcz30_0 : wc.cell? ⟨gb333, 0, none⟩ = some (.int .i64 a0_0) := (zc BK333.out 0).trans rfl
      have hcz30_1 : wc.cell? ⟨gb333, 1, none⟩ = some (.int .i64 a0_1) := (zc BK333.out 1).trans rfl
      have hcz30_2 : wc.cell? ⟨gb333, 2, none⟩ = some (.int .i64 a0_2) := (zc BK333.out 2).trans rfl
      have hcz30_3 : wc.cell? ⟨gb333, 3, none⟩ = some (.string a0_3) := (zc BK333.out 3).trans rfl
      have hcz30_4 : wc.cell? ⟨gb333, 4, none⟩ = some (.int .i64 a0_4) := (zc BK333.out 4).trans rfl
      have hcz30_5 : wc.cell? ⟨gb333, 5, none⟩ = some (.int .i64 a0_5) := (zc BK333.out 5).trans rfl
      have hcz30_6 : wc.cell? ⟨gb333, 6, none⟩ = some (.bool a0_6) := (zc BK333.out 6).trans rfl
      have hcz30_7 : wc.cell? ⟨gb333, 7, none⟩ = some (.int .i64 a0_7) := (zc BK333.out 7).trans rfl
      have hcz30_8 : wc.cell? ⟨gb333, 8, none⟩ = some (.bool a0_8) := (zc BK333.out 8).trans rfl
      have hcz30_9 : wc.cell? ⟨gb333, 9, none⟩ = some (.string a0_9) := (zc BK333.out 9).trans rfl
      have hcz30_10 : wc.cell? ⟨gb333, 10, none⟩ = some (.int .i64 a0_10) := (zc BK333.out 10).trans rfl
      have hcz30_11 : wc.cell? ⟨gb333, 11, none⟩ = some (.slice A0_11 l0_11.length c0_11) := (zc BK333.out 11).trans rfl
      have hfz30_0 := zf BK333.out 0
      have hfz30_1 := zf BK333.out 1
      have hfz30_2 := zf BK333.out 2
      have hfz30_3 := zf BK333.out 3
      have hfz30_4 := zf BK333.out 4
      have hfz30_5 := zf BK333.out 5
      have hfz30_6 := zf BK333.out 6
      have hfz30_7 := zf BK333.out 7
      have hfz30_8 := zf BK333.out 8
      have hfz30_9 := zf BK333.out 9
      have hfz30_10 := zf BK333.out 10
      have hfz30_11 := zf BK333.out 11
      go_wp2
      go_meet
      case rel => exact ⟨_, (true), (by first | rfl | simp [*]), H', ⟨by have := HJ1.out; first | omega | exact Nat.le_refl _⟩, ⟨by (with_reducible repeat (first | apply zn | apply zd | apply za)); exact BK333.out⟩, ⟨by repeat (first | (with_reducible first | exact HB.out | apply pa | apply pd | apply pe | refine zs ?_ GE333.out) | exact HB.out)⟩⟩
    rw [if_neg c29] at H
    have c29b0 : (!(a0_4 == 0) || (!(a0_5 == 0) || (a0_6 || (!(a0_7 == 0) || (a0_8))))) = false := by simpa using c29
    clear c29
    by_cases c31 : a0_0 = 1
    · rw [if_pos c31] at H
      have c31b0 : (a0_0 == 1) = true := beq_iff_eq.mpr c31
      have c31b1 : (a0_0 != 1) = false := bne_eq_false_iff_eq.mpr c31
      clear c31
      by_cases c32 : a0_0 = 0
      · rw [if_pos c32] at H
        have c32b0 : (a0_0 == 0) = true := beq_iff_eq.mpr c32
        have c32b1 : (a0_0 != 0) = false := bne_eq_false_iff_eq.mpr c32
        clear c32
        have H' := ak_ H
        clear H
        have hcz33_0 : wc.cell? ⟨gb333, 0, none⟩ = some (.int .i64 a0_0) := (zc BK333.out 0).trans rfl
        have hcz33_1 : wc.cell? ⟨gb333, 1, none⟩ = some (.int .i64 a0_1) := (zc BK333.out 1).trans rfl
        have hcz33_2 : wc.cell? ⟨gb333, 2, none⟩ = some (.int .i64 a0_2) := (zc BK333.out 2).trans rfl
        have hcz33_3 : wc.cell? ⟨gb333, 3, none⟩ = some (.string a0_3) := (zc BK333.out 3).trans rfl
        have hcz33_4 : wc.cell? ⟨gb333, 4, none⟩ = some (.int .i64 a0_4) := (zc BK333.out 4).trans rfl
        have hcz33_5 : wc.cell? ⟨gb333, 5, none⟩ = some (.int .i64 a0_5) := (zc BK333.out 5).trans rfl
        have hcz33_6 : wc.cell? ⟨gb333, 6, none⟩ = some (.bool a0_6) := (zc BK333.out 6).trans rfl
        have hcz33_7 : wc.cell? ⟨gb333, 7, none⟩ = some (.int .i64 a0_7) := (zc BK333.out 7).trans rfl
        have hcz33_8 : wc.cell? ⟨gb333, 8, none⟩ = some (.bool a0_8) := (zc BK333.out 8).trans rfl
        have hcz33_9 : wc.cell? ⟨gb333, 9, none⟩ = some (.string a0_9) := (zc BK333.out 9).trans rfl
        have hcz33_10 : wc.cell? ⟨gb333, 10, none⟩ = some (.int .i64 a0_10) := (zc BK333.out 10).trans rfl
        have hcz33_11 : wc.cell? ⟨gb333, 11, none⟩ = some (.slice A0_11 l0_11.length c0_11) := (zc BK333.out 11).trans rfl
        have hfz33_0 := zf BK333.out 0
        have hfz33_1 := zf BK333.out 1
        have hfz33_2 := zf BK333.out 2
        have hfz33_3 := zf BK333.out 3
        have hfz33_4 := zf BK333.out 4
        have hfz33_5 := zf BK333.out 5
        have hfz33_6 := zf BK333.out 6
        have hfz33_7 := zf BK333.out 7
        have hfz33_8 := zf BK333.out 8
        have hfz33_9 := zf BK333.out 9
        have hfz33_10 := zf BK333.out 10
        have hfz33_11 := zf BK333.out 11
        go_wp2
        go_meet
        case rel => exact ⟨_, (false), (by first | rfl | simp [*]), H', ⟨by have := HJ1.out; first | omega | exact Nat.le_refl _⟩, ⟨by (with_reducible repeat (first | apply zn | apply zd | apply za)); exact BK333.out⟩, ⟨by repeat (first | (with_reducible first | exact HB.out | apply pa | apply pd | apply pe | refine zs ?_ GE333.out) | exact HB.out)⟩⟩
      rw [if_neg c32] at H
      have c32b0 : (a0_0 == 0) = false := beq_eq_false_iff_ne.mpr c32
      have c32b1 : (a0_0 != 0) = true := bne_iff_ne.mpr c32
      replace H := ob_ H
      obtain ⟨t337, A340, H⟩ := H
      replace H : (code_Good.j1 kj1 (!t337) a0_0 a0_1 a0_2 a0_3 a0_4 a0_5 a0_6 a0_7 a0_8 a0_9 a0_10 l0_11) = some r := H
      have A34 := ak_ A340
      clear A340
      have H' := ak_ H
      clear H
      have hcz35_0 : wc.cell? ⟨gb333, 0, none⟩ = some (.int .i64 a0_0) := (zc BK333.out 0).trans rfl
      have hcz35_1 : wc.cell? ⟨gb333, 1, none⟩ = some (.int .i64 a0_1) := (zc BK333.out 1).trans rfl
      have hcz35_2 : wc.cell? ⟨gb333, 2, none⟩ = some (.int .i64 a0_2) := (zc BK333.out 2).trans rfl
      have hcz35_3 : wc.cell? ⟨gb333, 3, none⟩ = some (.string a0_3) := (zc BK333.out 3).trans rfl
      have hcz35_4 : wc.cell? ⟨gb333, 4, none⟩ = some (.int .i64 a0_4) := (zc BK333.out 4).trans rfl
      have hcz35_5 : wc.cell? ⟨gb333, 5, none⟩ = some (.int .i64 a0_5) := (zc BK333.out 5).trans rfl
      have hcz35_6 : wc.cell? ⟨gb333, 6, none⟩ = some (.bool a0_6) := (zc BK333.out 6).trans rfl
      have hcz35_7 : wc.cell? ⟨gb333, 7, none⟩ = some (.int .i64 a0_7) := (zc BK333.out 7).trans rfl
      have hcz35_8 : wc.cell? ⟨gb333, 8, none⟩ = some (.bool a0_8) := (zc BK333.out 8).trans rfl
      have hcz35_9 : wc.cell? ⟨gb333, 9, none⟩ = some (.string a0_9) := (zc BK333.out 9).trans rfl
      have hcz35_10 : wc.cell? ⟨gb333, 10, none⟩ = some (.int .i64 a0_10) := (zc BK333.out 10).trans rfl
      have hcz35_11 : wc.cell? ⟨gb333, 11, none⟩ = some (.slice A0_11 l0_11.length c0_11) := (zc BK333.out 11).trans rfl
      have hfz35_0 := zf BK333.out 0
      have hfz35_1 := zf BK333.out 1
      have hfz35_2 := zf BK333.out 2
      have hfz35_3 := zf BK333.out 3
      have hfz35_4 := zf BK333.out 4
      have hfz35_5 := zf BK333.out 5
      have hfz35_6 := zf BK333.out 6
      have hfz35_7 := zf BK333.out 7
      have hfz35_8 := zf BK333.out 8
      have hfz35_9 := zf BK333.out 9
      have hfz35_10 := zf BK333.out 10
      have hfz35_11 := zf BK333.out 11
      go_wp2_with (first | (go_at_call 43; (with_reducible refine (code_empty.calls a0_9 a0_10 _ _ l0_11 t337 _ ?side1 ?side2 A34.out).mono ?_); (case side1 => repeat (first | exact (Kd.C_below HR0_11.out HB.out) | (with_reducible refine Kd.C_alloc ?_ _) | (with_reducible refine Kd.C_drewN ?_ _) | (with_reducible refine Kd.C_drew ?_))); (case side2 => exact HC0_11.out); rintro e w36 ⟨rfl, hb⟩; have n0_ := ak_ (blk_below (g := gb333) (o := .cells #[.int .i64 a0_0, .int .i64 a0_1, .int .i64 a0_2, .string a0_3, .int .i64 a0_4, .int .i64 a0_5, .bool a0_6, .int .i64 a0_7, .bool a0_8, .string a0_9, .int .i64 a0_10, .slice A0_11 l0_11.length c0_11] 42 (0, 0)) (by (with_reducible repeat (first | apply zn | apply zd | apply za)); exact BK333.out) hb); have n1_ := ak_ (ps (by with_reducible repeat first | exact HB.out | apply pa | apply pd | apply pe | refine zs ?_ GE333.out) hb); clear BK333 HB; have BK333 := n0_; have HB := n1_; clear n0_ n1_))
      go_meet
      case rel => exact ⟨_, (!t337), (by first | rfl | simp [*]), H', ⟨by have := HJ1.out; first | omega | exact Nat.le_refl _⟩, ⟨by (with_reducible repeat (first | apply zn | apply zd | apply za)); exact BK333.out⟩, ⟨by repeat (first | (with_reducible first | exact HB.out | apply pa | apply pd | apply pe | refine zs ?_ GE333.out) | exact HB.out)⟩⟩
    rw [if_neg c31] at H
    have c31b0 : (a0_0 == 1) = false := beq_eq_false_iff_ne.mpr c31
    have c31b1 : (a0_0 != 1) = true := bne_iff_ne.mpr c31
    by_cases c37 : a0_3.toList = ([] : List UInt8)
    · rw [if_pos c37] at H
      have c37b0 : (a0_3.toList == ([] : List UInt8)) = true := beq_iff_eq.mpr c37
      have c37b1 : (a0_3.toList != ([] : List UInt8)) = false := bne_eq_false_iff_eq.mpr c37
      clear c37
      by_cases c38 : a0_0 = 0
      · rw [if_pos c38] at H
        have c38b0 : (a0_0 == 0) = true := beq_iff_eq.mpr c38
        have c38b1 : (a0_0 != 0) = false := bne_eq_false_iff_eq.mpr c38
        clear c38
        have H' := ak_ H
        clear H
        have hcz39_0 : wc.cell? ⟨gb333, 0, none⟩ = some (.int .i64 a0_0) := (zc BK333.out 0).trans rfl
        have hcz39_1 : wc.cell? ⟨gb333, 1, none⟩ = some (.int .i64 a0_1) := (zc BK333.out 1).trans rfl
        have hcz39_2 : wc.cell? ⟨gb333, 2, none⟩ = some (.int .i64 a0_2) := (zc BK333.out 2).trans rfl
        have hcz39_3 : wc.cell? ⟨gb333, 3, none⟩ = some (.string a0_3) := (zc BK333.out 3).trans rfl
        have hcz39_4 : wc.cell? ⟨gb333, 4, none⟩ = some (.int .i64 a0_4) := (zc BK333.out 4).trans rfl
        have hcz39_5 : wc.cell? ⟨gb333, 5, none⟩ = some (.int .i64 a0_5) := (zc BK333.out 5).trans rfl
        have hcz39_6 : wc.cell? ⟨gb333, 6, none⟩ = some (.bool a0_6) := (zc BK333.out 6).trans rfl
        have hcz39_7 : wc.cell? ⟨gb333, 7, none⟩ = some (.int .i64 a0_7) := (zc BK333.out 7).trans rfl
        have hcz39_8 : wc.cell? ⟨gb333, 8, none⟩ = some (.bool a0_8) := (zc BK333.out 8).trans rfl
        have hcz39_9 : wc.cell? ⟨gb333, 9, none⟩ = some (.string a0_9) := (zc BK333.out 9).trans rfl
        have hcz39_10 : wc.cell? ⟨gb333, 10, none⟩ = some (.int .i64 a0_10) := (zc BK333.out 10).trans rfl
        have hcz39_11 : wc.cell? ⟨gb333, 11, none⟩ = some (.slice A0_11 l0_11.length c0_11) := (zc BK333.out 11).trans rfl
        have hfz39_0 := zf BK333.out 0
        have hfz39_1 := zf BK333.out 1
        have hfz39_2 := zf BK333.out 2
        have hfz39_3 := zf BK333.out 3
        have hfz39_4 := zf BK333.out 4
        have hfz39_5 := zf BK333.out 5
        have hfz39_6 := zf BK333.out 6
        have hfz39_7 := zf BK333.out 7
        have hfz39_8 := zf BK333.out 8
        have hfz39_9 := zf BK333.out 9
        have hfz39_10 := zf BK333.out 10
        have hfz39_11 := zf BK333.out 11
        go_wp2
        go_meet
        case rel => exact ⟨_, (false), (by first | rfl | simp [*]), H', ⟨by have := HJ1.out; first | omega | exact Nat.le_refl _⟩, ⟨by (with_reducible repeat (first | apply zn | apply zd | apply za)); exact BK333.out⟩, ⟨by repeat (first | (with_reducible first | exact HB.out | apply pa | apply pd | apply pe | refine zs ?_ GE333.out) | exact HB.out)⟩⟩
      rw [if_neg c38] at H
      have c38b0 : (a0_0 == 0) = false := beq_eq_false_iff_ne.mpr c38
      have c38b1 : (a0_0 != 0) = true := bne_iff_ne.mpr c38
      replace H := ob_ H
      obtain ⟨t338, A400, H⟩ := H
      replace H : (code_Good.j1 kj1 (!t338) a0_0 a0_1 a0_2 a0_3 a0_4 a0_5 a0_6 a0_7 a0_8 a0_9 a0_10 l0_11) = some r := H
      have A40 := ak_ A400
      clear A400
      have H' := ak_ H
      clear H
      have hcz41_0 : wc.cell? ⟨gb333, 0, none⟩ = some (.int .i64 a0_0) := (zc BK333.out 0).trans rfl
      have hcz41_1 : wc.cell? ⟨gb333, 1, none⟩ = some (.int .i64 a0_1) := (zc BK333.out 1).trans rfl
      have hcz41_2 : wc.cell? ⟨gb333, 2, none⟩ = some (.int .i64 a0_2) := (zc BK333.out 2).trans rfl
      have hcz41_3 : wc.cell? ⟨gb333, 3, none⟩ = some (.string a0_3) := (zc BK333.out 3).trans rfl
      have hcz41_4 : wc.cell? ⟨gb333, 4, none⟩ = some (.int .i64 a0_4) := (zc BK333.out 4).trans rfl
      have hcz41_5 : wc.cell? ⟨gb333, 5, none⟩ = some (.int .i64 a0_5) := (zc BK333.out 5).trans rfl
      have hcz41_6 : wc.cell? ⟨gb333, 6, none⟩ = some (.bool a0_6) := (zc BK333.out 6).trans rfl
      have hcz41_7 : wc.cell? ⟨gb333, 7, none⟩ = some (.int .i64 a0_7) := (zc BK333.out 7).trans rfl
      have hcz41_8 : wc.cell? ⟨gb333, 8, none⟩ = some (.bool a0_8) := (zc BK333.out 8).trans rfl
      have hcz41_9 : wc.cell? ⟨gb333, 9, none⟩ = some (.string a0_9) := (zc BK333.out 9).trans rfl
      have hcz41_10 : wc.cell? ⟨gb333, 10, none⟩ = some (.int .i64 a0_10) := (zc BK333.out 10).trans rfl
      have hcz41_11 : wc.cell? ⟨gb333, 11, none⟩ = some (.slice A0_11 l0_11.length c0_11) := (zc BK333.out 11).trans rfl
      have hfz41_0 := zf BK333.out 0
      have hfz41_1 := zf BK333.out 1
      have hfz41_2 := zf BK333.out 2
      have hfz41_3 := zf BK333.out 3
      have hfz41_4 := zf BK333.out 4
      have hfz41_5 := zf BK333.out 5
      have hfz41_6 := zf BK333.out 6
      have hfz41_7 := zf BK333.out 7
      have hfz41_8 := zf BK333.out 8
      have hfz41_9 := zf BK333.out 9
      have hfz41_10 := zf BK333.out 10
      have hfz41_11 := zf BK333.out 11
      go_wp2_with (first | (go_at_call 43; (with_reducible refine (code_empty.calls a0_9 a0_10 _ _ l0_11 t338 _ ?side1 ?side2 A40.out).mono ?_); (case side1 => repeat (first | exact (Kd.C_below HR0_11.out HB.out) | (with_reducible refine Kd.C_alloc ?_ _) | (with_reducible refine Kd.C_drewN ?_ _) | (with_reducible refine Kd.C_drew ?_))); (case side2 => exact HC0_11.out); rintro e w42 ⟨rfl, hb⟩; have n0_ := ak_ (blk_below (g := gb333) (o := .cells #[.int .i64 a0_0, .int .i64 a0_1, .int .i64 a0_2, .string a0_3, .int .i64 a0_4, .int .i64 a0_5, .bool a0_6, .int .i64 a0_7, .bool a0_8, .string a0_9, .int .i64 a0_10, .slice A0_11 l0_11.length c0_11] 42 (0, 0)) (by (with_reducible repeat (first | apply zn | apply zd | apply za)); exact BK333.out) hb); have n1_ := ak_ (ps (by with_reducible repeat first | exact HB.out | apply pa | apply pd | apply pe | refine zs ?_ GE333.out) hb); clear BK333 HB; have BK333 := n0_; have HB := n1_; clear n0_ n1_))
      go_meet
      case rel => exact ⟨_, (!t338), (by first | rfl | simp [*]), H', ⟨by have := HJ1.out; first | omega | exact Nat.le_refl _⟩, ⟨by (with_reducible repeat (first | apply zn | apply zd | apply za)); exact BK333.out⟩, ⟨by repeat (first | (with_reducible first | exact HB.out | apply pa | apply pd | apply pe | refine zs ?_ GE333.out) | exact HB.out)⟩⟩
    rw [if_neg c37] at H
    have c37b0 : (a0_3.toList == ([] : List UInt8)) = false := beq_eq_false_iff_ne.mpr c37
    have c37b1 : (a0_3.toList != ([] : List UInt8)) = true := bne_iff_ne.mpr c37
    have H' := ak_ H
    clear H
    have hcz43_0 : wc.cell? ⟨gb333, 0, none⟩ = some (.int .i64 a0_0) := (zc BK333.out 0).trans rfl
    have hcz43_1 : wc.cell? ⟨gb333, 1, none⟩ = some (.int .i64 a0_1) := (zc BK333.out 1).trans rfl
    have hcz43_2 : wc.cell? ⟨gb333, 2, none⟩ = some (.int .i64 a0_2) := (zc BK333.out 2).trans rfl
    have hcz43_3 : wc.cell? ⟨gb333, 3, none⟩ = some (.string a0_3) := (zc BK333.out 3).trans rfl
    have hcz43_4 : wc.cell? ⟨gb333, 4, none⟩ = some (.int .i64 a0_4) := (zc BK333.out 4).trans rfl
    have hcz43_5 : wc.cell? ⟨gb333, 5, none⟩ = some (.int .i64 a0_5) := (zc BK333.out 5).trans rfl
    have hcz43_6 : wc.cell? ⟨gb333, 6, none⟩ = some (.bool a0_6) := (zc BK333.out 6).trans rfl
    have hcz43_7 : wc.cell? ⟨gb333, 7, none⟩ = some (.int .i64 a0_7) := (zc BK333.out 7).trans rfl
    have hcz43_8 : wc.cell? ⟨gb333, 8, none⟩ = some (.bool a0_8) := (zc BK333.out 8).trans rfl
    have hcz43_9 : wc.cell? ⟨gb333, 9, none⟩ = some (.string a0_9) := (zc BK333.out 9).trans rfl
    have hcz43_10 : wc.cell? ⟨gb333, 10, none⟩ = some (.int .i64 a0_10) := (zc BK333.out 10).trans rfl
    have hcz43_11 : wc.cell? ⟨gb333, 11, none⟩ = some (.slice A0_11 l0_11.length c0_11) := (zc BK333.out 11).trans rfl
    have hfz43_0 := zf BK333.out 0
    have hfz43_1 := zf BK333.out 1
    have hfz43_2 := zf BK333.out 2
    have hfz43_3 := zf BK333.out 3
    have hfz43_4 := zf BK333.out 4
    have hfz43_5 := zf BK333.out 5
    have hfz43_6 := zf BK333.out 6
    have hfz43_7 := zf BK333.out 7
    have hfz43_8 := zf BK333.out 8
    have hfz43_9 := zf BK333.out 9
    have hfz43_10 := zf BK333.out 10
    have hfz43_11 := zf BK333.out 11
    go_wp2
    go_meet
    case rel => exact ⟨_, (true), (by first | rfl | simp [*]), H', ⟨by have := HJ1.out; first | omega | exact Nat.le_refl _⟩, ⟨by (with_reducible repeat (first | apply zn | apply zd | apply za)); exact BK333.out⟩, ⟨by repeat (first | (with_reducible first | exact HB.out | apply pa | apply pd | apply pe | refine zs ?_ GE333.out) | exact HB.out)⟩⟩
   case rest =>
    clear HC14
    try clear c1
    try clear c2
    try clear p2
    try clear c3
    try clear c4
    try clear c4b0
    try clear c6
    try clear c6b0
    try clear c9
    try clear c13
    try clear c15
    try clear c15b0
    try clear c15b1
    try clear c16
    try clear c16b0
    try clear c16b1
    try clear c17
    try clear c17b0
    try clear c17b1
    try clear c22
    try clear c22b0
    try clear c22b1
    try clear c23
    try clear c23b0
    try clear c23b1
    try clear c29
    try clear c29b0
    try clear c31
    try clear c31b0
    try clear c31b1
    try clear c32
    try clear c32b0
    try clear c32b1
    try clear c37
    try clear c37b0
    try clear c37b1
    try clear c38
    try clear c38b0
    try clear c38b1
    try clear hcz10_0
    try clear hcz10_1
    try clear hcz10_10
    try clear hcz10_11
    try clear hcz10_2
    try clear hcz10_3
    try clear hcz10_4
    try clear hcz10_5
    try clear hcz10_6
    try clear hcz10_7
    try clear hcz10_8
    try clear hcz10_9
    try clear hcz11_0
    try clear hcz11_1
    try clear hcz11_10
    try clear hcz11_11
    try clear hcz11_2
    try clear hcz11_3
    try clear hcz11_4
    try clear hcz11_5
    try clear hcz11_6
    try clear hcz11_7
    try clear hcz11_8
    try clear hcz11_9
    try clear hcz18_0
    try clear hcz18_1
    try clear hcz18_10
    try clear hcz18_11
    try clear hcz18_2
    try clear hcz18_3
    try clear hcz18_4
    try clear hcz18_5
    try clear hcz18_6
    try clear hcz18_7
    try clear hcz18_8
    try clear hcz18_9
    try clear hcz20_0
    try clear hcz20_1
    try clear hcz20_10
    try clear hcz20_11
    try clear hcz20_2
    try clear hcz20_3
    try clear hcz20_4
    try clear hcz20_5
    try clear hcz20_6
    try clear hcz20_7
    try clear hcz20_8
    try clear hcz20_9
    try clear hcz24_0
    try clear hcz24_1
    try clear hcz24_10
    try clear hcz24_11
    try clear hcz24_2
    try clear hcz24_3
    try clear hcz24_4
    try clear hcz24_5
    try clear hcz24_6
    try clear hcz24_7
    try clear hcz24_8
    try clear hcz24_9
    try clear hcz26_0
    try clear hcz26_1
    try clear hcz26_10
    try clear hcz26_11
    try clear hcz26_2
    try clear hcz26_3
    try clear hcz26_4
    try clear hcz26_5
    try clear hcz26_6
    try clear hcz26_7
    try clear hcz26_8
    try clear hcz26_9
    try clear hcz28_0
    try clear hcz28_1
    try clear hcz28_10
    try clear hcz28_11
    try clear hcz28_2
    try clear hcz28_3
    try clear hcz28_4
    try clear hcz28_5
    try clear hcz28_6
    try clear hcz28_7
    try clear hcz28_8
    try clear hcz28_9
    try clear hcz30_0
    try clear hcz30_1
    try clear hcz30_10
    try clear hcz30_11
    try clear hcz30_2
    try clear hcz30_3
    try clear hcz30_4
    try clear hcz30_5
    try clear hcz30_6
    try clear hcz30_7
    try clear hcz30_8
    try clear hcz30_9
    try clear hcz33_0
    try clear hcz33_1
    try clear hcz33_10
    try clear hcz33_11
    try clear hcz33_2
    try clear hcz33_3
    try clear hcz33_4
    try clear hcz33_5
    try clear hcz33_6
    try clear hcz33_7
    try clear hcz33_8
    try clear hcz33_9
    try clear hcz35_0
    try clear hcz35_1
    try clear hcz35_10
    try clear hcz35_11
    try clear hcz35_2
    try clear hcz35_3
    try clear hcz35_4
    try clear hcz35_5
    try clear hcz35_6
    try clear hcz35_7
    try clear hcz35_8
    try clear hcz35_9
    try clear hcz39_0
    try clear hcz39_1
    try clear hcz39_10
    try clear hcz39_11
    try clear hcz39_2
    try clear hcz39_3
    try clear hcz39_4
    try clear hcz39_5
    try clear hcz39_6
    try clear hcz39_7
    try clear hcz39_8
    try clear hcz39_9
    try clear hcz41_0
    try clear hcz41_1
    try clear hcz41_10
    try clear hcz41_11
    try clear hcz41_2
    try clear hcz41_3
    try clear hcz41_4
    try clear hcz41_5
    try clear hcz41_6
    try clear hcz41_7
    try clear hcz41_8
    try clear hcz41_9
    try clear hcz43_0
    try clear hcz43_1
    try clear hcz43_10
    try clear hcz43_11
    try clear hcz43_2
    try clear hcz43_3
    try clear hcz43_4
    try clear hcz43_5
    try clear hcz43_6
    try clear hcz43_7
    try clear hcz43_8
    try clear hcz43_9
    try clear hcz5_0
    try clear hcz5_1
    try clear hcz5_10
    try clear hcz5_11
    try clear hcz5_2
    try clear hcz5_3
    try clear hcz5_4
    try clear hcz5_5
    try clear hcz5_6
    try clear hcz5_7
    try clear hcz5_8
    try clear hcz5_9
    try clear hcz7_0
    try clear hcz7_1
    try clear hcz7_10
    try clear hcz7_11
    try clear hcz7_2
    try clear hcz7_3
    try clear hcz7_4
    try clear hcz7_5
    try clear hcz7_6
    try clear hcz7_7
    try clear hcz7_8
    try clear hcz7_9
    try clear hfz10_0
    try clear hfz10_1
    try clear hfz10_10
    try clear hfz10_11
    try clear hfz10_2
    try clear hfz10_3
    try clear hfz10_4
    try clear hfz10_5
    try clear hfz10_6
    try clear hfz10_7
    try clear hfz10_8
    try clear hfz10_9
    try clear hfz11_0
    try clear hfz11_1
    try clear hfz11_10
    try clear hfz11_11
    try clear hfz11_2
    try clear hfz11_3
    try clear hfz11_4
    try clear hfz11_5
    try clear hfz11_6
    try clear hfz11_7
    try clear hfz11_8
    try clear hfz11_9
    try clear hfz18_0
    try clear hfz18_1
    try clear hfz18_10
    try clear hfz18_11
    try clear hfz18_2
    try clear hfz18_3
    try clear hfz18_4
    try clear hfz18_5
    try clear hfz18_6
    try clear hfz18_7
    try clear hfz18_8
    try clear hfz18_9
    try clear hfz20_0
    try clear hfz20_1
    try clear hfz20_10
    try clear hfz20_11
    try clear hfz20_2
    try clear hfz20_3
    try clear hfz20_4
    try clear hfz20_5
    try clear hfz20_6
    try clear hfz20_7
    try clear hfz20_8
    try clear hfz20_9
    try clear hfz24_0
    try clear hfz24_1
    try clear hfz24_10
    try clear hfz24_11
    try clear hfz24_2
    try clear hfz24_3
    try clear hfz24_4
    try clear hfz24_5
    try clear hfz24_6
    try clear hfz24_7
    try clear hfz24_8
    try clear hfz24_9
    try clear hfz26_0
    try clear hfz26_1
    try clear hfz26_10
    try clear hfz26_11
    try clear hfz26_2
    try clear hfz26_3
    try clear hfz26_4
    try clear hfz26_5
    try clear hfz26_6
    try clear hfz26_7
    try clear hfz26_8
    try clear hfz26_9
    try clear hfz28_0
    try clear hfz28_1
    try clear hfz28_10
    try clear hfz28_11
    try clear hfz28_2
    try clear hfz28_3
    try clear hfz28_4
    try clear hfz28_5
    try clear hfz28_6
    try clear hfz28_7
    try clear hfz28_8
    try clear hfz28_9
    try clear hfz30_0
    try clear hfz30_1
    try clear hfz30_10
    try clear hfz30_11
    try clear hfz30_2
    try clear hfz30_3
    try clear hfz30_4
    try clear hfz30_5
    try clear hfz30_6
    try clear hfz30_7
    try clear hfz30_8
    try clear hfz30_9
    try clear hfz33_0
    try clear hfz33_1
    try clear hfz33_10
    try clear hfz33_11
    try clear hfz33_2
    try clear hfz33_3
    try clear hfz33_4
    try clear hfz33_5
    try clear hfz33_6
    try clear hfz33_7
    try clear hfz33_8
    try clear hfz33_9
    try clear hfz35_0
    try clear hfz35_1
    try clear hfz35_10
    try clear hfz35_11
    try clear hfz35_2
    try clear hfz35_3
    try clear hfz35_4
    try clear hfz35_5
    try clear hfz35_6
    try clear hfz35_7
    try clear hfz35_8
    try clear hfz35_9
    try clear hfz39_0
    try clear hfz39_1
    try clear hfz39_10
    try clear hfz39_11
    try clear hfz39_2
    try clear hfz39_3
    try clear hfz39_4
    try clear hfz39_5
    try clear hfz39_6
    try clear hfz39_7
    try clear hfz39_8
    try clear hfz39_9
    try clear hfz41_0
    try clear hfz41_1
    try clear hfz41_10
    try clear hfz41_11
    try clear hfz41_2
    try clear hfz41_3
    try clear hfz41_4
    try clear hfz41_5
    try clear hfz41_6
    try clear hfz41_7
    try clear hfz41_8
    try clear hfz41_9
    try clear hfz43_0
    try clear hfz43_1
    try clear hfz43_10
    try clear hfz43_11
    try clear hfz43_2
    try clear hfz43_3
    try clear hfz43_4
    try clear hfz43_5
    try clear hfz43_6
    try clear hfz43_7
    try clear hfz43_8
    try clear hfz43_9
    try clear hfz5_0
    try clear hfz5_1
    try clear hfz5_10
    try clear hfz5_11
    try clear hfz5_2
    try clear hfz5_3
    try clear hfz5_4
    try clear hfz5_5
    try clear hfz5_6
    try clear hfz5_7
    try clear hfz5_8
    try clear hfz5_9
    try clear hfz7_0
    try clear hfz7_1
    try clear hfz7_10
    try clear hfz7_11
    try clear hfz7_2
    try clear hfz7_3
    try clear hfz7_4
    try clear hfz7_5
    try clear hfz7_6
    try clear hfz7_7
    try clear hfz7_8
    try clear hfz7_9
    try clear p2
    obtain ⟨kq, x53_13, rfl, HA, HJ13, BK333, HB⟩ := hcut
    cases kq with
    | zero => exact absurd HA.out (by simp [code_Good.j1])
    | succ kj13 =>
     have H := HA.out
     clear HA
     simp only [code_Good.j1] at H
     have HF44 := ak_ H
     clear H
     go_upto_if 53 with (fail)
     have H := HF44.out
     clear HF44
     by_cases c45 : x53_13 = true
     · subst c45
       have H1 : (some false) = some r := by rw [if_pos rfl] at H; exact H
       clear H
       have H := H1
       clear H1
       obtain rfl := Option.some.inj H
       go_wp2
       go_ret
       exact ⟨by first | rfl | simp [*], by repeat (first | (with_reducible first | exact HB.out | apply pa | apply pd | apply pe | refine zs ?_ GE333.out) | exact HB.out)⟩
     replace c45 := Bool.eq_false_iff.mpr c45
     subst c45
     have H1 : (if a0_0 = 0 then ((def_Check.f kj13 a0_9 a0_10 l0_11).bind fun bt339 => (if bt339.2 = 0 then (some (a0_2 == 0)) else (some false))) else (if a0_0 = 1 then ((label_Good.f a0_3).bind fun t341 => (some t341)) else (if a0_0 = 3 then (if a0_4 ≥ 0 then (if a0_5 ≥ 0 then (some (decide (a0_7 ≥ 0))) else (some false)) else (some false)) else (some true)))) = some r := by rw [if_neg (show ¬ (false = true) by decide)] at H; exact H
     clear H
     have H := H1
     clear H1
     have HF46 := ak_ H
     clear H
     have hcz47_0 : wc.cell? ⟨gb333, 0, none⟩ = some (.int .i64 a0_0) := (zc BK333.out 0).trans rfl
     have hcz47_1 : wc.cell? ⟨gb333, 1, none⟩ = some (.int .i64 a0_1) := (zc BK333.out 1).trans rfl
     have hcz47_2 : wc.cell? ⟨gb333, 2, none⟩ = some (.int .i64 a0_2) := (zc BK333.out 2).trans rfl
     have hcz47_3 : wc.cell? ⟨gb333, 3, none⟩ = some (.string a0_3) := (zc BK333.out 3).trans rfl
     have hcz47_4 : wc.cell? ⟨gb333, 4, none⟩ = some (.int .i64 a0_4) := (zc BK333.out 4).trans rfl
     have hcz47_5 : wc.cell? ⟨gb333, 5, none⟩ = some (.int .i64 a0_5) := (zc BK333.out 5).trans rfl
     have hcz47_6 : wc.cell? ⟨gb333, 6, none⟩ = some (.bool a0_6) := (zc BK333.out 6).trans rfl
     have hcz47_7 : wc.cell? ⟨gb333, 7, none⟩ = some (.int .i64 a0_7) := (zc BK333.out 7).trans rfl
     have hcz47_8 : wc.cell? ⟨gb333, 8, none⟩ = some (.bool a0_8) := (zc BK333.out 8).trans rfl
     have hcz47_9 : wc.cell? ⟨gb333, 9, none⟩ = some (.string a0_9) := (zc BK333.out 9).trans rfl
     have hcz47_10 : wc.cell? ⟨gb333, 10, none⟩ = some (.int .i64 a0_10) := (zc BK333.out 10).trans rfl
     have hcz47_11 : wc.cell? ⟨gb333, 11, none⟩ = some (.slice A0_11 l0_11.length c0_11) := (zc BK333.out 11).trans rfl
     have hfz47_0 := zf BK333.out 0
     have hfz47_1 := zf BK333.out 1
     have hfz47_2 := zf BK333.out 2
     have hfz47_3 := zf BK333.out 3
     have hfz47_4 := zf BK333.out 4
     have hfz47_5 := zf BK333.out 5
     have hfz47_6 := zf BK333.out 6
     have hfz47_7 := zf BK333.out 7
     have hfz47_8 := zf BK333.out 8
     have hfz47_9 := zf BK333.out 9
     have hfz47_10 := zf BK333.out 10
     have hfz47_11 := zf BK333.out 11
     go_upto_if 56 with (fail)
     have H := HF46.out
     clear HF46
     by_cases c48 : a0_0 = 0
     · rw [if_pos c48] at H
       have c48b0 : (a0_0 == 0) = true := beq_iff_eq.mpr c48
       have c48b1 : (a0_0 != 0) = false := bne_eq_false_iff_eq.mpr c48
       clear c48
       (first | rw [c48b0] | (simp only [i64_w, i32_w]; rw [c48b0]) | skip)
       replace H := ob_ H
       obtain ⟨⟨t339, t340⟩, A490, H⟩ := H
       replace H : (if t340 = 0 then (some (a0_2 == 0)) else (some false)) = some r := H
       have A49 := ak_ A490
       clear A490
       by_cases c50 : t340 = 0
       · rw [if_pos c50] at H
         have c50b0 : (t340 == 0) = true := beq_iff_eq.mpr c50
         have c50b1 : (t340 != 0) = false := bne_eq_false_iff_eq.mpr c50
         clear c50
         obtain rfl := Option.some.inj H
         have hcz51_0 : wc.cell? ⟨gb333, 0, none⟩ = some (.int .i64 a0_0) := (zc BK333.out 0).trans rfl
         have hcz51_1 : wc.cell? ⟨gb333, 1, none⟩ = some (.int .i64 a0_1) := (zc BK333.out 1).trans rfl
         have hcz51_2 : wc.cell? ⟨gb333, 2, none⟩ = some (.int .i64 a0_2) := (zc BK333.out 2).trans rfl
         have hcz51_3 : wc.cell? ⟨gb333, 3, none⟩ = some (.string a0_3) := (zc BK333.out 3).trans rfl
         have hcz51_4 : wc.cell? ⟨gb333, 4, none⟩ = some (.int .i64 a0_4) := (zc BK333.out 4).trans rfl
         have hcz51_5 : wc.cell? ⟨gb333, 5, none⟩ = some (.int .i64 a0_5) := (zc BK333.out 5).trans rfl
         have hcz51_6 : wc.cell? ⟨gb333, 6, none⟩ = some (.bool a0_6) := (zc BK333.out 6).trans rfl
         have hcz51_7 : wc.cell? ⟨gb333, 7, none⟩ = some (.int .i64 a0_7) := (zc BK333.out 7).trans rfl
         have hcz51_8 : wc.cell? ⟨gb333, 8, none⟩ = some (.bool a0_8) := (zc BK333.out 8).trans rfl
         have hcz51_9 : wc.cell? ⟨gb333, 9, none⟩ = some (.string a0_9) := (zc BK333.out 9).trans rfl
         have hcz51_10 : wc.cell? ⟨gb333, 10, none⟩ = some (.int .i64 a0_10) := (zc BK333.out 10).trans rfl
         have hcz51_11 : wc.cell? ⟨gb333, 11, none⟩ = some (.slice A0_11 l0_11.length c0_11) := (zc BK333.out 11).trans rfl
         have hfz51_0 := zf BK333.out 0
         have hfz51_1 := zf BK333.out 1
         have hfz51_2 := zf BK333.out 2
         have hfz51_3 := zf BK333.out 3
         have hfz51_4 := zf BK333.out 4
         have hfz51_5 := zf BK333.out 5
         have hfz51_6 := zf BK333.out 6
         have hfz51_7 := zf BK333.out 7
         have hfz51_8 := zf BK333.out 8
         have hfz51_9 := zf BK333.out 9
         have hfz51_10 := zf BK333.out 10
         have hfz51_11 := zf BK333.out 11
         go_wp2_with (first | ((with_reducible refine gate_callee (f := 31) rfl ?_); refine goesL_ (some 61) rfl rfl Tryd.func31 (by kernel_rfl) rfl #[.agg #[.string a0_9, .int .i64 a0_10, .slice A0_11 l0_11.length c0_11]] rfl (by (try simp only [mt_, mc_, mn_]); first | done | rfl) ?_; (with_reducible refine (def_Check.calls kj13 a0_9 a0_10 _ _ l0_11 t339 t340 _ ?side1 ?side2 ?tab_ A49.out).mono ?_); (case tab_ => first | exact HT.out | exact Tabs_.below HT.out (by with_reducible repeat first | exact HB.out | apply pa | apply pd | apply pe)); (case side1 => repeat (first | exact (Kd.C_below HR0_11.out HB.out) | (with_reducible refine Kd.C_alloc ?_ _) | (with_reducible refine Kd.C_drewN ?_ _) | (with_reducible refine Kd.C_drew ?_))); (case side2 => exact HC0_11.out); rintro e w52 ⟨rfl, hb⟩; refine ⟨_, rfl, ?_⟩; have n0_ := ak_ (blk_below (g := gb333) (o := .cells #[.int .i64 a0_0, .int .i64 a0_1, .int .i64 a0_2, .string a0_3, .int .i64 a0_4, .int .i64 a0_5, .bool a0_6, .int .i64 a0_7, .bool a0_8, .string a0_9, .int .i64 a0_10, .slice A0_11 l0_11.length c0_11] 42 (0, 0)) (by (with_reducible repeat (first | apply zn | apply zd | apply za)); exact BK333.out) hb); have n1_ := ak_ (ps (by with_reducible repeat first | exact HB.out | apply pa | apply pd | apply pe | refine zs ?_ GE333.out) hb); clear BK333 HB; have BK333 := n0_; have HB := n1_; clear n0_ n1_; have hcz53_0 : w52.cell? ⟨gb333, 0, none⟩ = some (.int .i64 a0_0) := (zc BK333.out 0).trans rfl; have hcz53_1 : w52.cell? ⟨gb333, 1, none⟩ = some (.int .i64 a0_1) := (zc BK333.out 1).trans rfl; have hcz53_2 : w52.cell? ⟨gb333, 2, none⟩ = some (.int .i64 a0_2) := (zc BK333.out 2).trans rfl; have hcz53_3 : w52.cell? ⟨gb333, 3, none⟩ = some (.string a0_3) := (zc BK333.out 3).trans rfl; have hcz53_4 : w52.cell? ⟨gb333, 4, none⟩ = some (.int .i64 a0_4) := (zc BK333.out 4).trans rfl; have hcz53_5 : w52.cell? ⟨gb333, 5, none⟩ = some (.int .i64 a0_5) := (zc BK333.out 5).trans rfl; have hcz53_6 : w52.cell? ⟨gb333, 6, none⟩ = some (.bool a0_6) := (zc BK333.out 6).trans rfl; have hcz53_7 : w52.cell? ⟨gb333, 7, none⟩ = some (.int .i64 a0_7) := (zc BK333.out 7).trans rfl; have hcz53_8 : w52.cell? ⟨gb333, 8, none⟩ = some (.bool a0_8) := (zc BK333.out 8).trans rfl; have hcz53_9 : w52.cell? ⟨gb333, 9, none⟩ = some (.string a0_9) := (zc BK333.out 9).trans rfl; have hcz53_10 : w52.cell? ⟨gb333, 10, none⟩ = some (.int .i64 a0_10) := (zc BK333.out 10).trans rfl; have hcz53_11 : w52.cell? ⟨gb333, 11, none⟩ = some (.slice A0_11 l0_11.length c0_11) := (zc BK333.out 11).trans rfl; have hfz53_0 := zf BK333.out 0; have hfz53_1 := zf BK333.out 1; have hfz53_2 := zf BK333.out 2; have hfz53_3 := zf BK333.out 3; have hfz53_4 := zf BK333.out 4; have hfz53_5 := zf BK333.out 5; have hfz53_6 := zf BK333.out 6; have hfz53_7 := zf BK333.out 7; have hfz53_8 := zf BK333.out 8; have hfz53_9 := zf BK333.out 9; have hfz53_10 := zf BK333.out 10; have hfz53_11 := zf BK333.out 11))
         go_ret
         exact ⟨by first | rfl | simp [*], by repeat (first | (with_reducible first | exact HB.out | apply pa | apply pd | apply pe | refine zs ?_ GE333.out) | exact HB.out)⟩
       rw [if_neg c50] at H
       have c50b0 : (t340 == 0) = false := beq_eq_false_iff_ne.mpr c50
       have c50b1 : (t340 != 0) = true := bne_iff_ne.mpr c50
       obtain rfl := Option.some.inj H
       have hcz54_0 : wc.cell? ⟨gb333, 0, none⟩ = some (.int .i64 a0_0) := (zc BK333.out 0).trans rfl
       have hcz54_1 : wc.cell? ⟨gb333, 1, none⟩ = some (.int .i64 a0_1) := (zc BK333.out 1).trans rfl
       have hcz54_2 : wc.cell? ⟨gb333, 2, none⟩ = some (.int .i64 a0_2) := (zc BK333.out 2).trans rfl
       have hcz54_3 : wc.cell? ⟨gb333, 3, none⟩ = some (.string a0_3) := (zc BK333.out 3).trans rfl
       have hcz54_4 : wc.cell? ⟨gb333, 4, none⟩ = some (.int .i64 a0_4) := (zc BK333.out 4).trans rfl
       have hcz54_5 : wc.cell? ⟨gb333, 5, none⟩ = some (.int .i64 a0_5) := (zc BK333.out 5).trans rfl
       have hcz54_6 : wc.cell? ⟨gb333, 6, none⟩ = some (.bool a0_6) := (zc BK333.out 6).trans rfl
       have hcz54_7 : wc.cell? ⟨gb333, 7, none⟩ = some (.int .i64 a0_7) := (zc BK333.out 7).trans rfl
       have hcz54_8 : wc.cell? ⟨gb333, 8, none⟩ = some (.bool a0_8) := (zc BK333.out 8).trans rfl
       have hcz54_9 : wc.cell? ⟨gb333, 9, none⟩ = some (.string a0_9) := (zc BK333.out 9).trans rfl
       have hcz54_10 : wc.cell? ⟨gb333, 10, none⟩ = some (.int .i64 a0_10) := (zc BK333.out 10).trans rfl
       have hcz54_11 : wc.cell? ⟨gb333, 11, none⟩ = some (.slice A0_11 l0_11.length c0_11) := (zc BK333.out 11).trans rfl
       have hfz54_0 := zf BK333.out 0
       have hfz54_1 := zf BK333.out 1
       have hfz54_2 := zf BK333.out 2
       have hfz54_3 := zf BK333.out 3
       have hfz54_4 := zf BK333.out 4
       have hfz54_5 := zf BK333.out 5
       have hfz54_6 := zf BK333.out 6
       have hfz54_7 := zf BK333.out 7
       have hfz54_8 := zf BK333.out 8
       have hfz54_9 := zf BK333.out 9
       have hfz54_10 := zf BK333.out 10
       have hfz54_11 := zf BK333.out 11
       go_wp2_with (first | ((with_reducible refine gate_callee (f := 31) rfl ?_); refine goesL_ (some 61) rfl rfl Tryd.func31 (by kernel_rfl) rfl #[.agg #[.string a0_9, .int .i64 a0_10, .slice A0_11 l0_11.length c0_11]] rfl (by (try simp only [mt_, mc_, mn_]); first | done | rfl) ?_; (with_reducible refine (def_Check.calls kj13 a0_9 a0_10 _ _ l0_11 t339 t340 _ ?side1 ?side2 ?tab_ A49.out).mono ?_); (case tab_ => first | exact HT.out | exact Tabs_.below HT.out (by with_reducible repeat first | exact HB.out | apply pa | apply pd | apply pe)); (case side1 => repeat (first | exact (Kd.C_below HR0_11.out HB.out) | (with_reducible refine Kd.C_alloc ?_ _) | (with_reducible refine Kd.C_drewN ?_ _) | (with_reducible refine Kd.C_drew ?_))); (case side2 => exact HC0_11.out); rintro e w55 ⟨rfl, hb⟩; refine ⟨_, rfl, ?_⟩; have n0_ := ak_ (blk_below (g := gb333) (o := .cells #[.int .i64 a0_0, .int .i64 a0_1, .int .i64 a0_2, .string a0_3, .int .i64 a0_4, .int .i64 a0_5, .bool a0_6, .int .i64 a0_7, .bool a0_8, .string a0_9, .int .i64 a0_10, .slice A0_11 l0_11.length c0_11] 42 (0, 0)) (by (with_reducible repeat (first | apply zn | apply zd | apply za)); exact BK333.out) hb); have n1_ := ak_ (ps (by with_reducible repeat first | exact HB.out | apply pa | apply pd | apply pe | refine zs ?_ GE333.out) hb); clear BK333 HB; have BK333 := n0_; have HB := n1_; clear n0_ n1_))
       go_ret
       exact ⟨by first | rfl | simp [*], by repeat (first | (with_reducible first | exact HB.out | apply pa | apply pd | apply pe | refine zs ?_ GE333.out) | exact HB.out)⟩
     rw [if_neg c48] at H
     have c48b0 : (a0_0 == 0) = false := beq_eq_false_iff_ne.mpr c48
     have c48b1 : (a0_0 != 0) = true := bne_iff_ne.mpr c48
     (first | rw [c48b0] | (simp only [i64_w, i32_w]; rw [c48b0]) | skip)
     have HF56 := ak_ H
     clear H
     go_upto_if 71 with (fail)
     have H := HF56.out
     clear HF56
     by_cases c57 : a0_0 = 1
     · rw [if_pos c57] at H
       have c57b0 : (a0_0 == 1) = true := beq_iff_eq.mpr c57
       have c57b1 : (a0_0 != 1) = false := bne_eq_false_iff_eq.mpr c57
       clear c57
       (first | rw [c57b0] | (simp only [i64_w, i32_w]; rw [c57b0]) | skip)
       replace H := ob_ H
       obtain ⟨t341, A580, H⟩ := H
       replace H : (some t341) = some r := H
       have A58 := ak_ A580
       clear A580
       obtain rfl := Option.some.inj H
       have hcz59_0 : wc.cell? ⟨gb333, 0, none⟩ = some (.int .i64 a0_0) := (zc BK333.out 0).trans rfl
       have hcz59_1 : wc.cell? ⟨gb333, 1, none⟩ = some (.int .i64 a0_1) := (zc BK333.out 1).trans rfl
       have hcz59_2 : wc.cell? ⟨gb333, 2, none⟩ = some (.int .i64 a0_2) := (zc BK333.out 2).trans rfl
       have hcz59_3 : wc.cell? ⟨gb333, 3, none⟩ = some (.string a0_3) := (zc BK333.out 3).trans rfl
       have hcz59_4 : wc.cell? ⟨gb333, 4, none⟩ = some (.int .i64 a0_4) := (zc BK333.out 4).trans rfl
       have hcz59_5 : wc.cell? ⟨gb333, 5, none⟩ = some (.int .i64 a0_5) := (zc BK333.out 5).trans rfl
       have hcz59_6 : wc.cell? ⟨gb333, 6, none⟩ = some (.bool a0_6) := (zc BK333.out 6).trans rfl
       have hcz59_7 : wc.cell? ⟨gb333, 7, none⟩ = some (.int .i64 a0_7) := (zc BK333.out 7).trans rfl
       have hcz59_8 : wc.cell? ⟨gb333, 8, none⟩ = some (.bool a0_8) := (zc BK333.out 8).trans rfl
       have hcz59_9 : wc.cell? ⟨gb333, 9, none⟩ = some (.string a0_9) := (zc BK333.out 9).trans rfl
       have hcz59_10 : wc.cell? ⟨gb333, 10, none⟩ = some (.int .i64 a0_10) := (zc BK333.out 10).trans rfl
       have hcz59_11 : wc.cell? ⟨gb333, 11, none⟩ = some (.slice A0_11 l0_11.length c0_11) := (zc BK333.out 11).trans rfl
       have hfz59_0 := zf BK333.out 0
       have hfz59_1 := zf BK333.out 1
       have hfz59_2 := zf BK333.out 2
       have hfz59_3 := zf BK333.out 3
       have hfz59_4 := zf BK333.out 4
       have hfz59_5 := zf BK333.out 5
       have hfz59_6 := zf BK333.out 6
       have hfz59_7 := zf BK333.out 7
       have hfz59_8 := zf BK333.out 8
       have hfz59_9 := zf BK333.out 9
       have hfz59_10 := zf BK333.out 10
       have hfz59_11 := zf BK333.out 11
       go_wp2_with (first | ((with_reducible refine gate_callee (f := 44) rfl ?_); refine goesL_ (some 75) rfl rfl Tryd.func44 (by kernel_rfl) rfl #[.string a0_3] rfl (by simp only [mt_, mc_, mn_] <;> rfl) ?_; (with_reducible refine (label_Good.calls a0_3 t341 _ ?tab_ A58.out).mono ?_); (case tab_ => first | exact HT.out | exact Tabs_.below HT.out (by with_reducible repeat first | exact HB.out | apply pa | apply pd | apply pe)); rintro e w60 ⟨rfl, hb⟩; refine ⟨_, rfl, ?_⟩; have n0_ := ak_ (blk_below (g := gb333) (o := .cells #[.int .i64 a0_0, .int .i64 a0_1, .int .i64 a0_2, .string a0_3, .int .i64 a0_4, .int .i64 a0_5, .bool a0_6, .int .i64 a0_7, .bool a0_8, .string a0_9, .int .i64 a0_10, .slice A0_11 l0_11.length c0_11] 42 (0, 0)) (by (with_reducible repeat (first | apply zn | apply zd | apply za)); exact BK333.out) hb); have n1_ := ak_ (ps (by with_reducible repeat first | exact HB.out | apply pa | apply pd | apply pe | refine zs ?_ GE333.out) hb); clear BK333 HB; have BK333 := n0_; have HB := n1_; clear n0_ n1_))
       go_ret
       exact ⟨by first | rfl | simp [*], by repeat (first | (with_reducible first | exact HB.out | apply pa | apply pd | apply pe | refine zs ?_ GE333.out) | exact HB.out)⟩
     rw [if_neg c57] at H
     have c57b0 : (a0_0 == 1) = false := beq_eq_false_iff_ne.mpr c57
     have c57b1 : (a0_0 != 1) = true := bne_iff_ne.mpr c57
     (first | rw [c57b0] | (simp only [i64_w, i32_w]; rw [c57b0]) | skip)
     have HF61 := ak_ H
     clear H
     go_upto_if 76 with (fail)
     have H := HF61.out
     clear HF61
     by_cases c62 : a0_0 = 3
     · rw [if_pos c62] at H
       have c62b0 : (a0_0 == 3) = true := beq_iff_eq.mpr c62
       have c62b1 : (a0_0 != 3) = false := bne_eq_false_iff_eq.mpr c62
       clear c62
       (first | rw [c62b0] | (simp only [i64_w, i32_w]; rw [c62b0]) | skip)
       by_cases c63 : a0_4 ≥ 0
       · rw [if_pos c63] at H
         have c63b0 : decide (0 ≤ a0_4) = true := dt_ c63
         clear c63
         by_cases c64 : a0_5 ≥ 0
         · rw [if_pos c64] at H
           have c64b0 : decide (0 ≤ a0_5) = true := dt_ c64
           clear c64
           obtain rfl := Option.some.inj H
           have hcz65_0 : wc.cell? ⟨gb333, 0, none⟩ = some (.int .i64 a0_0) := (zc BK333.out 0).trans rfl
           have hcz65_1 : wc.cell? ⟨gb333, 1, none⟩ = some (.int .i64 a0_1) := (zc BK333.out 1).trans rfl
           have hcz65_2 : wc.cell? ⟨gb333, 2, none⟩ = some (.int .i64 a0_2) := (zc BK333.out 2).trans rfl
           have hcz65_3 : wc.cell? ⟨gb333, 3, none⟩ = some (.string a0_3) := (zc BK333.out 3).trans rfl
           have hcz65_4 : wc.cell? ⟨gb333, 4, none⟩ = some (.int .i64 a0_4) := (zc BK333.out 4).trans rfl
           have hcz65_5 : wc.cell? ⟨gb333, 5, none⟩ = some (.int .i64 a0_5) := (zc BK333.out 5).trans rfl
           have hcz65_6 : wc.cell? ⟨gb333, 6, none⟩ = some (.bool a0_6) := (zc BK333.out 6).trans rfl
           have hcz65_7 : wc.cell? ⟨gb333, 7, none⟩ = some (.int .i64 a0_7) := (zc BK333.out 7).trans rfl
           have hcz65_8 : wc.cell? ⟨gb333, 8, none⟩ = some (.bool a0_8) := (zc BK333.out 8).trans rfl
           have hcz65_9 : wc.cell? ⟨gb333, 9, none⟩ = some (.string a0_9) := (zc BK333.out 9).trans rfl
           have hcz65_10 : wc.cell? ⟨gb333, 10, none⟩ = some (.int .i64 a0_10) := (zc BK333.out 10).trans rfl
           have hcz65_11 : wc.cell? ⟨gb333, 11, none⟩ = some (.slice A0_11 l0_11.length c0_11) := (zc BK333.out 11).trans rfl
           have hfz65_0 := zf BK333.out 0
           have hfz65_1 := zf BK333.out 1
           have hfz65_2 := zf BK333.out 2
           have hfz65_3 := zf BK333.out 3
           have hfz65_4 := zf BK333.out 4
           have hfz65_5 := zf BK333.out 5
           have hfz65_6 := zf BK333.out 6
           have hfz65_7 := zf BK333.out 7
           have hfz65_8 := zf BK333.out 8
           have hfz65_9 := zf BK333.out 9
           have hfz65_10 := zf BK333.out 10
           have hfz65_11 := zf BK333.out 11
           go_wp2
           go_ret
           exact ⟨by first | rfl | simp [*], by repeat (first | (with_reducible first | exact HB.out | apply pa | apply pd | apply pe | refine zs ?_ GE333.out) | exact HB.out)⟩
         rw [if_neg c64] at H
         have c64b0 : decide (0 ≤ a0_5) = false := df_ c64
         clear c64
         obtain rfl := Option.some.inj H
         have hcz66_0 : wc.cell? ⟨gb333, 0, none⟩ = some (.int .i64 a0_0) := (zc BK333.out 0).trans rfl
         have hcz66_1 : wc.cell? ⟨gb333, 1, none⟩ = some (.int .i64 a0_1) := (zc BK333.out 1).trans rfl
         have hcz66_2 : wc.cell? ⟨gb333, 2, none⟩ = some (.int .i64 a0_2) := (zc BK333.out 2).trans rfl
         have hcz66_3 : wc.cell? ⟨gb333, 3, none⟩ = some (.string a0_3) := (zc BK333.out 3).trans rfl
         have hcz66_4 : wc.cell? ⟨gb333, 4, none⟩ = some (.int .i64 a0_4) := (zc BK333.out 4).trans rfl
         have hcz66_5 : wc.cell? ⟨gb333, 5, none⟩ = some (.int .i64 a0_5) := (zc BK333.out 5).trans rfl
         have hcz66_6 : wc.cell? ⟨gb333, 6, none⟩ = some (.bool a0_6) := (zc BK333.out 6).trans rfl
         have hcz66_7 : wc.cell? ⟨gb333, 7, none⟩ = some (.int .i64 a0_7) := (zc BK333.out 7).trans rfl
         have hcz66_8 : wc.cell? ⟨gb333, 8, none⟩ = some (.bool a0_8) := (zc BK333.out 8).trans rfl
         have hcz66_9 : wc.cell? ⟨gb333, 9, none⟩ = some (.string a0_9) := (zc BK333.out 9).trans rfl
         have hcz66_10 : wc.cell? ⟨gb333, 10, none⟩ = some (.int .i64 a0_10) := (zc BK333.out 10).trans rfl
         have hcz66_11 : wc.cell? ⟨gb333, 11, none⟩ = some (.slice A0_11 l0_11.length c0_11) := (zc BK333.out 11).trans rfl
         have hfz66_0 := zf BK333.out 0
         have hfz66_1 := zf BK333.out 1
         have hfz66_2 := zf BK333.out 2
         have hfz66_3 := zf BK333.out 3
         have hfz66_4 := zf BK333.out 4
         have hfz66_5 := zf BK333.out 5
         have hfz66_6 := zf BK333.out 6
         have hfz66_7 := zf BK333.out 7
         have hfz66_8 := zf BK333.out 8
         have hfz66_9 := zf BK333.out 9
         have hfz66_10 := zf BK333.out 10
         have hfz66_11 := zf BK333.out 11
         go_wp2
         go_ret
         exact ⟨by first | rfl | simp [*], by repeat (first | (with_reducible first | exact HB.out | apply pa | apply pd | apply pe | refine zs ?_ GE333.out) | exact HB.out)⟩
       rw [if_neg c63] at H
       have c63b0 : decide (0 ≤ a0_4) = false := df_ c63
       clear c63
       obtain rfl := Option.some.inj H
       have hcz67_0 : wc.cell? ⟨gb333, 0, none⟩ = some (.int .i64 a0_0) := (zc BK333.out 0).trans rfl
       have hcz67_1 : wc.cell? ⟨gb333, 1, none⟩ = some (.int .i64 a0_1) := (zc BK333.out 1).trans rfl
       have hcz67_2 : wc.cell? ⟨gb333, 2, none⟩ = some (.int .i64 a0_2) := (zc BK333.out 2).trans rfl
       have hcz67_3 : wc.cell? ⟨gb333, 3, none⟩ = some (.string a0_3) := (zc BK333.out 3).trans rfl
       have hcz67_4 : wc.cell? ⟨gb333, 4, none⟩ = some (.int .i64 a0_4) := (zc BK333.out 4).trans rfl
       have hcz67_5 : wc.cell? ⟨gb333, 5, none⟩ = some (.int .i64 a0_5) := (zc BK333.out 5).trans rfl
       have hcz67_6 : wc.cell? ⟨gb333, 6, none⟩ = some (.bool a0_6) := (zc BK333.out 6).trans rfl
       have hcz67_7 : wc.cell? ⟨gb333, 7, none⟩ = some (.int .i64 a0_7) := (zc BK333.out 7).trans rfl
       have hcz67_8 : wc.cell? ⟨gb333, 8, none⟩ = some (.bool a0_8) := (zc BK333.out 8).trans rfl
       have hcz67_9 : wc.cell? ⟨gb333, 9, none⟩ = some (.string a0_9) := (zc BK333.out 9).trans rfl
       have hcz67_10 : wc.cell? ⟨gb333, 10, none⟩ = some (.int .i64 a0_10) := (zc BK333.out 10).trans rfl
       have hcz67_11 : wc.cell? ⟨gb333, 11, none⟩ = some (.slice A0_11 l0_11.length c0_11) := (zc BK333.out 11).trans rfl
       have hfz67_0 := zf BK333.out 0
       have hfz67_1 := zf BK333.out 1
       have hfz67_2 := zf BK333.out 2
       have hfz67_3 := zf BK333.out 3
       have hfz67_4 := zf BK333.out 4
       have hfz67_5 := zf BK333.out 5
       have hfz67_6 := zf BK333.out 6
       have hfz67_7 := zf BK333.out 7
       have hfz67_8 := zf BK333.out 8
       have hfz67_9 := zf BK333.out 9
       have hfz67_10 := zf BK333.out 10
       have hfz67_11 := zf BK333.out 11
       go_wp2
       go_ret
       exact ⟨by first | rfl | simp [*], by repeat (first | (with_reducible first | exact HB.out | apply pa | apply pd | apply pe | refine zs ?_ GE333.out) | exact HB.out)⟩
     rw [if_neg c62] at H
     have c62b0 : (a0_0 == 3) = false := beq_eq_false_iff_ne.mpr c62
     have c62b1 : (a0_0 != 3) = true := bne_iff_ne.mpr c62
     (first | rw [c62b0] | (simp only [i64_w, i32_w]; rw [c62b0]) | skip)
     obtain rfl := Option.some.inj H
     go_wp2
     go_ret
     exact ⟨by first | rfl | simp [*], by repeat (first | (with_reducible first | exact HB.out | apply pa | apply pd | apply pe | refine zs ?_ GE333.out) | exact HB.out)⟩
theorem ra_flag {wb w W : World} {r : Nat} {b : List Int} {a fa fe a' fa' fe' : Int} {y : Bool} (h : RA wb w W r b a fa fe) (hA : fR_Flag.f b a fa fe = some (y, a', fa', fe')) :
 Calls Tryd.prog 67 #[.pointer (some ⟨r, 0, none⟩)] W fun e W' => e = .returned (.bool y) ∧ RA wb w W' r b a' fa' fe' ∧ KeepBut W W' r none := by
 refine (fR_Flag.calls r b a fa fe y a' fa' fe' wb W h.is h.bel hA).mono ?_
 rintro e W' ⟨rfl, hi, hb, hk⟩
 exact ⟨rfl, ⟨hi, hb, h.keep.trans hk (.inl rfl)⟩, hk⟩
structure Rp where
 f0 : Int
 f1 : Int
 f2 : Bool
 f3 : Int
 f4 : Bool
def rReply (b : List Int) (a fa fe : Int) : Option (Rp × Int × Int × Int) :=
 (fR_Num.f b a fa fe).bind fun q1 => (fR_Num.f b q1.2.1 q1.2.2.1 q1.2.2.2).bind fun q2 => (fR_Flag.f b q2.2.1 q2.2.2.1 q2.2.2.2).bind fun q3 => (fR_Num.f b q3.2.1 q3.2.2.1 q3.2.2.2).bind fun q4 => (fR_Flag.f b q4.2.1 q4.2.2.1 q4.2.2.2).bind fun q5 =>
 some (⟨q1.1, q2.1, q3.1, q4.1, q5.1⟩, q5.2)
def rpV (x : Rp) : Array Value := #[.int .i64 x.f0, .int .i64 x.f1, .bool x.f2, .int .i64 x.f3, .bool x.f4]
theorem ra_reply {wb w W : World} {r : Nat} {b : List Int} {a fa fe a' fa' fe' : Int} {s : Rp} (h : RA wb w W r b a fa fe) (hA : rReply b a fa fe = some (s, a', fa', fe')) :
 Calls Tryd.prog 38 #[.agg #[.pointer (some ⟨r, 0, none⟩)]] W fun e W' => e = .returned (.agg (rpV s)) ∧ RA wb w W' r b a' fa' fe' ∧ KeepBut W W' r none := by
 unfold rReply at hA
 obtain ⟨⟨x1, a1, b1, c1⟩, hA1, hA⟩ := ob_ hA
 obtain ⟨⟨x2, a2, b2, c2⟩, hA2, hA⟩ := ob_ hA
 obtain ⟨⟨x3, a3, b3, c3⟩, hA3, hA⟩ := ob_ hA
 obtain ⟨⟨x4, a4, b4, c4⟩, hA4, hA⟩ := ob_ hA
 obtain ⟨⟨x5, a5, b5, c5⟩, hA5, hA⟩ := ob_ hA
 simp only [Option.some.injEq, Prod.mk.injEq] at hA
 obtain ⟨rfl, rfl, rfl, rfl⟩ := hA
 have A1 := ak_ hA1
 have A2 := ak_ hA2
 have A3 := ak_ hA3
 have A4 := ak_ hA4
 have A5 := ak_ hA5
 have HRA := ak_ h
 have HR0 := ak_ (RA.start h.is h.bel)
 clear hA1 hA2 hA3 hA4 hA5 h
 unfold rpV
 dsimp only at *
 go_enter Tryd.func38, Tryd.ntmps38
 go_upto_region 1 with (first | ((with_reducible refine gate_dst (N := 1) rfl ?_); refine box_event ?hg (N := 1) ?hd (cs := #[.pointer (some ⟨r, 0, none⟩)]) (t := 74) ?hr ?_; (case hd | hg => rfl); (case hr => first | (go_simp; done) | (go_simp; rfl)); intro bx hg w1 hbox hb; have HB1 := ak_ hb; have BK1 := ak_ hbox; have HG1 := ak_ hg; clear hb hbox hg) | ((with_reducible refine gate_dst (N := 2) rfl ?_); refine box_event ?hg (N := 2) ?hd (cs := #[.int .i64 0, .int .i64 0, .bool false, .int .i64 0, .bool false]) (t := 40) ?hr ?_; (case hd | hg => rfl); (case hr => first | (go_simp; done) | (go_simp; rfl)); intro z hg w2 hbox hb; have HL2 := ak_ (RL.start HR0.out HG1.out BK1.out HB1.out hg hbox hb); clear hb hbox hg))
 have y0 := HL2.out.ptr
 refine start_ (n := 10) (S := fun w' => w'.cell? ⟨bx, 0, none⟩ = some (.pointer (some ⟨r, 0, none⟩))) (ds := [7, 9]) #[false, false, false, false, false, false, false, false, false, false] (by kernel_rfl) rfl rfl (y0) (fun hHeld => ?_)
 refine pure_ (i := 0) (N := some 3) (v := ?_) (a' := ?_) #[true, false, false, false, false, false, false, false, false, false] rfl rfl (by kernel_rfl) (fun _ _ _ h => h) (Or.inl ⟨by rfl, ?_⟩) ?_ ?_
 rotate_left
 · intro w'
   go_simp
   with_reducible rfl
 rotate_left
 · simp only [Act.put, sa_, sz_, ss_, i64_w, i32_w]
   rfl
 refine pure_ (i := 3) (N := some 6) (v := ?_) (a' := ?_) #[true, false, false, true, false, false, false, false, false, false] rfl rfl (by kernel_rfl) (fun _ _ _ h => h) (Or.inl ⟨by rfl, ?_⟩) ?_ ?_
 rotate_left
 · intro w'
   go_simp
   with_reducible rfl
 rotate_left
 · simp only [Act.put, sa_, sz_, ss_, i64_w, i32_w]
   rfl
 refine take_ (i := 1) (N := some 4) (v := ?_) (a' := ?_) #[true, true, false, true, false, false, false, false, false, false] rfl rfl (by kernel_rfl) (fun _ _ _ h => h) (Or.inl ⟨by rfl, ?_⟩) hHeld ?_ ?_
 rotate_left
 · intro w' s0
   go_simp
   with_reducible rfl
 rotate_left
 · simp only [Act.put, sa_, sz_, ss_, i64_w, i32_w]
   rfl
 refine take_ (i := 4) (N := some 7) (v := ?_) (a' := ?_) #[true, true, false, true, true, false, false, false, false, false] rfl rfl (by kernel_rfl) (fun _ _ _ h => h) (Or.inl ⟨by rfl, ?_⟩) hHeld ?_ ?_
 rotate_left
 · intro w' s0
   go_simp
   with_reducible rfl
 rotate_left
 · simp only [Act.put, sa_, sz_, ss_, i64_w, i32_w]
   rfl
 refine one_ (i := 2) (N := some 5) #[true, true, true, true, true, false, false, false, false, false] rfl rfl (by kernel_rfl) (by decide) (fun K hK => ?_)
 refine goes_ Tryd.func36 (by kernel_rfl) rfl #[.pointer (some ⟨r, 0, none⟩)] (by rfl) rfl rfl (by simp only [mt_, mc_, mn_]; rfl) ?_
 with_reducible refine (ra_num HL2.out.drew.ra A1.out).mono ?_
 rintro e w3 ⟨rfl, hr, hk⟩
 refine ⟨_, rfl, ?_⟩
 have HL3 := ak_ (HL2.out.drew.call hr hk)
 clear hr hk
 refine hK.out _ _ HL3.out.ptr (fun hHeld => ?_)
 clear hK K
 refine norm_ (a' := ?_) ?_ ?_
 rotate_left
 · show Act.put _ (some 5) _ = _
   simp only [Act.put, sa_, sz_, ss_, i64_w, i32_w]
   rfl
 refine pure_ (i := 6) (N := some 9) (v := ?_) (a' := ?_) #[true, true, true, true, true, false, true, false, false, false] rfl rfl (by kernel_rfl) (fun _ _ _ h => h) (Or.inl ⟨by rfl, ?_⟩) ?_ ?_
 rotate_left
 · intro w'
   go_simp
   with_reducible rfl
 rotate_left
 · simp only [Act.put, sa_, sz_, ss_, i64_w, i32_w]
   rfl
 refine one_ (i := 5) (N := some 8) #[true, true, true, true, true, true, true, false, false, false] rfl rfl (by kernel_rfl) (by decide) (fun K hK => ?_)
 refine goes_ Tryd.func36 (by kernel_rfl) rfl #[.pointer (some ⟨r, 0, none⟩)] (by rfl) rfl rfl (by simp only [mt_, mc_, mn_]; rfl) ?_
 with_reducible refine (ra_num HL3.out.ra A2.out).mono ?_
 rintro e w4 ⟨rfl, hr, hk⟩
 refine ⟨_, rfl, ?_⟩
 have HL4 := ak_ (HL3.out.call hr hk)
 have HP4 := ak_ (((((HL4.out).put 0 (.int .i64 x1) (cs' := #[.int .i64 x1, .int .i64 0, .bool false, .int .i64 0, .bool false]) rfl)).put 1 (.int .i64 x2) (cs' := #[.int .i64 x1, .int .i64 x2, .bool false, .int .i64 0, .bool false]) rfl))
 clear hr hk
 have z0 := (zc HL4.out.kz 0).trans rfl
 have z1 := (zc HL4.out.kz 1).trans rfl
 have f0 := zf HL4.out.kz 0
 have f1 := zf HL4.out.kz 1
 refine hK.out _ _ HL4.out.ptr (fun hHeld => ?_)
 clear hK K
 refine norm_ (a' := ?_) ?_ ?_
 rotate_left
 · show Act.put _ (some 8) _ = _
   simp only [Act.put, sa_, sz_, ss_, i64_w, i32_w]
   rfl
 refine last_ (i := 7) (N := none) #[true, true, true, true, true, true, true, true, false, false] rfl rfl (by kernel_rfl) (by decide) (fun K hK => ?_)
 refine skip_ (w1 := ?_) (by rfl) rfl ?_ ?_
 rotate_left
 · go_simp
   rfl
 refine hK.out _ _ ?_
 clear hK K
 refine pure_ (i := 8) (N := some 10) (v := ?_) (a' := ?_) #[true, true, true, true, true, true, true, true, true, false] rfl rfl (by kernel_rfl) (fun _ _ _ h => h) (Or.inl ⟨by rfl, ?_⟩) ?_ ?_
 rotate_left
 · intro w'
   go_simp
   with_reducible rfl
 rotate_left
 · simp only [Act.put, sa_, sz_, ss_, i64_w, i32_w]
   rfl
 refine last_ (i := 9) (N := none) #[true, true, true, true, true, true, true, true, true, true] rfl rfl (by kernel_rfl) (by decide) (fun K hK => ?_)
 refine skip_ (w1 := ?_) (by rfl) rfl ?_ ?_
 rotate_left
 · go_simp
   rfl
 refine hK.out _ _ ?_
 clear hK K
 refine done_ (by kernel_rfl) ?_
 clear hHeld y0 z0 z1 f0 f1
 generalize ((w4.setCell ⟨z, 0, none⟩ (.int .i64 x1)).setCell ⟨z, 1, none⟩ (.int .i64 x2)) = w5 at *
 go_upto_region 2 with (fail)
 have y0 := HP4.out.ptr
 have z2 := (zc HP4.out.kz 2).trans rfl
 have f2 := zf HP4.out.kz 2
 go_upto_region 3 with (go_at_call 67; refine (ra_flag HP4.out.ra A3.out).mono ?_; rintro e w6 ⟨rfl, hr, hk⟩; have HL6 := ak_ (HP4.out.call hr hk); clear hr hk y0 z2 f2; have z2 := (zc HL6.out.kz 2).trans rfl; have f2 := zf HL6.out.kz 2)
 have HP6 := ak_ (((HL6.out).put 2 (.bool x3) (cs' := #[.int .i64 x1, .int .i64 x2, .bool x3, .int .i64 0, .bool false]) rfl))
 clear z2 f2
 generalize (w6.setCell ⟨z, 2, none⟩ (.bool x3)) = w7 at *
 have y0 := HP6.out.ptr
 have z3 := (zc HP6.out.kz 3).trans rfl
 have f3 := zf HP6.out.kz 3
 go_upto_region 4 with (go_at_call 36; refine (ra_num HP6.out.ra A4.out).mono ?_; rintro e w8 ⟨rfl, hr, hk⟩; have HL8 := ak_ (HP6.out.call hr hk); clear hr hk y0 z3 f3; have z3 := (zc HL8.out.kz 3).trans rfl; have f3 := zf HL8.out.kz 3)
 have HP8 := ak_ (((HL8.out).put 3 (.int .i64 x4) (cs' := #[.int .i64 x1, .int .i64 x2, .bool x3, .int .i64 x4, .bool false]) rfl))
 clear z3 f3
 generalize (w8.setCell ⟨z, 3, none⟩ (.int .i64 x4)) = w9 at *
 have y0 := HP8.out.ptr
 have z4 := (zc HP8.out.kz 4).trans rfl
 have f4 := zf HP8.out.kz 4
 go_upto_region 5 with (go_at_call 67; refine (ra_flag HP8.out.ra A5.out).mono ?_; rintro e w10 ⟨rfl, hr, hk⟩; have HL10 := ak_ (HP8.out.call hr hk); clear hr hk y0 z4 f4; have z4 := (zc HL10.out.kz 4).trans rfl; have f4 := zf HL10.out.kz 4)
 have HP10 := ak_ (((HL10.out).put 4 (.bool x5) (cs' := #[.int .i64 x1, .int .i64 x2, .bool x3, .int .i64 x4, .bool x5]) rfl))
 clear z4 f4
 generalize (w10.setCell ⟨z, 4, none⟩ (.bool x5)) = w11 at *
 have z0 := (zc HP10.out.kz 0).trans rfl
 have z1 := (zc HP10.out.kz 1).trans rfl
 have z2 := (zc HP10.out.kz 2).trans rfl
 have z3 := (zc HP10.out.kz 3).trans rfl
 have z4 := (zc HP10.out.kz 4).trans rfl
 have f0 := zf HP10.out.kz 0
 have f1 := zf HP10.out.kz 1
 have f2 := zf HP10.out.kz 2
 have f3 := zf HP10.out.kz 3
 have f4 := zf HP10.out.kz 4
 have HF := ak_ (((((((((((HP10.out).put 0 (.int .i64 x1) (cs' := #[.int .i64 x1, .int .i64 x2, .bool x3, .int .i64 x4, .bool x5]) rfl)).put 1 (.int .i64 x2) (cs' := #[.int .i64 x1, .int .i64 x2, .bool x3, .int .i64 x4, .bool x5]) rfl)).put 2 (.bool x3) (cs' := #[.int .i64 x1, .int .i64 x2, .bool x3, .int .i64 x4, .bool x5]) rfl)).put 3 (.int .i64 x4) (cs' := #[.int .i64 x1, .int .i64 x2, .bool x3, .int .i64 x4, .bool x5]) rfl)).put 4 (.bool x5) (cs' := #[.int .i64 x1, .int .i64 x2, .bool x3, .int .i64 x4, .bool x5]) rfl))
 go_wp2
 refine bodyPost_ret (results_cell_row rfl _ _ z 40 _ (0, 0) _ rfl HF.out.kz Tryd.underlying40 rfl (by kernel_rfl)) rfl ?_
 exact ⟨rfl, HRA.out.re HF.out.ra, HF.out.ra.keep⟩
theorem wa_flag {w0 w W : World} {g : Nat} {v : Value} {xs : List Int} (h : WA w0 w g v W xs) (y : Bool) (hx : xs.length < 100000000) :
 Calls Tryd.prog 50 #[.pointer (some ⟨g, 0, none⟩), .bool y] W fun e w' => e = .returned (.tuple #[]) ∧ WA w0 w g v w' (xs ++ [flagB y]) := by
 obtain ⟨⟨u, hi, hk, ho⟩, hb⟩ := h
 refine (writer_Flag.callsT 66 (by decide) g u xs y w0 W hi hb hx).mono ?_
 rintro e w' ⟨u', rfl, hi', hb', hk', ho'⟩
 exact ⟨rfl, .call (xs := xs) hk ho hi' hb' hk' ho'⟩
def replyW (x : Rp) : List Int := encN [x.f0, x.f1] ++ [flagB x.f2] ++ nbs (clampN x.f3) 8 ++ [flagB x.f4]
theorem replyW_len (x : Rp) : (replyW x).length = 26 := by
 unfold replyW
 simp [encN_len, nbs]
def RpI (x : Rp) : Prop := I64_ x.f0 ∧ I64_ x.f1 ∧ I64_ x.f3
theorem wa_reply {w0 w W : World} {g : Nat} {v : Value} {xs : List Int} (h : WA w0 w g v W xs) (s : Rp) (hs : RpI s) (hx : xs.length < 1000000) :
 Calls Tryd.prog 47 #[.pointer (some ⟨g, 0, none⟩), .agg (rpV s)] W fun e w' => e = .returned (.tuple #[]) ∧ WA w0 w g v w' (xs ++ replyW s) := by
 obtain ⟨⟨u, hi, hk, ho⟩, hB⟩ := h
 have HK := ak_ hk
 have HO := ak_ ho
 have HX := ak_ hx
 have HA0 := ak_ (WA.start hi hB)
 have HI0 := ak_ hi
 clear hk ho hx hi hB
 obtain ⟨x1, x2, x3, x4, x5⟩ := s
 have HN := ak_ (show ∀ n ∈ [x1, x2], I64_ n from fun n hn => by
  simp only [List.mem_cons, List.not_mem_nil, or_false] at hn
  rcases hn with h | h <;> subst h
  · exact hs.1
  · exact hs.2.1)
 have HN4 := ak_ (show I64_ x4 from hs.2.2)
 have HX1 := ak_ (show (xs ++ encN [x1, x2]).length < 100000000 by have := HX.out; simp [encN_len]; omega)
 have HX2 := ak_ (show (xs ++ encN [x1, x2] ++ [flagB x3]).length < 100000000 by have := HX.out; simp [encN_len]; omega)
 have HX3 := ak_ (show (xs ++ encN [x1, x2] ++ [flagB x3] ++ nbs (clampN x4) 8).length < 100000000 by have := HX.out; simp [encN_len, nbs]; omega)
 clear hs
 unfold rpV
 dsimp only at *
 go_enter Tryd.func47, Tryd.ntmps47
 go_upto_region 1 with (fail)
 have HZ := ak_ (blk_new W (.cells #[.int .i64 x1, .int .i64 x2, .bool x3, .int .i64 x4, .bool x5] 40))
 have HB1 := ak_ (show Below W.heap.size W (W.alloc (.cells #[.int .i64 x1, .int .i64 x2, .bool x3, .int .i64 x4, .bool x5] 40)) from below_alloc (Below.refl _ _) _)
 generalize W.alloc (.cells #[.int .i64 x1, .int .i64 x2, .bool x3, .int .i64 x4, .bool x5] 40) = W1 at *
 have HI1 := ak_ (HI0.out.below_ HB1.out)
 have HA1 := ak_ (WA.start HI1.out (HA0.out.below HB1.out).bel)
 have HLT := ak_ (show W.heap.size ≠ g from by have := blk_lt HI0.out.1; omega)
 generalize W.heap.size = z at HZ HLT ⊢
 have HNE := ak_ (show some z ≠ u.ownBlock from Kd.R_ne HI1.out.2.2 HZ.out (by decide))
 have z0 : W1.cell? ⟨z, 0, none⟩ = some (.int .i64 x1) := (zc HZ.out 0).trans rfl
 have z1 : W1.cell? ⟨z, 1, none⟩ = some (.int .i64 x2) := (zc HZ.out 1).trans rfl
 go_upto_region 2 with (go_at_call 45; (refine (wa_nums (HA1.out.below (below_alloc (Below.refl _ _) _)) W1.heap.size [x1, x2] (blk_new W1 _) HN.out (by have := HX.out; simp; omega)).mono ?_; rintro e w2 ⟨rfl, hA⟩; have HA2 := ak_ hA; have HZ2 := ak_ (HA2.out.blk HZ.out HLT.out HNE.out); clear hA))
 clear z0 z1
 have y1 : w2.cell? ⟨z, 2, none⟩ = some (.bool x3) := (zc HZ2.out 2).trans rfl
 refine start_ (n := 6) (S := fun w' => w'.cell? ⟨z, 2, none⟩ = some (.bool x3)) (ds := []) #[false, false, false, false, false, false] (by kernel_rfl) rfl rfl (y1) (fun hHeld => ?_)
 refine pure_ (i := 0) (N := some 11) (v := ?_) (a' := ?_) #[true, false, false, false, false, false] rfl rfl (by kernel_rfl) (fun _ _ _ h => h) (Or.inl ⟨by rfl, ?_⟩) ?_ ?_
 rotate_left
 · intro w'
   go_simp
   with_reducible rfl
 rotate_left
 · simp only [Act.put, sa_, sz_, ss_, i64_w, i32_w]
   rfl
 refine pure_ (i := 1) (N := some 12) (v := ?_) (a' := ?_) #[true, true, false, false, false, false] rfl rfl (by kernel_rfl) (fun _ _ _ h => h) (Or.inl ⟨by rfl, ?_⟩) ?_ ?_
 rotate_left
 · intro w'
   go_simp
   with_reducible rfl
 rotate_left
 · simp only [Act.put, sa_, sz_, ss_, i64_w, i32_w]
   rfl
 refine pure_ (i := 2) (N := some 13) (v := ?_) (a' := ?_) #[true, true, true, false, false, false] rfl rfl (by kernel_rfl) (fun _ _ _ h => h) (Or.inl ⟨by rfl, ?_⟩) ?_ ?_
 rotate_left
 · intro w'
   go_simp
   with_reducible rfl
 rotate_left
 · simp only [Act.put, sa_, sz_, ss_, i64_w, i32_w]
   rfl
 refine pure_ (i := 3) (N := some 14) (v := ?_) (a' := ?_) #[true, true, true, true, false, false] rfl rfl (by kernel_rfl) (fun _ _ _ h => h) (Or.inl ⟨by rfl, ?_⟩) ?_ ?_
 rotate_left
 · intro w'
   go_simp
   with_reducible rfl
 rotate_left
 · simp only [Act.put, sa_, sz_, ss_, i64_w, i32_w]
   rfl
 refine take_ (i := 4) (N := some 15) (v := ?_) (a' := ?_) #[true, true, true, true, true, false] rfl rfl (by kernel_rfl) (fun _ _ _ h => h) (Or.inl ⟨by rfl, ?_⟩) hHeld ?_ ?_
 rotate_left
 · intro w' s0
   go_simp
   with_reducible rfl
 rotate_left
 · simp only [Act.put, sa_, sz_, ss_, i64_w, i32_w]
   rfl
 refine one_ (i := 5) (N := some 16) #[true, true, true, true, true, true] rfl rfl (by kernel_rfl) (by decide) (fun K hK => ?_)
 refine goes_ Tryd.func50 (by kernel_rfl) rfl #[.pointer (some ⟨g, 0, none⟩), .bool x3] (by rfl) rfl rfl (by simp only [mt_, mc_, mn_]; rfl) ?_
 with_reducible refine (wa_flag HA2.out.drew x3 HX1.out).mono ?_
 rintro e w3 ⟨rfl, hA⟩
 refine ⟨_, rfl, ?_⟩
 have HA3 := ak_ hA
 have HZ3 := ak_ (HA3.out.blk HZ.out HLT.out HNE.out)
 clear hA
 refine hK.out _ _ ((zc HZ3.out 2).trans rfl) (fun hHeld => ?_)
 clear hK K
 refine norm_ (a' := ?_) ?_ ?_
 rotate_left
 · show Act.put _ (some 16) _ = _
   simp only [Act.put, sa_, sz_, ss_, i64_w, i32_w]
   rfl
 refine done_ (by kernel_rfl) ?_
 clear hHeld y1
 go_upto_region 3 with (fail)
 have y1 : w3.cell? ⟨z, 3, none⟩ = some (.int .i64 x4) := (zc HZ3.out 3).trans rfl
 refine start_ (n := 6) (S := fun w' => w'.cell? ⟨z, 3, none⟩ = some (.int .i64 x4)) (ds := []) #[false, false, false, false, false, false] (by kernel_rfl) rfl rfl (y1) (fun hHeld => ?_)
 refine pure_ (i := 0) (N := some 17) (v := ?_) (a' := ?_) #[true, false, false, false, false, false] rfl rfl (by kernel_rfl) (fun _ _ _ h => h) (Or.inl ⟨by rfl, ?_⟩) ?_ ?_
 rotate_left
 · intro w'
   go_simp
   with_reducible rfl
 rotate_left
 · simp only [Act.put, sa_, sz_, ss_, i64_w, i32_w]
   rfl
 refine pure_ (i := 1) (N := some 18) (v := ?_) (a' := ?_) #[true, true, false, false, false, false] rfl rfl (by kernel_rfl) (fun _ _ _ h => h) (Or.inl ⟨by rfl, ?_⟩) ?_ ?_
 rotate_left
 · intro w'
   go_simp
   with_reducible rfl
 rotate_left
 · simp only [Act.put, sa_, sz_, ss_, i64_w, i32_w]
   rfl
 refine pure_ (i := 2) (N := some 19) (v := ?_) (a' := ?_) #[true, true, true, false, false, false] rfl rfl (by kernel_rfl) (fun _ _ _ h => h) (Or.inl ⟨by rfl, ?_⟩) ?_ ?_
 rotate_left
 · intro w'
   go_simp
   with_reducible rfl
 rotate_left
 · simp only [Act.put, sa_, sz_, ss_, i64_w, i32_w]
   rfl
 refine pure_ (i := 3) (N := some 20) (v := ?_) (a' := ?_) #[true, true, true, true, false, false] rfl rfl (by kernel_rfl) (fun _ _ _ h => h) (Or.inl ⟨by rfl, ?_⟩) ?_ ?_
 rotate_left
 · intro w'
   go_simp
   with_reducible rfl
 rotate_left
 · simp only [Act.put, sa_, sz_, ss_, i64_w, i32_w]
   rfl
 refine take_ (i := 4) (N := some 21) (v := ?_) (a' := ?_) #[true, true, true, true, true, false] rfl rfl (by kernel_rfl) (fun _ _ _ h => h) (Or.inl ⟨by rfl, ?_⟩) hHeld ?_ ?_
 rotate_left
 · intro w' s0
   go_simp
   with_reducible rfl
 rotate_left
 · simp only [Act.put, sa_, sz_, ss_, i64_w, i32_w]
   rfl
 refine one_ (i := 5) (N := some 22) #[true, true, true, true, true, true] rfl rfl (by kernel_rfl) (by decide) (fun K hK => ?_)
 refine goes_ Tryd.func49 (by kernel_rfl) rfl #[.pointer (some ⟨g, 0, none⟩), .int .i64 x4] (by rfl) rfl rfl (by simp only [mt_, mc_, mn_]; rfl) ?_
 with_reducible refine (wa_num HA3.out.drew x4 HN4.out HX2.out).mono ?_
 rintro e w4 ⟨rfl, hA⟩
 refine ⟨_, rfl, ?_⟩
 have HA4 := ak_ hA
 have HZ4 := ak_ (HA4.out.blk HZ.out HLT.out HNE.out)
 clear hA
 refine hK.out _ _ ((zc HZ4.out 3).trans rfl) (fun hHeld => ?_)
 clear hK K
 refine norm_ (a' := ?_) ?_ ?_
 rotate_left
 · show Act.put _ (some 22) _ = _
   simp only [Act.put, sa_, sz_, ss_, i64_w, i32_w]
   rfl
 refine done_ (by kernel_rfl) ?_
 clear hHeld y1
 go_upto_region 4 with (fail)
 have y1 : w4.cell? ⟨z, 4, none⟩ = some (.bool x5) := (zc HZ4.out 4).trans rfl
 refine start_ (n := 6) (S := fun w' => w'.cell? ⟨z, 4, none⟩ = some (.bool x5)) (ds := []) #[false, false, false, false, false, false] (by kernel_rfl) rfl rfl (y1) (fun hHeld => ?_)
 refine pure_ (i := 0) (N := some 23) (v := ?_) (a' := ?_) #[true, false, false, false, false, false] rfl rfl (by kernel_rfl) (fun _ _ _ h => h) (Or.inl ⟨by rfl, ?_⟩) ?_ ?_
 rotate_left
 · intro w'
   go_simp
   with_reducible rfl
 rotate_left
 · simp only [Act.put, sa_, sz_, ss_, i64_w, i32_w]
   rfl
 refine pure_ (i := 1) (N := some 24) (v := ?_) (a' := ?_) #[true, true, false, false, false, false] rfl rfl (by kernel_rfl) (fun _ _ _ h => h) (Or.inl ⟨by rfl, ?_⟩) ?_ ?_
 rotate_left
 · intro w'
   go_simp
   with_reducible rfl
 rotate_left
 · simp only [Act.put, sa_, sz_, ss_, i64_w, i32_w]
   rfl
 refine pure_ (i := 2) (N := some 25) (v := ?_) (a' := ?_) #[true, true, true, false, false, false] rfl rfl (by kernel_rfl) (fun _ _ _ h => h) (Or.inl ⟨by rfl, ?_⟩) ?_ ?_
 rotate_left
 · intro w'
   go_simp
   with_reducible rfl
 rotate_left
 · simp only [Act.put, sa_, sz_, ss_, i64_w, i32_w]
   rfl
 refine pure_ (i := 3) (N := some 26) (v := ?_) (a' := ?_) #[true, true, true, true, false, false] rfl rfl (by kernel_rfl) (fun _ _ _ h => h) (Or.inl ⟨by rfl, ?_⟩) ?_ ?_
 rotate_left
 · intro w'
   go_simp
   with_reducible rfl
 rotate_left
 · simp only [Act.put, sa_, sz_, ss_, i64_w, i32_w]
   rfl
 refine take_ (i := 4) (N := some 27) (v := ?_) (a' := ?_) #[true, true, true, true, true, false] rfl rfl (by kernel_rfl) (fun _ _ _ h => h) (Or.inl ⟨by rfl, ?_⟩) hHeld ?_ ?_
 rotate_left
 · intro w' s0
   go_simp
   with_reducible rfl
 rotate_left
 · simp only [Act.put, sa_, sz_, ss_, i64_w, i32_w]
   rfl
 refine one_ (i := 5) (N := some 28) #[true, true, true, true, true, true] rfl rfl (by kernel_rfl) (by decide) (fun K hK => ?_)
 refine goes_ Tryd.func50 (by kernel_rfl) rfl #[.pointer (some ⟨g, 0, none⟩), .bool x5] (by rfl) rfl rfl (by simp only [mt_, mc_, mn_]; rfl) ?_
 with_reducible refine (wa_flag HA4.out.drew x5 HX3.out).mono ?_
 rintro e w5 ⟨rfl, hA⟩
 refine ⟨_, rfl, ?_⟩
 have HA5 := ak_ hA
 have HZ5 := ak_ (HA5.out.blk HZ.out HLT.out HNE.out)
 clear hA
 refine hK.out _ _ ((zc HZ5.out 4).trans rfl) (fun hHeld => ?_)
 clear hK K
 refine norm_ (a' := ?_) ?_ ?_
 rotate_left
 · show Act.put _ (some 28) _ = _
   simp only [Act.put, sa_, sz_, ss_, i64_w, i32_w]
   rfl
 refine done_ (by kernel_rfl) ?_
 clear hHeld y1
 go_end0
 refine ⟨rfl, WA.via (xs := xs) HK.out HO.out HB1.out ?_⟩
 have := HA5.out
 unfold replyW
 dsimp only
 simp only [← List.append_assoc] at this ⊢
 exact this
theorem wa_reply5 {w0 w W : World} {g : Nat} {v : Value} {xs : List Int} (h : WA w0 w g v W xs) (x1 x2 : Int) (x3 : Bool) (x4 : Int) (x5 : Bool) (hs : RpI ⟨x1, x2, x3, x4, x5⟩) (hx : xs.length < 1000000) :
 Calls Tryd.prog 47 #[.pointer (some ⟨g, 0, none⟩), .agg #[.int .i64 x1, .int .i64 x2, .bool x3, .int .i64 x4, .bool x5]] W fun e w' => e = .returned (.tuple #[]) ∧ WA w0 w g v w' (xs ++ replyW ⟨x1, x2, x3, x4, x5⟩) := wa_reply h ⟨x1, x2, x3, x4, x5⟩ hs hx
def evT (a0 : Int) (nm : ByteArray) (x : Rp) (dn : ByteArray) (dl : Int) (l : List S61) : List Int :=
 if a0 = 0 then defW dn dl l else if a0 = 1 then nbs (clampN nm.size) 8 ++ bytesOf nm else if a0 = 3 then replyW x else []
def evW (a0 a1 a2 : Int) (nm : ByteArray) (x : Rp) (dn : ByteArray) (dl : Int) (l : List S61) : List Int := encN [a0, a1, a2] ++ evT a0 nm x dn dl l
def EvI (a0 a1 a2 : Int) (nm : ByteArray) (x : Rp) (dn : ByteArray) (dl : Int) (l : List S61) : Prop :=
 (I64_ a0 ∧ I64_ a1 ∧ I64_ a2) ∧ nm.size < 100000 ∧ RpI x ∧ I64_ dl ∧ l.length < 1000000 ∧ (∀ s ∈ l, StepI s) ∧ (defW dn dl l).length < 100000
instance (x : Rp) : Decidable (RpI x) := by unfold RpI; exact inferInstance
instance (a0 a1 a2 : Int) (nm : ByteArray) (x : Rp) (dn : ByteArray) (dl : Int) (l : List S61) : Decidable (EvI a0 a1 a2 nm x dn dl l) := by unfold EvI; exact inferInstance
def code_PutEvent.f (a0_0 a0_1 a0_2 : Int) (a0_3 : ByteArray) (a0_4 a0_5 : Int) (a0_6 : Bool) (a0_7 : Int) (a0_8 : Bool) (a0_9 : ByteArray) (a0_10 : Int) (l0_11 : List S61) : Option (List Int × Int) :=
 (code_Good.f 100 a0_0 a0_1 a0_2 a0_3 a0_4 a0_5 a0_6 a0_7 a0_8 a0_9 a0_10 l0_11).bind fun g =>
 if g = true then (if EvI a0_0 a0_1 a0_2 a0_3 ⟨a0_4, a0_5, a0_6, a0_7, a0_8⟩ a0_9 a0_10 l0_11 then some (evW a0_0 a0_1 a0_2 a0_3 ⟨a0_4, a0_5, a0_6, a0_7, a0_8⟩ a0_9 a0_10 l0_11, 0) else none) else some ([], 3)
theorem code_PutEvent.calls (a0 a1 a2 : Int) (nm : ByteArray) (x1 x2 : Int) (x3 : Bool) (x4 : Int) (x5 : Bool) (dn : ByteArray) (dl : Int) (A : Option Addr) (c : Nat) (l : List S61) (r1 : List Int) (r2 : Int) (w : World) (hr : Kd.C k61 w A l.length l) (hc : l.length ≤ c) (hTab_ : Tabs_ w) (h : code_PutEvent.f a0 a1 a2 nm x1 x2 x3 x4 x5 dn dl l = some (r1, r2)) :
 Calls Tryd.prog 19 #[.agg #[.int .i64 a0, .int .i64 a1, .int .i64 a2, .string nm, .int .i64 x1, .int .i64 x2, .bool x3, .int .i64 x4, .bool x5, .string dn, .int .i64 dl, .slice A l.length c]] w fun e w' => ∃ v : Value, e = .returned (.tuple #[v, .int .i64 r2]) ∧ Kd.R (Kd.int .u8) 5 w' w.heap.size (fun _ => True) v r1 ∧ Below w.heap.size w w' := by
 unfold code_PutEvent.f at h
 obtain ⟨g, hA1, h⟩ := ob_ h
 have A1 := ak_ hA1
 have HR := ak_ hr
 have HC := ak_ hc
 have HT := ak_ hTab_
 have HB := ak_ (Below.refl w.heap.size w)
 have HH := ak_ h
 clear hA1 hr hc hTab_ h
 cases g
 · have H2 := HH.out
   rw [if_neg (by decide)] at H2
   simp only [Option.some.injEq, Prod.mk.injEq] at H2
   obtain ⟨rfl, rfl⟩ := H2
   go_enter Tryd.func19, Tryd.ntmps19
   go_wp2_with (first | ((with_reducible refine gate_dst (N := 1) rfl ?_); refine box_event ?hg (N := 1) ?hd (cs := #[.int .i64 a0, .int .i64 a1, .int .i64 a2, .string nm, .int .i64 x1, .int .i64 x2, .bool x3, .int .i64 x4, .bool x5, .string dn, .int .i64 dl, .slice A l.length c]) (t := 42) ?hr ?_; (case hd | hg => rfl); (case hr => first | (go_simp; done) | (go_simp; rfl)); intro gs hg w1 hbox hb; have HB1 := ak_ (below_step HB.out hb); have BK1 := ak_ hbox; have z0 := (zc BK1.out 0).trans rfl; have z1 := (zc BK1.out 1).trans rfl; have z2 := (zc BK1.out 2).trans rfl; have z3 := (zc BK1.out 3).trans rfl; have z4 := (zc BK1.out 4).trans rfl; have z5 := (zc BK1.out 5).trans rfl; have z6 := (zc BK1.out 6).trans rfl; have z7 := (zc BK1.out 7).trans rfl; have z8 := (zc BK1.out 8).trans rfl; have z9 := (zc BK1.out 9).trans rfl; have z10 := (zc BK1.out 10).trans rfl; have z11 := (zc BK1.out 11).trans rfl; clear hb hbox hg) | (go_at_call 17; refine (code_Good.calls 100 a0 a1 a2 nm x1 x2 x3 x4 x5 dn dl A c l _ w1 (Kd.C_below HR.out HB1.out) HC.out (Tabs_.below HT.out HB1.out) A1.out).mono ?_; rintro e w2 ⟨rfl, hb⟩; have HB2 := ak_ (below_step HB1.out hb); have BK2 := ak_ (blk_below BK1.out hb); clear hb z0 z1 z2 z3 z4 z5 z6 z7 z8 z9 z10 z11))
   go_ret2
   exact ⟨_, rfl, Kd.R_nil _ _ _ _ _, HB2.out⟩
 · have H2 := HH.out
   rw [if_pos rfl] at H2
   by_cases hI : EvI a0 a1 a2 nm ⟨x1, x2, x3, x4, x5⟩ dn dl l
   · rw [if_pos hI] at H2
     simp only [Option.some.injEq, Prod.mk.injEq] at H2
     obtain ⟨hr1, rfl⟩ := H2
     obtain ⟨⟨i0, i1, i2⟩, i3, i4, i5, i6, i7, i8⟩ := hI
     have HV := ak_ hr1
     have HN := ak_ (show ∀ n ∈ [a0, a1, a2], I64_ n from fun n hn => by
      simp only [List.mem_cons, List.not_mem_nil, or_false] at hn
      rcases hn with h | h | h <;> subst h <;> assumption)
     have HNM := ak_ i3
     have HRP := ak_ i4
     have HDL := ak_ i5
     have HL := ak_ i6
     have HS := ak_ i7
     have HDW := ak_ i8
     have hen : ([] ++ encN [a0, a1, a2] : List Int).length = 24 := by simp [encN_len]
     have HEN := ak_ hen
     clear hen hr1 i0 i1 i2 i3 i4 i5 i6 i7 i8 HH
     by_cases h0 : a0 = 0
     · subst h0
       have HX1 := ak_ (show ([] ++ encN [0, a1, a2] ++ defW dn dl l).length < 1000000 by have := HEN.out; have := HDW.out; rw [List.length_append]; omega)
       have HXE := ak_ (show ([] ++ encN [0, a1, a2] ++ defW dn dl l).length < 100000000 by have := HX1.out; omega)
       go_enter Tryd.func19, Tryd.ntmps19
       go_wp2_with (first | ((with_reducible refine gate_dst (N := 1) rfl ?_); refine box_event ?hg (N := 1) ?hd (cs := #[.int .i64 0, .int .i64 a1, .int .i64 a2, .string nm, .int .i64 x1, .int .i64 x2, .bool x3, .int .i64 x4, .bool x5, .string dn, .int .i64 dl, .slice A l.length c]) (t := 42) ?hr ?_; (case hd | hg => rfl); (case hr => first | (go_simp; done) | (go_simp; rfl)); intro gs hg w1 hbox hb; have HB1 := ak_ (below_step HB.out hb); have BK1 := ak_ hbox; have z0 := (zc BK1.out 0).trans rfl; have z1 := (zc BK1.out 1).trans rfl; have z2 := (zc BK1.out 2).trans rfl; have z3 := (zc BK1.out 3).trans rfl; have z4 := (zc BK1.out 4).trans rfl; have z5 := (zc BK1.out 5).trans rfl; have z6 := (zc BK1.out 6).trans rfl; have z7 := (zc BK1.out 7).trans rfl; have z8 := (zc BK1.out 8).trans rfl; have z9 := (zc BK1.out 9).trans rfl; have z10 := (zc BK1.out 10).trans rfl; have z11 := (zc BK1.out 11).trans rfl; clear hb hbox hg) | (go_at_call 17; refine (code_Good.calls 100 0 a1 a2 nm x1 x2 x3 x4 x5 dn dl A c l _ w1 (Kd.C_below HR.out HB1.out) HC.out (Tabs_.below HT.out HB1.out) A1.out).mono ?_; rintro e w2 ⟨rfl, hb⟩; have HB2 := ak_ (below_step HB1.out hb); have BK2 := ak_ (blk_below BK1.out hb); clear hb z0 z1 z2 z3 z4 z5 z6 z7 z8 z9 z10 z11) | ((with_reducible refine gate_dst (N := 9) rfl ?_); refine box_event ?hg (N := 9) ?hd (cs := #[.slice none 0 0]) (t := 66) ?hr ?_; (case hd | hg => rfl); (case hr => first | (go_simp; done) | (go_simp; rfl)); intro gw hg w3 hbox hb; have HB3 := ak_ (below_step HB2.out hb); have BK3 := ak_ (blk_below BK2.out hb); have NE3 := ak_ (show gs ≠ gw from by rw [hg]; exact Nat.ne_of_lt (blk_lt BK2.out)); have HA3 := ak_ (WA.start (show IsWT 66 w w3 gw (.slice none 0 0) [] from ⟨hbox, by rw [hg]; exact HB2.out.size, Kd.R_nil _ _ _ _ _⟩) (below_step HB2.out hb)); have z0 := (zc BK3.out 0).trans rfl; have z1 := (zc BK3.out 1).trans rfl; have z2 := (zc BK3.out 2).trans rfl; clear hb hbox hg) | (go_at_call 45; refine (wa_nums (HA3.out.below (below_alloc (Below.refl _ _) _)) w3.heap.size [0, a1, a2] (blk_new w3 _) HN.out (by simp)).mono ?_; rintro e w4 ⟨rfl, hA⟩; have HA4 := ak_ hA; have BK4 := ak_ (HA4.out.blk BK3.out NE3.out (by intro h; cases h)); obtain ⟨⟨u4, hi, hk, ho⟩, hB⟩ := hA; have HI4 := ak_ hi; have HB4 := ak_ hB; clear hi hk ho hB z0 z1 z2; have z0 := (zc BK4.out 0).trans rfl; have z9 := (zc BK4.out 9).trans rfl; have z10 := (zc BK4.out 10).trans rfl; have z11 := (zc BK4.out 11).trans rfl;) | (go_at_call 22; refine (wa_def HA4.out dn dl A c l HR.out HDL.out HL.out HS.out HX1.out).mono ?_; rintro e w5 ⟨rfl, hA⟩; have HA5 := ak_ hA; obtain ⟨⟨u5, hi, hk, ho⟩, hB⟩ := hA; have HI5 := ak_ hi; have HB5 := ak_ hB; clear hi hk ho hB z0 z9 z10 z11) | (go_at_call 23; refine (writer_Bytes.callsT 66 gw _ _ w _ HI5.out HXE.out).mono ?_; rintro e w8 ⟨v8, rfl, hR, hi, hb⟩; have HR8 := ak_ (Kd.R_lower hR HB5.out.size); have HB8 := ak_ (below_step HB5.out hb); clear hR hi hb))
       go_ret2
       refine ⟨v8, rfl, ?_, HB8.out⟩
       rw [← HV.out]
       have h8 := HR8.out
       unfold evW evT
       rw [if_pos rfl]
       simpa only [List.nil_append, List.append_assoc] using h8
     by_cases h1 : a0 = 1
     · clear h0
       subst h1
       have HX1 := ak_ (show ([] ++ encN [1, a1, a2]).length + nm.size < 100000000 by have := HEN.out; have := HNM.out; omega)
       have HXE := ak_ (show ([] ++ encN [1, a1, a2] ++ nbs (clampN nm.size) 8 ++ bytesOf nm).length < 100000000 by have := HEN.out; have := HNM.out; simp [encN_len, nbs, bytesOf_length]; omega)
       go_enter Tryd.func19, Tryd.ntmps19
       go_upto_region 9 with (first | ((with_reducible refine gate_dst (N := 1) rfl ?_); refine box_event ?hg (N := 1) ?hd (cs := #[.int .i64 1, .int .i64 a1, .int .i64 a2, .string nm, .int .i64 x1, .int .i64 x2, .bool x3, .int .i64 x4, .bool x5, .string dn, .int .i64 dl, .slice A l.length c]) (t := 42) ?hr ?_; (case hd | hg => rfl); (case hr => first | (go_simp; done) | (go_simp; rfl)); intro gs hg w1 hbox hb; have HB1 := ak_ (below_step HB.out hb); have BK1 := ak_ hbox; have z0 := (zc BK1.out 0).trans rfl; have z1 := (zc BK1.out 1).trans rfl; have z2 := (zc BK1.out 2).trans rfl; have z3 := (zc BK1.out 3).trans rfl; have z4 := (zc BK1.out 4).trans rfl; have z5 := (zc BK1.out 5).trans rfl; have z6 := (zc BK1.out 6).trans rfl; have z7 := (zc BK1.out 7).trans rfl; have z8 := (zc BK1.out 8).trans rfl; have z9 := (zc BK1.out 9).trans rfl; have z10 := (zc BK1.out 10).trans rfl; have z11 := (zc BK1.out 11).trans rfl; clear hb hbox hg) | (go_at_call 17; refine (code_Good.calls 100 1 a1 a2 nm x1 x2 x3 x4 x5 dn dl A c l _ w1 (Kd.C_below HR.out HB1.out) HC.out (Tabs_.below HT.out HB1.out) A1.out).mono ?_; rintro e w2 ⟨rfl, hb⟩; have HB2 := ak_ (below_step HB1.out hb); have BK2 := ak_ (blk_below BK1.out hb); clear hb z0 z1 z2 z3 z4 z5 z6 z7 z8 z9 z10 z11) | ((with_reducible refine gate_dst (N := 9) rfl ?_); refine box_event ?hg (N := 9) ?hd (cs := #[.slice none 0 0]) (t := 66) ?hr ?_; (case hd | hg => rfl); (case hr => first | (go_simp; done) | (go_simp; rfl)); intro gw hg w3 hbox hb; have HB3 := ak_ (below_step HB2.out hb); have BK3 := ak_ (blk_below BK2.out hb); have NE3 := ak_ (show gs ≠ gw from by rw [hg]; exact Nat.ne_of_lt (blk_lt BK2.out)); have HA3 := ak_ (WA.start (show IsWT 66 w w3 gw (.slice none 0 0) [] from ⟨hbox, by rw [hg]; exact HB2.out.size, Kd.R_nil _ _ _ _ _⟩) (below_step HB2.out hb)); have z0 := (zc BK3.out 0).trans rfl; have z1 := (zc BK3.out 1).trans rfl; have z2 := (zc BK3.out 2).trans rfl; clear hb hbox hg) | (go_at_call 45; refine (wa_nums (HA3.out.below (below_alloc (Below.refl _ _) _)) w3.heap.size [1, a1, a2] (blk_new w3 _) HN.out (by simp)).mono ?_; rintro e w4 ⟨rfl, hA⟩; have HA4 := ak_ hA; have BK4 := ak_ (HA4.out.blk BK3.out NE3.out (by intro h; cases h)); obtain ⟨⟨u4, hi, hk, ho⟩, hB⟩ := hA; have HI4 := ak_ hi; have HB4 := ak_ hB; clear hi hk ho hB z0 z1 z2; have z0 := (zc BK4.out 0).trans rfl; skip))
       (try clear z0)
       have y1 : w4.cell? ⟨gs, 3, none⟩ = some (.string nm) := (zc BK4.out 3).trans rfl
       refine start_ (n := 6) (S := fun w' => w'.cell? ⟨gs, 3, none⟩ = some (.string nm)) (ds := []) #[false, false, false, false, false, false] (by kernel_rfl) rfl rfl (y1) (fun hHeld => ?_)
       refine pure_ (i := 0) (N := some 29) (v := ?_) (a' := ?_) #[true, false, false, false, false, false] rfl rfl (by kernel_rfl) (fun _ _ _ h => h) (Or.inl ⟨by rfl, ?_⟩) ?_ ?_
       rotate_left
       · intro w'
         go_simp
         with_reducible rfl
       rotate_left
       · simp only [Act.put, sa_, sz_, ss_, i64_w, i32_w]
         rfl
       refine pure_ (i := 1) (N := some 30) (v := ?_) (a' := ?_) #[true, true, false, false, false, false] rfl rfl (by kernel_rfl) (fun _ _ _ h => h) (Or.inl ⟨by rfl, ?_⟩) ?_ ?_
       rotate_left
       · intro w'
         go_simp
         with_reducible rfl
       rotate_left
       · simp only [Act.put, sa_, sz_, ss_, i64_w, i32_w]
         rfl
       refine pure_ (i := 2) (N := some 31) (v := ?_) (a' := ?_) #[true, true, true, false, false, false] rfl rfl (by kernel_rfl) (fun _ _ _ h => h) (Or.inl ⟨by rfl, ?_⟩) ?_ ?_
       rotate_left
       · intro w'
         go_simp
         with_reducible rfl
       rotate_left
       · simp only [Act.put, sa_, sz_, ss_, i64_w, i32_w]
         rfl
       refine pure_ (i := 3) (N := some 32) (v := ?_) (a' := ?_) #[true, true, true, true, false, false] rfl rfl (by kernel_rfl) (fun _ _ _ h => h) (Or.inl ⟨by rfl, ?_⟩) ?_ ?_
       rotate_left
       · intro w'
         go_simp
         with_reducible rfl
       rotate_left
       · simp only [Act.put, sa_, sz_, ss_, i64_w, i32_w]
         rfl
       refine take_ (i := 4) (N := some 33) (v := ?_) (a' := ?_) #[true, true, true, true, true, false] rfl rfl (by kernel_rfl) (fun _ _ _ h => h) (Or.inl ⟨by rfl, ?_⟩) hHeld ?_ ?_
       rotate_left
       · intro w' s0
         go_simp
         with_reducible rfl
       rotate_left
       · simp only [Act.put, sa_, sz_, ss_, i64_w, i32_w]
         rfl
       refine one_ (i := 5) (N := some 34) #[true, true, true, true, true, true] rfl rfl (by kernel_rfl) (by decide) (fun K hK => ?_)
       refine goes_ Tryd.func46 (by kernel_rfl) rfl #[.pointer (some ⟨gw, 0, none⟩), .string nm] (by rfl) rfl rfl (by simp only [mt_, mc_, mn_]; rfl) ?_
       with_reducible refine (wa_text HA4.out.drew nm HX1.out).mono ?_
       rintro e w5 ⟨rfl, hA⟩
       refine ⟨_, rfl, ?_⟩
       have BK5 := ak_ (hA.blk BK3.out NE3.out (by intro h; cases h))
       obtain ⟨⟨u5, hi, hk, ho⟩, hB⟩ := hA
       have HI5 := ak_ hi
       have HB5 := ak_ hB
       clear hi hk ho hB
       refine hK.out _ _ ((zc BK5.out 3).trans rfl) (fun hHeld => ?_)
       clear hK K
       refine norm_ (a' := ?_) ?_ ?_
       rotate_left
       · show Act.put _ (some 34) _ = _
         simp only [Act.put, sa_, sz_, ss_, i64_w, i32_w]
         rfl
       refine done_ (by kernel_rfl) ?_
       clear hHeld y1
       go_wp2_with (go_at_call 23; refine (writer_Bytes.callsT 66 gw _ _ w _ HI5.out HXE.out).mono ?_; rintro e w8 ⟨v8, rfl, hR, hi, hb⟩; have HR8 := ak_ (Kd.R_lower hR HB5.out.size); have HB8 := ak_ (below_step HB5.out hb); clear hR hi hb)
       go_ret2
       refine ⟨v8, rfl, ?_, HB8.out⟩
       rw [← HV.out]
       have h8 := HR8.out
       unfold evW evT
       rw [if_neg (by decide), if_pos rfl]
       simpa only [List.nil_append, List.append_assoc] using h8
     by_cases h3 : a0 = 3
     · clear h0 h1
       subst h3
       have HX1 := ak_ (show ([] ++ encN [3, a1, a2]).length < 1000000 by have := HEN.out; omega)
       have HXE := ak_ (show ([] ++ encN [3, a1, a2] ++ replyW ⟨x1, x2, x3, x4, x5⟩).length < 100000000 by have := HEN.out; have := replyW_len ⟨x1, x2, x3, x4, x5⟩; rw [List.length_append]; omega)
       go_enter Tryd.func19, Tryd.ntmps19
       go_wp2_with (first | ((with_reducible refine gate_dst (N := 1) rfl ?_); refine box_event ?hg (N := 1) ?hd (cs := #[.int .i64 3, .int .i64 a1, .int .i64 a2, .string nm, .int .i64 x1, .int .i64 x2, .bool x3, .int .i64 x4, .bool x5, .string dn, .int .i64 dl, .slice A l.length c]) (t := 42) ?hr ?_; (case hd | hg => rfl); (case hr => first | (go_simp; done) | (go_simp; rfl)); intro gs hg w1 hbox hb; have HB1 := ak_ (below_step HB.out hb); have BK1 := ak_ hbox; have z0 := (zc BK1.out 0).trans rfl; have z1 := (zc BK1.out 1).trans rfl; have z2 := (zc BK1.out 2).trans rfl; have z3 := (zc BK1.out 3).trans rfl; have z4 := (zc BK1.out 4).trans rfl; have z5 := (zc BK1.out 5).trans rfl; have z6 := (zc BK1.out 6).trans rfl; have z7 := (zc BK1.out 7).trans rfl; have z8 := (zc BK1.out 8).trans rfl; have z9 := (zc BK1.out 9).trans rfl; have z10 := (zc BK1.out 10).trans rfl; have z11 := (zc BK1.out 11).trans rfl; clear hb hbox hg) | (go_at_call 17; refine (code_Good.calls 100 3 a1 a2 nm x1 x2 x3 x4 x5 dn dl A c l _ w1 (Kd.C_below HR.out HB1.out) HC.out (Tabs_.below HT.out HB1.out) A1.out).mono ?_; rintro e w2 ⟨rfl, hb⟩; have HB2 := ak_ (below_step HB1.out hb); have BK2 := ak_ (blk_below BK1.out hb); clear hb z0 z1 z2 z3 z4 z5 z6 z7 z8 z9 z10 z11) | ((with_reducible refine gate_dst (N := 9) rfl ?_); refine box_event ?hg (N := 9) ?hd (cs := #[.slice none 0 0]) (t := 66) ?hr ?_; (case hd | hg => rfl); (case hr => first | (go_simp; done) | (go_simp; rfl)); intro gw hg w3 hbox hb; have HB3 := ak_ (below_step HB2.out hb); have BK3 := ak_ (blk_below BK2.out hb); have NE3 := ak_ (show gs ≠ gw from by rw [hg]; exact Nat.ne_of_lt (blk_lt BK2.out)); have HA3 := ak_ (WA.start (show IsWT 66 w w3 gw (.slice none 0 0) [] from ⟨hbox, by rw [hg]; exact HB2.out.size, Kd.R_nil _ _ _ _ _⟩) (below_step HB2.out hb)); have z0 := (zc BK3.out 0).trans rfl; have z1 := (zc BK3.out 1).trans rfl; have z2 := (zc BK3.out 2).trans rfl; clear hb hbox hg) | (go_at_call 45; refine (wa_nums (HA3.out.below (below_alloc (Below.refl _ _) _)) w3.heap.size [3, a1, a2] (blk_new w3 _) HN.out (by simp)).mono ?_; rintro e w4 ⟨rfl, hA⟩; have HA4 := ak_ hA; have BK4 := ak_ (HA4.out.blk BK3.out NE3.out (by intro h; cases h)); obtain ⟨⟨u4, hi, hk, ho⟩, hB⟩ := hA; have HI4 := ak_ hi; have HB4 := ak_ hB; clear hi hk ho hB z0 z1 z2; have z0 := (zc BK4.out 0).trans rfl; have z4 := (zc BK4.out 4).trans rfl; have z5 := (zc BK4.out 5).trans rfl; have z6 := (zc BK4.out 6).trans rfl; have z7 := (zc BK4.out 7).trans rfl; have z8 := (zc BK4.out 8).trans rfl;) | (go_at_call 47; refine (wa_reply5 HA4.out x1 x2 x3 x4 x5 HRP.out HX1.out).mono ?_; rintro e w5 ⟨rfl, hA⟩; have HA5 := ak_ hA; obtain ⟨⟨u5, hi, hk, ho⟩, hB⟩ := hA; have HI5 := ak_ hi; have HB5 := ak_ hB; clear hi hk ho hB z0 z4 z5 z6 z7 z8) | (go_at_call 23; refine (writer_Bytes.callsT 66 gw _ _ w _ HI5.out HXE.out).mono ?_; rintro e w8 ⟨v8, rfl, hR, hi, hb⟩; have HR8 := ak_ (Kd.R_lower hR HB5.out.size); have HB8 := ak_ (below_step HB5.out hb); clear hR hi hb))
       go_ret2
       refine ⟨v8, rfl, ?_, HB8.out⟩
       rw [← HV.out]
       have h8 := HR8.out
       unfold evW evT
       rw [if_neg (by decide), if_neg (by decide), if_pos rfl]
       simpa only [List.nil_append, List.append_assoc] using h8
     · have HXE := ak_ (show ([] ++ encN [a0, a1, a2]).length < 100000000 by have := HEN.out; omega)
       have e0 : (a0 == 0) = false := beq_eq_false_iff_ne.mpr h0
       have e1 : (a0 == 1) = false := beq_eq_false_iff_ne.mpr h1
       have e3 : (a0 == 3) = false := beq_eq_false_iff_ne.mpr h3
       have H013 := ak_ (And.intro h0 (And.intro h1 h3))
       clear h0 h1 h3
       go_enter Tryd.func19, Tryd.ntmps19
       go_wp2_with (first | ((with_reducible refine gate_dst (N := 1) rfl ?_); refine box_event ?hg (N := 1) ?hd (cs := #[.int .i64 a0, .int .i64 a1, .int .i64 a2, .string nm, .int .i64 x1, .int .i64 x2, .bool x3, .int .i64 x4, .bool x5, .string dn, .int .i64 dl, .slice A l.length c]) (t := 42) ?hr ?_; (case hd | hg => rfl); (case hr => first | (go_simp; done) | (go_simp; rfl)); intro gs hg w1 hbox hb; have HB1 := ak_ (below_step HB.out hb); have BK1 := ak_ hbox; have z0 := (zc BK1.out 0).trans rfl; have z1 := (zc BK1.out 1).trans rfl; have z2 := (zc BK1.out 2).trans rfl; have z3 := (zc BK1.out 3).trans rfl; have z4 := (zc BK1.out 4).trans rfl; have z5 := (zc BK1.out 5).trans rfl; have z6 := (zc BK1.out 6).trans rfl; have z7 := (zc BK1.out 7).trans rfl; have z8 := (zc BK1.out 8).trans rfl; have z9 := (zc BK1.out 9).trans rfl; have z10 := (zc BK1.out 10).trans rfl; have z11 := (zc BK1.out 11).trans rfl; clear hb hbox hg) | (go_at_call 17; refine (code_Good.calls 100 a0 a1 a2 nm x1 x2 x3 x4 x5 dn dl A c l _ w1 (Kd.C_below HR.out HB1.out) HC.out (Tabs_.below HT.out HB1.out) A1.out).mono ?_; rintro e w2 ⟨rfl, hb⟩; have HB2 := ak_ (below_step HB1.out hb); have BK2 := ak_ (blk_below BK1.out hb); clear hb z0 z1 z2 z3 z4 z5 z6 z7 z8 z9 z10 z11) | ((with_reducible refine gate_dst (N := 9) rfl ?_); refine box_event ?hg (N := 9) ?hd (cs := #[.slice none 0 0]) (t := 66) ?hr ?_; (case hd | hg => rfl); (case hr => first | (go_simp; done) | (go_simp; rfl)); intro gw hg w3 hbox hb; have HB3 := ak_ (below_step HB2.out hb); have BK3 := ak_ (blk_below BK2.out hb); have NE3 := ak_ (show gs ≠ gw from by rw [hg]; exact Nat.ne_of_lt (blk_lt BK2.out)); have HA3 := ak_ (WA.start (show IsWT 66 w w3 gw (.slice none 0 0) [] from ⟨hbox, by rw [hg]; exact HB2.out.size, Kd.R_nil _ _ _ _ _⟩) (below_step HB2.out hb)); have z0 := (zc BK3.out 0).trans rfl; have z1 := (zc BK3.out 1).trans rfl; have z2 := (zc BK3.out 2).trans rfl; clear hb hbox hg) | (go_at_call 45; refine (wa_nums (HA3.out.below (below_alloc (Below.refl _ _) _)) w3.heap.size [a0, a1, a2] (blk_new w3 _) HN.out (by simp)).mono ?_; rintro e w4 ⟨rfl, hA⟩; have HA4 := ak_ hA; have BK4 := ak_ (HA4.out.blk BK3.out NE3.out (by intro h; cases h)); obtain ⟨⟨u4, hi, hk, ho⟩, hB⟩ := hA; have HI4 := ak_ hi; have HB4 := ak_ hB; clear hi hk ho hB z0 z1 z2; have z0 := (zc BK4.out 0).trans rfl; skip) | (go_at_call 23; refine (writer_Bytes.callsT 66 gw _ _ w _ HI4.out HXE.out).mono ?_; rintro e w8 ⟨v8, rfl, hR, hi, hb⟩; have HR8 := ak_ (Kd.R_lower hR HB4.out.size); have HB8 := ak_ (below_step HB4.out hb); clear hR hi hb))
       go_ret2
       refine ⟨v8, rfl, ?_, HB8.out⟩
       rw [← HV.out]
       have h8 := HR8.out
       unfold evW evT
       rw [if_neg H013.out.1, if_neg H013.out.2.1, if_neg H013.out.2.2, List.append_nil]
       simpa only [List.nil_append, List.append_assoc] using h8
   · rw [if_neg hI] at H2
     cases H2
end Go.Proofs.YtcgpbakimkhdpaaDoor.Q
