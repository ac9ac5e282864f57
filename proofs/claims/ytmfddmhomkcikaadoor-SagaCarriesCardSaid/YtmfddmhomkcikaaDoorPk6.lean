/- Part 6 of a claim's texts. -/
import Derived.Test.YtmfddmhomkcikaaDoorPk1
import Derived.Test.YtmfddmhomkcikaaDoorPk5
import Derived.Laws.Rows
import Derived.Laws.Tables
import Derived.Laws.CopyOwn
import Derived.Shelf.Abstract
import Derived.Shelf.RegionOpen
import Derived.OwnWalkIn
import Derived.TacticsInMore
import Derived.Sort.CutIn
import Derived.LoopNIn
import Derived.LoopIn
import Derived.Lib.SliceRun
import Derived.Lib.Hide
import Derived.Outline
namespace Go.Proofs.YtmfddmhomkcikaaDoor.Q
open Go.RowKit Go.Proofs.YtmfddmhomkcikaaDoorW.PrintWords Go.Proofs.YtmfddmhomkcikaaDoorW.PrintLast Go.Proofs.YtmfddmhomkcikaaDoorW.PrintMore
attribute [local go_sem] max2_int min2_int max_two min_two max_three min_three max_four min_four
set_option linter.unusedVariables false
set_option linter.unusedSimpArgs false
set_option maxHeartbeats 8000000
set_option maxRecDepth 100000
open Go.Proofs.YtmfddmhomkcikaaDoor.Q.H_
def def_Key.j0 : Nat → Int → Int → Bool → Bool → ByteArray → Int → List (S70) → Option (ByteArray)
 | 0, _, _, _, _, _, _, _ => none
 | k + 1, x0, x2, x3, x21, x189000, x189001, x189002 => if x21 = true then (some (⟨#[]⟩ : ByteArray)) else ((strconv_Itoa_69.f x0).bind fun t189 => (if t189.size + 1 ≤ 9223372036854775807 then (if 0 ≤ x2 then (if x2 < (x189002.length : Int) then (if (t189 ++ (⟨#[47]⟩ : ByteArray)).size + ((rd_T70 x189002 x2).f0).size ≤ 9223372036854775807 then (if ((t189 ++ (⟨#[47]⟩ : ByteArray)) ++ ((rd_T70 x189002 x2).f0)).size + 1 ≤ 9223372036854775807 then ((def_way.f x3).bind fun t191 => (if (((t189 ++ (⟨#[47]⟩ : ByteArray)) ++ ((rd_T70 x189002 x2).f0)) ++ (⟨#[47]⟩ : ByteArray)).size + t191.size ≤ 9223372036854775807 then (some ((((t189 ++ (⟨#[47]⟩ : ByteArray)) ++ ((rd_T70 x189002 x2).f0)) ++ (⟨#[47]⟩ : ByteArray)) ++ t191)) else (none))) else (none)) else (none)) else (none)) else (none)) else (none)))
def def_Key.f (k : Nat) (a0 : Int) (a1_0 : ByteArray) (a1_1 : Int) (l1_2 : List (S70)) (a2 : Int) (a3 : Bool) : Option (ByteArray) := if a0 < 0 then (def_Key.j0 k a0 a2 a3 true a1_0 a1_1 l1_2) else (if a2 < 0 then (def_Key.j0 k a0 a2 a3 true a1_0 a1_1 l1_2) else (def_Key.j0 k a0 a2 a3 (decide (a2 ≥ (l1_2.length : Int))) a1_0 a1_1 l1_2))
def def_Key.T3 : Bool × List (List Nat × List Nat) := (true, [([], []), ([0], [0]), ([1], [1]), ([], []), ([3], [3]), ([], []), ([4, 5], [4, 5]), ([6], [6]), ([7], [7]), ([2, 8], [2, 8]), ([9], [9]), ([], []), ([11, 1], [11]), ([10, 12], [10, 12]), ([13, 12, 0, 1, 2, 3, 4, 5, 6, 7, 8, 9, 10, 11, 12, 13], [13])])
def def_Key.B3 : List Nat := [0, 1, 3, 0, 8, 0, 56, 120, 248, 511, 1023, 0, 2051, 8191, 16383]
theorem def_Key.tab3 : rtab .any (opsOf Tryd.f37 3) = def_Key.T3 := by kernel_rfl
theorem def_Key.bits3 : waitsOk def_Key.T3.2 def_Key.B3 = true := by kernel_rfl
theorem def_Key.calls (k : Nat) (a0 : Int) (a1_0 : ByteArray) (a1_1 : Int) (A1_2 : Option Addr) (c1_2 : Nat) (l1_2 : List (S70)) (a2 : Int) (a3 : Bool) (r : ByteArray) (w : World) (hr1_2 : Kd.C k70 w A1_2 l1_2.length l1_2) (hc1_2 : l1_2.length ≤ c1_2) (hTab_ : Tabs_ w) (h : def_Key.f k a0 a1_0 a1_1 l1_2 a2 a3 = some r) :
 Calls Tryd.prog 37 #[.int .i64 a0, .agg #[.string a1_0, .int .i64 a1_1, .slice A1_2 l1_2.length c1_2], .int .i64 a2, .bool a3] w fun e w' => e = .returned (.string r) ∧ Below w.heap.size w w' := by
 have HT := ak_ hTab_
 clear hTab_
 have hu24 := Tryd.underlying24
 have HR1_2 := ak_ hr1_2
 have HC1_2 := ak_ hc1_2
 clear hr1_2 hc1_2
 have HB := ak_ (Below.refl w.heap.size w)
 have H : (if a0 < 0 then (def_Key.j0 k a0 a2 a3 true a1_0 a1_1 l1_2) else (if a2 < 0 then (def_Key.j0 k a0 a2 a3 true a1_0 a1_1 l1_2) else (def_Key.j0 k a0 a2 a3 (decide (a2 ≥ (l1_2.length : Int))) a1_0 a1_1 l1_2))) = some r := h
 clear h
 have HC5 := ak_ H
 clear H
 go_enter Tryd.func37, Tryd.ntmps37
 go_upto_region 1 with (first | ((with_reducible refine gate_dst (N := 5) rfl ?_); (try (refine gate_guard (by rfl) ?_; dsimp only)); refine box_event ?hg (N := 5) ?hd (cs := #[.string a1_0, .int .i64 a1_1, .slice A1_2 l1_2.length c1_2]) (t := 24) ?hr ?_; (case hd | hg => rfl); (case hr => first | (go_simp; done) | (go_simp; rfl)); intro gb188 hg w6 hbox hb; have n0_ := ak_ (ps (by with_reducible repeat first | exact HB.out | apply pa | apply pd | apply pe) hb); have n1_ := ak_ (hbox); have n2_ := ak_ ((by rw [hg]; exact (below_size (by with_reducible repeat first | exact HB.out | apply pa | apply pd | apply pe)) : w.heap.size ≤ gb188)); have n3_ := ak_ ((by rw [hg]; exact (below_size (by with_reducible repeat first | exact HB.out | apply pa | apply pd | apply pe)) : w.heap.size ≤ gb188)); clear HB; have HB := n0_; have BK188 := n1_; have GW188 := n2_; have GE188 := n3_; clear n0_ n1_ n2_ n3_ hb hbox hg))
 (try simp only [Act.put, sa_, sz_, ss_])
 go_cut [21] (fun v21 wc => ∃ (kq : Nat) (x21_4 : Bool), v21 = .bool x21_4 ∧ Aside0 (def_Key.j0 kq a0 a2 a3 x21_4 a1_0 a1_1 l1_2 = some r) ∧ Aside0 (kq ≤ k) ∧ Aside0 (wc.heap[gb188]? = some (.cells #[.string a1_0, .int .i64 a1_1, (.slice A1_2 l1_2.length c1_2)] 24 (0, 0))) ∧ Aside0 (Below w.heap.size w wc))
 case first =>
  have H := HC5.out
  clear HC5
  by_cases c7 : a0 < 0
  · rw [if_pos c7] at H
    have c7b0 : decide (a0 < 0) = true := dt_ c7
    clear c7
    (first | rw [c7b0] | (simp only [i64_w, i32_w]; rw [c7b0]) | skip)
    have H' := ak_ H
    clear H
    go_wp2
    go_meet
    case rel => exact ⟨_, (true), (by first | rfl | simp [*]), H', ⟨by first | omega | exact Nat.le_refl _⟩, ⟨by (with_reducible repeat (first | apply zn | apply zd | apply za)); exact BK188.out⟩, ⟨by repeat (first | (with_reducible first | exact HB.out | apply pa | apply pd | apply pe | refine zs ?_ GE188.out) | exact HB.out)⟩⟩
  rw [if_neg c7] at H
  have c7b0 : decide (a0 < 0) = false := df_ c7
  clear c7
  (first | rw [c7b0] | (simp only [i64_w, i32_w]; rw [c7b0]) | skip)
  by_cases c8 : a2 < 0
  · rw [if_pos c8] at H
    have c8b0 : decide (a2 < 0) = true := dt_ c8
    clear c8
    have H' := ak_ H
    clear H
    go_wp2
    go_meet
    case rel => exact ⟨_, (true), (by first | rfl | simp [*]), H', ⟨by first | omega | exact Nat.le_refl _⟩, ⟨by (with_reducible repeat (first | apply zn | apply zd | apply za)); exact BK188.out⟩, ⟨by repeat (first | (with_reducible first | exact HB.out | apply pa | apply pd | apply pe | refine zs ?_ GE188.out) | exact HB.out)⟩⟩
  rw [if_neg c8] at H
  have c8b0 : decide (a2 < 0) = false := df_ c8
  clear c8
  have H' := ak_ H
  clear H
  have hcz9_0 : w6.cell? ⟨gb188, 0, none⟩ = some (.string a1_0) := (zc BK188.out 0).trans rfl
  have hcz9_1 : w6.cell? ⟨gb188, 1, none⟩ = some (.int .i64 a1_1) := (zc BK188.out 1).trans rfl
  have hcz9_2 : w6.cell? ⟨gb188, 2, none⟩ = some (.slice A1_2 l1_2.length c1_2) := (zc BK188.out 2).trans rfl
  have hfz9_0 := zf BK188.out 0
  have hfz9_1 := zf BK188.out 1
  have hfz9_2 := zf BK188.out 2
  go_wp2
  go_meet
  case rel => exact ⟨_, (decide (a2 ≥ (l1_2.length : Int))), (by first | rfl | simp [*]), H', ⟨by first | omega | exact Nat.le_refl _⟩, ⟨by (with_reducible repeat (first | apply zn | apply zd | apply za)); exact BK188.out⟩, ⟨by repeat (first | (with_reducible first | exact HB.out | apply pa | apply pd | apply pe | refine zs ?_ GE188.out) | exact HB.out)⟩⟩
 case rest =>
  clear HC5
  try clear c1
  try clear p2
  try clear c3
  try clear c7
  try clear c7b0
  try clear c8
  try clear c8b0
  try clear hcz9_0
  try clear hcz9_1
  try clear hcz9_2
  try clear hfz9_0
  try clear hfz9_1
  try clear hfz9_2
  obtain ⟨kq, x21_4, rfl, HA, HJ4, BK188, HB⟩ := hcut
  cases kq with
  | zero => exact absurd HA.out (by simp [def_Key.j0])
  | succ kj4 =>
   have H := HA.out
   clear HA
   simp only [def_Key.j0] at H
   have HF10 := ak_ H
   clear H
   go_upto_if 21 with (fail)
   have H := HF10.out
   clear HF10
   by_cases c11 : x21_4 = true
   · subst c11
     have H1 : (some (⟨#[]⟩ : ByteArray)) = some r := by rw [if_pos rfl] at H; exact H
     clear H
     have H := H1
     clear H1
     obtain rfl := Option.some.inj H
     go_wp2
     go_ret
     exact ⟨by first | rfl | simp [*], by repeat (first | (with_reducible first | exact HB.out | apply pa | apply pd | apply pe | refine zs ?_ GE188.out) | exact HB.out)⟩
   replace c11 := Bool.eq_false_iff.mpr c11
   subst c11
   have H1 : ((strconv_Itoa_69.f a0).bind fun t189 => (if t189.size + 1 ≤ 9223372036854775807 then (if 0 ≤ a2 then (if a2 < (l1_2.length : Int) then (if (t189 ++ (⟨#[47]⟩ : ByteArray)).size + ((rd_T70 l1_2 a2).f0).size ≤ 9223372036854775807 then (if ((t189 ++ (⟨#[47]⟩ : ByteArray)) ++ ((rd_T70 l1_2 a2).f0)).size + 1 ≤ 9223372036854775807 then ((def_way.f a3).bind fun t191 => (if (((t189 ++ (⟨#[47]⟩ : ByteArray)) ++ ((rd_T70 l1_2 a2).f0)) ++ (⟨#[47]⟩ : ByteArray)).size + t191.size ≤ 9223372036854775807 then (some ((((t189 ++ (⟨#[47]⟩ : ByteArray)) ++ ((rd_T70 l1_2 a2).f0)) ++ (⟨#[47]⟩ : ByteArray)) ++ t191)) else (none))) else (none)) else (none)) else (none)) else (none)) else (none))) = some r := by rw [if_neg (show ¬ (false = true) by decide)] at H; exact H
   clear H
   have H := H1
   clear H1
   replace H := ob_ H
   obtain ⟨t189, A120, H⟩ := H
   replace H : (if t189.size + 1 ≤ 9223372036854775807 then (if 0 ≤ a2 then (if a2 < (l1_2.length : Int) then (if (t189 ++ (⟨#[47]⟩ : ByteArray)).size + ((rd_T70 l1_2 a2).f0).size ≤ 9223372036854775807 then (if ((t189 ++ (⟨#[47]⟩ : ByteArray)) ++ ((rd_T70 l1_2 a2).f0)).size + 1 ≤ 9223372036854775807 then ((def_way.f a3).bind fun t191 => (if (((t189 ++ (⟨#[47]⟩ : ByteArray)) ++ ((rd_T70 l1_2 a2).f0)) ++ (⟨#[47]⟩ : ByteArray)).size + t191.size ≤ 9223372036854775807 then (some ((((t189 ++ (⟨#[47]⟩ : ByteArray)) ++ ((rd_T70 l1_2 a2).f0)) ++ (⟨#[47]⟩ : ByteArray)) ++ t191)) else (none))) else (none)) else (none)) else (none)) else (none)) else (none)) = some r := H
   have A12 := ak_ A120
   clear A120
   by_cases c13 : t189.size + 1 ≤ 9223372036854775807
   · rw [if_pos c13] at H
     have c13b0 := eq_true c13
     have c13b1 : decide (t189.size + 1 ≤ 9223372036854775807) = true := dt_ c13
     try have c13b2 : (9223372036854775807 < t189.size + 1) = False := eq_false (Nat.not_lt.2 c13)
     by_cases c14 : 0 ≤ a2
     · rw [if_pos c14] at H
       have c14b0 : decide (0 ≤ a2) = true := dt_ c14
       clear c14
       (first | rw [c14b0] | (simp only [i64_w, i32_w]; rw [c14b0]) | skip)
       by_cases c15 : a2 < (l1_2.length : Int)
       · rw [if_pos c15] at H
         have c15b0 : decide (a2 < (l1_2.length : Int)) = true := dt_ c15
         clear c15
         by_cases c16 : (t189 ++ (⟨#[47]⟩ : ByteArray)).size + ((rd_T70 l1_2 a2).f0).size ≤ 9223372036854775807
         · rw [if_pos c16] at H
           have c16b0 := eq_true c16
           have c16b1 : decide ((t189 ++ (⟨#[47]⟩ : ByteArray)).size + ((rd_T70 l1_2 a2).f0).size ≤ 9223372036854775807) = true := dt_ c16
           try have c16b2 : (9223372036854775807 < (t189 ++ (⟨#[47]⟩ : ByteArray)).size + ((rd_T70 l1_2 a2).f0).size) = False := eq_false (Nat.not_lt.2 c16)
           have c16b3 : (9223372036854775807 < t189.size + 1 + ((rd_T70 l1_2 a2).f0).size) = False := (by have q := c16; rw [ByteArray.size_append] at q; exact eq_false (Nat.not_lt.2 q))
           try have c16b3 := c16b2
           try simp only [ByteArray.size_append] at c16b3
           by_cases c17 : ((t189 ++ (⟨#[47]⟩ : ByteArray)) ++ ((rd_T70 l1_2 a2).f0)).size + 1 ≤ 9223372036854775807
           · rw [if_pos c17] at H
             have c17b0 := eq_true c17
             have c17b1 : decide (((t189 ++ (⟨#[47]⟩ : ByteArray)) ++ ((rd_T70 l1_2 a2).f0)).size + 1 ≤ 9223372036854775807) = true := dt_ c17
             try have c17b2 : (9223372036854775807 < ((t189 ++ (⟨#[47]⟩ : ByteArray)) ++ ((rd_T70 l1_2 a2).f0)).size + 1) = False := eq_false (Nat.not_lt.2 c17)
             have c17b3 : (9223372036854775807 < t189.size + 1 + (rd_T70 l1_2 a2).f0.size + 1) = False := (by have q := c17; rw [ByteArray.size_append, ByteArray.size_append] at q; exact eq_false (Nat.not_lt.2 q))
             try have c17b3 := c17b2
             try simp only [ByteArray.size_append] at c17b3
             replace H := ob_ H
             obtain ⟨t191, A180, H⟩ := H
             replace H : (if (((t189 ++ (⟨#[47]⟩ : ByteArray)) ++ ((rd_T70 l1_2 a2).f0)) ++ (⟨#[47]⟩ : ByteArray)).size + t191.size ≤ 9223372036854775807 then (some ((((t189 ++ (⟨#[47]⟩ : ByteArray)) ++ ((rd_T70 l1_2 a2).f0)) ++ (⟨#[47]⟩ : ByteArray)) ++ t191)) else (none)) = some r := H
             have A18 := ak_ A180
             clear A180
             by_cases c19 : (((t189 ++ (⟨#[47]⟩ : ByteArray)) ++ ((rd_T70 l1_2 a2).f0)) ++ (⟨#[47]⟩ : ByteArray)).size + t191.size ≤ 9223372036854775807
             · rw [if_pos c19] at H
               have c19b0 := eq_true c19
               have c19b1 : decide ((((t189 ++ (⟨#[47]⟩ : ByteArray)) ++ ((rd_T70 l1_2 a2).f0)) ++ (⟨#[47]⟩ : ByteArray)).size + t191.size ≤ 9223372036854775807) = true := dt_ c19
               try have c19b2 : (9223372036854775807 < (((t189 ++ (⟨#[47]⟩ : ByteArray)) ++ ((rd_T70 l1_2 a2).f0)) ++ (⟨#[47]⟩ : ByteArray)).size + t191.size) = False := eq_false (Nat.not_lt.2 c19)
               have c19b3 : (9223372036854775807 < t189.size + 1 + (rd_T70 l1_2 a2).f0.size + 1 + t191.size) = False := (by have q := c19; rw [ByteArray.size_append, ByteArray.size_append, ByteArray.size_append] at q; exact eq_false (Nat.not_lt.2 q))
               try have c19b3 := c19b2
               try simp only [ByteArray.size_append] at c19b3
               obtain rfl := Option.some.inj H
               try go_wp2
               have n0_ := ak_ (zd BK188.out)
               have n1_ := ak_ (pe HB.out)
               clear BK188 HB
               have BK188 := n0_
               have HB := n1_
               clear n0_ n1_
               have p190 : 0 ≤ (a2 : Int) := of_decide_eq_true (by assumption)
               have q190 : a2 < (l1_2.length : Int) := of_decide_eq_true (by assumption)
               obtain ⟨ad190, e190, hx190_0, hx190_1, hx190_2, hx190_3, hx190_4, hx190_5, hx190_6, hx190_7, hx190_8, hx190_9, hx190_10, hx190_11⟩ := at_T70 HR1_2.out a2 p190 q190
               have hw190_11 := hx190_11
               have hw190_10 := hx190_10
               have hw190_9 := hx190_9
               have hw190_8 := hx190_8
               have hw190_7 := hx190_7
               have hw190_6 := hx190_6
               have hw190_5 := hx190_5
               have hw190_4 := hx190_4
               have hw190_3 := hx190_3
               have hw190_2 := hx190_2
               have hw190_1 := hx190_1
               have hw190_0 := hx190_0
               cases e190
               replace hx190_0 := (HB.out.cell (bl_ w _ hx190_0)).trans hx190_0
               replace hx190_1 := (HB.out.cell (bl_ w _ hx190_1)).trans hx190_1
               replace hx190_2 := (HB.out.cell (bl_ w _ hx190_2)).trans hx190_2
               replace hx190_3 := (HB.out.cell (bl_ w _ hx190_3)).trans hx190_3
               replace hx190_4 := (HB.out.cell (bl_ w _ hx190_4)).trans hx190_4
               replace hx190_5 := (HB.out.cell (bl_ w _ hx190_5)).trans hx190_5
               replace hx190_6 := (HB.out.cell (bl_ w _ hx190_6)).trans hx190_6
               replace hx190_7 := (HB.out.cell (bl_ w _ hx190_7)).trans hx190_7
               replace hx190_8 := (HB.out.cell (bl_ w _ hx190_8)).trans hx190_8
               replace hx190_9 := (HB.out.cell (bl_ w _ hx190_9)).trans hx190_9
               replace hx190_10 := (HB.out.cell (bl_ w _ hx190_10)).trans hx190_10
               replace hx190_11 := (HB.out.cell (bl_ w _ hx190_11)).trans hx190_11
               replace p190 := eq_true p190
               replace q190 := eq_true q190
               refine start_ (n := 15) (S := fun w' => w'.cell? ⟨gb188, 0, none⟩ = some (.string a1_0) ∧ w'.cell? ⟨gb188, 1, none⟩ = some (.int .i64 a1_1) ∧ w'.cell? ⟨gb188, 2, none⟩ = some (.slice (some ad190) l1_2.length c1_2) ∧ w'.cell? (ad190.add ((a2).toNat * 12)) = some (.string ((rd_T70 l1_2 a2).f0)) ∧ w'.cell? ⟨(ad190.add ((a2).toNat * 12)).block, (ad190.add ((a2).toNat * 12)).off + 1, none⟩ = some (.string ((rd_T70 l1_2 a2).f1)) ∧ w'.cell? ⟨(ad190.add ((a2).toNat * 12)).block, (ad190.add ((a2).toNat * 12)).off + 2, none⟩ = some (.int .i64 ((rd_T70 l1_2 a2).f2)) ∧ w'.cell? ⟨(ad190.add ((a2).toNat * 12)).block, (ad190.add ((a2).toNat * 12)).off + 3, none⟩ = some (.int .i64 ((rd_T70 l1_2 a2).f3.f0)) ∧ w'.cell? ⟨(ad190.add ((a2).toNat * 12)).block, (ad190.add ((a2).toNat * 12)).off + 4, none⟩ = some (.int .i64 ((rd_T70 l1_2 a2).f3.f1)) ∧ w'.cell? ⟨(ad190.add ((a2).toNat * 12)).block, (ad190.add ((a2).toNat * 12)).off + 5, none⟩ = some (.int .i64 ((rd_T70 l1_2 a2).f3.f2)) ∧ w'.cell? ⟨(ad190.add ((a2).toNat * 12)).block, (ad190.add ((a2).toNat * 12)).off + 6, none⟩ = some (.int .i64 ((rd_T70 l1_2 a2).f3.f3)) ∧ w'.cell? ⟨(ad190.add ((a2).toNat * 12)).block, (ad190.add ((a2).toNat * 12)).off + 7, none⟩ = some (.int .i64 ((rd_T70 l1_2 a2).f4.f0)) ∧ w'.cell? ⟨(ad190.add ((a2).toNat * 12)).block, (ad190.add ((a2).toNat * 12)).off + 8, none⟩ = some (.int .i64 ((rd_T70 l1_2 a2).f4.f1)) ∧ w'.cell? ⟨(ad190.add ((a2).toNat * 12)).block, (ad190.add ((a2).toNat * 12)).off + 9, none⟩ = some (.int .i64 ((rd_T70 l1_2 a2).f4.f2)) ∧ w'.cell? ⟨(ad190.add ((a2).toNat * 12)).block, (ad190.add ((a2).toNat * 12)).off + 10, none⟩ = some (.int .i64 ((rd_T70 l1_2 a2).f4.f3)) ∧ w'.cell? ⟨(ad190.add ((a2).toNat * 12)).block, (ad190.add ((a2).toNat * 12)).off + 11, none⟩ = some (.int .i64 ((rd_T70 l1_2 a2).f5))) (ds := []) #[false, false, false, false, false, false, false, false, false, false, false, false, false, false, false] (by kernel_rfl) rfl rfl ⟨(zc BK188.out 0).trans rfl, (zc BK188.out 1).trans rfl, (zc BK188.out 2).trans rfl, ((HB.out.cell (bl_ w _ hw190_0)).trans hw190_0), ((HB.out.cell (bl_ w _ hw190_1)).trans hw190_1), ((HB.out.cell (bl_ w _ hw190_2)).trans hw190_2), ((HB.out.cell (bl_ w _ hw190_3)).trans hw190_3), ((HB.out.cell (bl_ w _ hw190_4)).trans hw190_4), ((HB.out.cell (bl_ w _ hw190_5)).trans hw190_5), ((HB.out.cell (bl_ w _ hw190_6)).trans hw190_6), ((HB.out.cell (bl_ w _ hw190_7)).trans hw190_7), ((HB.out.cell (bl_ w _ hw190_8)).trans hw190_8), ((HB.out.cell (bl_ w _ hw190_9)).trans hw190_9), ((HB.out.cell (bl_ w _ hw190_10)).trans hw190_10), ((HB.out.cell (bl_ w _ hw190_11)).trans hw190_11)⟩ (fun hHeld => ?_); refine with_tabW def_Key.tab3 def_Key.bits3 (fun HT_ HW_ => ?_)
               generalize wc.drew = w20 at BK188 HB hx190_0 hx190_1 hx190_10 hx190_11 hx190_2 hx190_3 hx190_4 hx190_5 hx190_6 hx190_7 hx190_8 hx190_9 hHeld ⊢
               refine pure_ (i := 0) (N := some 22) (v := ?_) (a' := ?_) (b_ 15 1) rfl rfl (any_of HT_.out (by kernel_rfl)) (fun _ _ _ h => h) (Or.inl ⟨by rfl, ?_⟩) ?_ ?_; rotate_left; (· intro w'; go_simp; with_reducible rfl); rotate_left; (· simp only [Act.put, sa_, sz_, ss_, i64_w, i32_w]; rfl)
               refine pure_ (i := 3) (N := some 25) (v := ?_) (a' := ?_) (b_ 15 9) rfl rfl (any_of HT_.out (by kernel_rfl)) (fun _ _ _ h => h) (Or.inl ⟨by rfl, ?_⟩) ?_ ?_; rotate_left; (· intro w'; go_simp; with_reducible rfl); rotate_left; (· simp only [Act.put, sa_, sz_, ss_, i64_w, i32_w]; rfl)
               refine pure_ (i := 5) (N := some 27) (v := ?_) (a' := ?_) (b_ 15 41) rfl rfl (any_of HT_.out (by kernel_rfl)) (fun _ _ _ h => h) (Or.inl ⟨by rfl, ?_⟩) ?_ ?_; rotate_left; (· intro w'; go_simp; with_reducible rfl); rotate_left; (· simp only [Act.put, sa_, sz_, ss_, i64_w, i32_w]; rfl)
               refine pure_ (i := 11) (N := some 33) (v := ?_) (a' := ?_) (b_ 15 2089) rfl rfl (any_of HT_.out (by kernel_rfl)) (fun _ _ _ h => h) (Or.inl ⟨by rfl, ?_⟩) ?_ ?_; rotate_left; (· intro w'; go_simp; with_reducible rfl); rotate_left; (· simp only [Act.put, sa_, sz_, ss_, i64_w, i32_w]; rfl)
               refine take_ (i := 4) (N := some 26) (v := ?_) (a' := ?_) (b_ 15 2105) rfl rfl (take_ofW HT_.out HW_.out (by kernel_rfl)) (fun _ _ _ h => h) (Or.inl ⟨by rfl, ?_⟩) hHeld ?_ ?_
               rotate_left
               · rintro w' ⟨s0, s1, s2, s3, s4, s5, s6, s7, s8, s9, s10, s11, s12, s13, s14⟩
                 go_simp
                 with_reducible rfl
               rotate_left
               · simp only [Act.put, sa_, sz_, ss_, i64_w, i32_w]
                 rfl
               refine pure_ (i := 6) (N := some 28) (v := ?_) (a' := ?_) (b_ 15 2169) rfl rfl (any_of HT_.out (by kernel_rfl)) (fun _ _ _ h => h) (Or.inl ⟨by rfl, ?_⟩) ?_ ?_; rotate_left; (· intro w'; go_simp; with_reducible rfl); rotate_left; (· simp only [Act.put, sa_, sz_, ss_, i64_w, i32_w]; rfl)
               refine pure_ (i := 7) (N := some 29) (v := ?_) (a' := ?_) (b_ 15 2297) rfl rfl (any_of HT_.out (by kernel_rfl)) (fun _ _ _ h => h) (Or.inl ⟨by rfl, ?_⟩) ?_ ?_; rotate_left; (· intro w'; go_simp; with_reducible rfl); rotate_left; (· simp only [Act.put, sa_, sz_, ss_, i64_w, i32_w]; rfl)
               refine take_ (i := 8) (N := some 30) (v := ?_) (a' := ?_) (b_ 15 2553) rfl rfl (take_ofW HT_.out HW_.out (by kernel_rfl)) (fun _ _ _ h => h) (Or.inl ⟨by rfl, ?_⟩) hHeld ?_ ?_
               rotate_left
               · rintro w' ⟨s0, s1, s2, s3, s4, s5, s6, s7, s8, s9, s10, s11, s12, s13, s14⟩
                 go_simp
                 with_reducible rfl
               rotate_left
               · simp only [Act.put, sa_, sz_, ss_, i64_w, i32_w]
                 rfl
               refine one_ (i := 1) (N := some 23) (b_ 15 2555) rfl rfl (one_of HT_.out (by kernel_rfl)) (by decide) (fun K hK => ?_)
               refine goes_ Tryd.func69 (by kernel_rfl) rfl #[.int .i64 a0] (by rfl) rfl rfl (by (try simp only [mt_, mc_, mn_]); first | done | rfl) ?_
               with_reducible refine (strconv_Itoa_69.calls a0 t189 _ (by first | exact HT.out | exact Tabs_.below HT.out (by with_reducible repeat first | exact HB.out | apply pa | apply pd | apply pe)) A12.out).mono ?_
               rintro e w21 ⟨rfl, hb⟩
               refine ⟨_, rfl, ?_⟩
               have n0_ := ak_ (blk_below (g := gb188) (o := .cells #[.string a1_0, .int .i64 a1_1, .slice (some ad190) l1_2.length c1_2] 24 (0, 0)) (by (with_reducible repeat (first | apply zn | apply zd | apply za)); exact BK188.out) hb)
               have n1_ := ak_ (ps (by with_reducible repeat first | exact HB.out | apply pa | apply pd | apply pe | refine zs ?_ GE188.out) hb)
               clear BK188 HB
               have BK188 := n0_
               have HB := n1_
               clear n0_ n1_
               (try clear hb hk hi)
               refine hK.out _ _ ⟨(zc BK188.out 0).trans rfl, (zc BK188.out 1).trans rfl, (zc BK188.out 2).trans rfl, ((HB.out.cell (bl_ w _ hw190_0)).trans hw190_0), ((HB.out.cell (bl_ w _ hw190_1)).trans hw190_1), ((HB.out.cell (bl_ w _ hw190_2)).trans hw190_2), ((HB.out.cell (bl_ w _ hw190_3)).trans hw190_3), ((HB.out.cell (bl_ w _ hw190_4)).trans hw190_4), ((HB.out.cell (bl_ w _ hw190_5)).trans hw190_5), ((HB.out.cell (bl_ w _ hw190_6)).trans hw190_6), ((HB.out.cell (bl_ w _ hw190_7)).trans hw190_7), ((HB.out.cell (bl_ w _ hw190_8)).trans hw190_8), ((HB.out.cell (bl_ w _ hw190_9)).trans hw190_9), ((HB.out.cell (bl_ w _ hw190_10)).trans hw190_10), ((HB.out.cell (bl_ w _ hw190_11)).trans hw190_11)⟩ (fun hHeld => ?_)
               clear hK K
               refine norm_ (a' := ?_) ?_ ?_
               rotate_left
               · show Act.put _ (some 23) _ = _
                 simp only [Act.put, sa_, sz_, ss_, i64_w, i32_w]
                 rfl
               refine pure_ (i := 2) (N := some 24) (v := ?_) (a' := ?_) (b_ 15 2559) rfl rfl (any_of HT_.out (by kernel_rfl)) (fun _ _ _ h => h) (Or.inl ⟨by rfl, ?_⟩) ?_ ?_; rotate_left; (· intro w'; go_simp; with_reducible rfl); rotate_left; (· simp only [Act.put, sa_, sz_, ss_, i64_w, i32_w]; rfl)
               refine pure_ (i := 9) (N := some 31) (v := ?_) (a' := ?_) (b_ 15 3071) rfl rfl (any_of HT_.out (by kernel_rfl)) (fun _ _ _ h => h) (Or.inl ⟨by rfl, ?_⟩) ?_ ?_; rotate_left; (· intro w'; go_simp; with_reducible rfl); rotate_left; (· simp only [Act.put, sa_, sz_, ss_, i64_w, i32_w]; rfl)
               refine pure_ (i := 10) (N := some 32) (v := ?_) (a' := ?_) (b_ 15 4095) rfl rfl (any_of HT_.out (by kernel_rfl)) (fun _ _ _ h => h) (Or.inl ⟨by rfl, ?_⟩) ?_ ?_; rotate_left; (· intro w'; go_simp; with_reducible rfl); rotate_left; (· simp only [Act.put, sa_, sz_, ss_, i64_w, i32_w]; rfl)
               refine one_ (i := 12) (N := some 34) (b_ 15 8191) rfl rfl (one_of HT_.out (by kernel_rfl)) (by decide) (fun K hK => ?_)
               refine goes_ Tryd.func70 (by kernel_rfl) rfl #[.bool a3] (by rfl) rfl rfl (by (try simp only [mt_, mc_, mn_]); first | done | rfl) ?_
               with_reducible refine (def_way.calls a3 t191 _ A18.out).mono ?_
               rintro e w' ⟨rfl, ⟨nd, rfl⟩⟩
               refine ⟨_, rfl, ?_⟩
               refine hK.out _ _ ⟨(zc BK188.out 0).trans rfl, (zc BK188.out 1).trans rfl, (zc BK188.out 2).trans rfl, ((HB.out.cell (bl_ w _ hw190_0)).trans hw190_0), ((HB.out.cell (bl_ w _ hw190_1)).trans hw190_1), ((HB.out.cell (bl_ w _ hw190_2)).trans hw190_2), ((HB.out.cell (bl_ w _ hw190_3)).trans hw190_3), ((HB.out.cell (bl_ w _ hw190_4)).trans hw190_4), ((HB.out.cell (bl_ w _ hw190_5)).trans hw190_5), ((HB.out.cell (bl_ w _ hw190_6)).trans hw190_6), ((HB.out.cell (bl_ w _ hw190_7)).trans hw190_7), ((HB.out.cell (bl_ w _ hw190_8)).trans hw190_8), ((HB.out.cell (bl_ w _ hw190_9)).trans hw190_9), ((HB.out.cell (bl_ w _ hw190_10)).trans hw190_10), ((HB.out.cell (bl_ w _ hw190_11)).trans hw190_11)⟩ (fun hHeld => ?_)
               clear hK K
               refine norm_ (a' := ?_) ?_ ?_
               rotate_left
               · show Act.put _ (some 34) _ = _
                 simp only [Act.put, sa_, sz_, ss_, i64_w, i32_w]
                 rfl
               refine pure_ (i := 13) (N := some 35) (v := ?_) (a' := ?_) (b_ 15 16383) rfl rfl (any_of HT_.out (by kernel_rfl)) (fun _ _ _ h => h) (Or.inl ⟨by rfl, ?_⟩) ?_ ?_; rotate_left; (· intro w'; go_simp; with_reducible rfl); rotate_left; (· simp only [Act.put, sa_, sz_, ss_, i64_w, i32_w]; rfl)
               refine pure_ (i := 14) (N := some 8) (v := ?_) (a' := ?_) (b_ 15 32767) rfl rfl (any_of HT_.out (by kernel_rfl)) (fun _ _ _ h => h) (Or.inl ⟨by rfl, ?_⟩) ?_ ?_; rotate_left; (· intro w'; go_simp; with_reducible rfl); rotate_left; (· simp only [Act.put, sa_, sz_, ss_, i64_w, i32_w]; rfl)
               refine done_ (done_of HT_.out (by kernel_rfl)) ?_
               try go_wp2
               go_ret
               exact ⟨by first | rfl | simp [*], by repeat (first | (with_reducible first | exact HB.out | apply pa | apply pd | apply pe | refine zs ?_ GE188.out) | exact HB.out)⟩
             rw [if_neg c19] at H
             exact absurd H (by simp)
           rw [if_neg c17] at H
           exact absurd H (by simp)
         rw [if_neg c16] at H
         exact absurd H (by simp)
       rw [if_neg c15] at H
       exact absurd H (by simp)
     rw [if_neg c14] at H
     exact absurd H (by simp)
   rw [if_neg c13] at H
   exact absurd H (by simp)
section
variable {P : Program} {ops : Array Oper} {rest : List Oper} {o : Oper} {a : Act} {w : World} {Q : Exit → Act → World → Prop}
theorem wp_store_whole {K : Act → World → Prop} (ty : TypeId) (x y : Operand) (ho : o.op = .store ty x y) (g : Nat) (cells : Array Value) (hx : a.eval x = .pointer (some ⟨g, 0, none⟩)) (hy : a.eval y = .agg cells)
 (t : TypeId) (old : Array Value) (hg : w.heap[g]? = some (.cells old t (0, 0))) (hi : (P.info? ty).map (·.size) = some cells.size) (hold : old.size = cells.size) (h1 : cells.all (·.oneCell') = true)
 (base : Nat) (w0 : World) (HB : Below base w0 w) (hb : base ≤ g) (h : ∀ w', Below base w0 w' → w'.heap[g]? = some (.cells cells t (0, 0)) → (∀ k, k ≠ g → w'.heap[k]? = w.heap[k]?) → K (a.put o.dst undef) w') : o.wp P a w K Q :=
 wp_store_row ty x y ho g cells hx hy t old hg hi hold h1 (h _ (below_setRow HB hb cells) (setRow_heap w g old cells t (0, 0) hg) (fun k hk => setRow_other w g k cells hk))
theorem wpList_store_whole (hgd : o.guard = none) (ty : TypeId) (x y : Operand) (ho : o.op = .store ty x y) (g : Nat) (cells : Array Value) (hx : a.eval x = .pointer (some ⟨g, 0, none⟩)) (hy : a.eval y = .agg cells)
 (t : TypeId) (old : Array Value) (hg : w.heap[g]? = some (.cells old t (0, 0))) (hi : (P.info? ty).map (·.size) = some cells.size) (hold : old.size = cells.size) (h1 : cells.all (·.oneCell') = true)
 (base : Nat) (w0 : World) (HB : Below base w0 w) (hb : base ≤ g) (h : ∀ w', Below base w0 w' → w'.heap[g]? = some (.cells cells t (0, 0)) → (∀ k, k ≠ g → w'.heap[k]? = w.heap[k]?) → wpList P ops Q rest (a.put o.dst undef) w') : wpList P ops Q (o :: rest) a w :=
 wpList_plain hgd fun _ hK => wp_store_whole ty x y ho g cells hx hy t old hg hi hold h1 base w0 HB hb (fun w' h1 h2 h3 => hK _ _ (h w' h1 h2 h3))
end
open Go.RowKit Go.Shelf Go.Proofs.YtmfddmhomkcikaaDoorW.PrintWords Go.Proofs.YtmfddmhomkcikaaDoorW.PrintLast Go.Proofs.YtmfddmhomkcikaaDoorW.PrintMore
theorem results_cct {P : Program} {fn : Func} {p q u : Tmp} {ty ty2 : TypeId} (h : fn.results = #[.cell p ty, .cell q ty2, .tmp u]) (tmps : Array Value) (w : World) (g g2 : Nat) (cs cs2 : Array Value) (d d2 : TypeDesc)
 (hp : tmps.getD p undef = .pointer (some ⟨g, 0, none⟩)) (hg : w.heap[g]? = some (.cells cs ty (0, 0))) (hu : P.underlying ty = some d) (hd : (match d with | .struct _ | .array _ _ => true | _ => false) = true) (hi : (P.info? ty).map (·.size) = some cs.size)
 (hq : tmps.getD q undef = .pointer (some ⟨g2, 0, none⟩)) (hg2 : w.heap[g2]? = some (.cells cs2 ty2 (0, 0))) (hu2 : P.underlying ty2 = some d2) (hd2 : (match d2 with | .struct _ | .array _ _ => true | _ => false) = true) (hi2 : (P.info? ty2).map (·.size) = some cs2.size) :
 (results fn tmps).run P w = .ok (.tuple #[.agg cs, .agg cs2, tmps.getD u undef]) w := by
 have hp' : tmps[p]?.getD undef = .pointer (some ⟨g, 0, none⟩) := by simpa using hp
 have hq' : tmps[q]?.getD undef = .pointer (some ⟨g2, 0, none⟩) := by simpa using hq
 simp [results, h, hp', hq', asAddr, run_loadVar_row w g ty ty cs (0, 0) d hg hu hd hi, run_loadVar_row w g2 ty2 ty2 cs2 (0, 0) d2 hg2 hu2 hd2 hi2]
def saga_Emit.f (k : Nat) (n : ByteArray) (dl : Int) (l : List S70) (id : Int) (df : ByteArray) (st ph sp tr : Int) (out : Bool) (at_ sk now : Int) : Option (Int × ByteArray × Int × Int × Int × Int × Bool × Int × Int × Int × Int × Bool × Int × ByteArray × ByteArray × Int) :=
 (saga_check.f k n dl l id df st ph sp tr out at_ sk now).bind fun e =>
  if e = 0 then (saga_may.f n dl l id df st ph sp tr out at_ sk now).bind fun y =>
   if y = true then (if 0 ≤ sp ∧ sp < (l.length : Int) then (tick_Add.f now (rd_T70 l sp).f2).bind fun t => (def_Key.f k id n dl l sp (ph == 1)).bind fun key =>
    some (id, df, st, ph, sp, wrap64 (tr + 1), true, t, sk, id, sp, (ph == 1), wrap64 (tr + 1), (rd_T70 l sp).f1, key, 0) else none)
   else some (id, df, st, ph, sp, tr, out, at_, sk, 0, 0, false, 0, (⟨#[]⟩ : ByteArray), (⟨#[]⟩ : ByteArray), 9)
  else some (id, df, st, ph, sp, tr, out, at_, sk, 0, 0, false, 0, (⟨#[]⟩ : ByteArray), (⟨#[]⟩ : ByteArray), e)
theorem saga_Emit.calls (k : Nat) (n : ByteArray) (dl : Int) (A : Option Addr) (c : Nat) (l : List S70) (id : Int) (df : ByteArray) (st ph sp tr : Int) (out : Bool) (at_ sk now : Int) (r1 : Int) (r2 : ByteArray) (r3 r4 r5 r6 : Int) (r7 : Bool) (r8 r9 r10 r11 : Int) (r12 : Bool) (r13 : Int) (r14 r15 : ByteArray) (r16 : Int) (w : World) (hr : Kd.C k70 w A l.length l) (hc : l.length ≤ c) (hTab_ : Tabs_ w)
 (h : saga_Emit.f k n dl l id df st ph sp tr out at_ sk now = some (r1, r2, r3, r4, r5, r6, r7, r8, r9, r10, r11, r12, r13, r14, r15, r16)) :
 Calls Tryd.prog 12 #[.agg #[.string n, .int .i64 dl, .slice A l.length c], .agg #[.int .i64 id, .string df, .int .i64 st, .int .i64 ph, .int .i64 sp, .int .i64 tr, .bool out, .int .i64 at_, .int .i64 sk], .int .i64 now] w fun e w' => e = .returned (.tuple #[.agg #[.int .i64 r1, .string r2, .int .i64 r3, .int .i64 r4, .int .i64 r5, .int .i64 r6, .bool r7, .int .i64 r8, .int .i64 r9], .agg #[.int .i64 r10, .int .i64 r11, .bool r12, .int .i64 r13, .string r14, .string r15], .int .i64 r16]) ∧ Below w.heap.size w w' := by
 unfold saga_Emit.f at h
 obtain ⟨e, hA1, h⟩ := ob_ h
 have A1 := ak_ hA1
 have HR := ak_ hr
 have HC := ak_ hc
 have HT := ak_ hTab_
 have HB := ak_ (Below.refl w.heap.size w)
 have HH := ak_ h
 clear hA1 hr hc hTab_ h
 by_cases he : e = 0
 · subst he
   have H1 := HH.out
   rw [if_pos rfl] at H1
   obtain ⟨y, hA2, H1⟩ := ob_ H1
   have A2 := ak_ hA2
   have H2 := ak_ H1
   clear hA2 H1
   cases y
   · have H3 := H2.out
     rw [if_neg (by decide)] at H3
     simp only [Option.some.injEq, Prod.mk.injEq] at H3
     obtain ⟨rfl, rfl, rfl, rfl, rfl, rfl, rfl, rfl, rfl, rfl, rfl, rfl, rfl, rfl, rfl, rfl⟩ := H3
     go_enter Tryd.func12, Tryd.ntmps12
     go_wp2_with (first | ((with_reducible refine gate_dst (N := 3) rfl ?_); refine box_event ?hg (N := 3) ?hd (cs := #[.string n, .int .i64 dl, .slice A l.length c]) (t := 24) ?hr ?_; (case hd | hg => rfl); (case hr => first | (go_simp; done) | (go_simp; rfl)); intro g3 hg w1 hbox hb; have BD := ak_ hbox; have nHB_ := ak_ (below_step HB.out hb); clear HB; have HB := nHB_; clear nHB_ hb hbox hg) | ((with_reducible refine gate_dst (N := 4) rfl ?_); refine box_event ?hg (N := 4) ?hd (cs := #[.int .i64 id, .string df, .int .i64 st, .int .i64 ph, .int .i64 sp, .int .i64 tr, .bool out, .int .i64 at_, .int .i64 sk]) (t := 31) ?hr ?_; (case hd | hg => rfl); (case hr => first | (go_simp; done) | (go_simp; rfl)); intro g4 hg w2 hbox hb; have N43 := ak_ (show g3 ≠ g4 from by rw [hg]; exact Nat.ne_of_lt (blk_lt BD.out)); have G4 := ak_ (show w.heap.size ≤ g4 from by rw [hg]; exact HB.out.size); have BS := ak_ hbox; have nHB_ := ak_ (below_step HB.out hb); have nBD_ := ak_ (blk_below BD.out hb); clear HB BD; have HB := nHB_; have BD := nBD_; clear nHB_ nBD_ hb hbox hg) | ((with_reducible refine gate_dst (N := 6) rfl ?_); refine box_event ?hg (N := 6) ?hd (cs := #[.int .i64 0, .string (⟨#[]⟩ : ByteArray), .int .i64 0, .int .i64 0, .int .i64 0, .int .i64 0, .bool false, .int .i64 0, .int .i64 0]) (t := 31) ?hr ?_; (case hd | hg => rfl); (case hr => first | (go_simp; done) | (go_simp; rfl)); intro g6 hg w3 hbox hb; have N64 := ak_ (show g4 ≠ g6 from by rw [hg]; exact Nat.ne_of_lt (blk_lt BS.out)); have N63 := ak_ (show g3 ≠ g6 from by rw [hg]; exact Nat.ne_of_lt (blk_lt BD.out)); have G6 := ak_ (show w.heap.size ≤ g6 from by rw [hg]; exact HB.out.size); have BZ := ak_ hbox; have nHB_ := ak_ (below_step HB.out hb); have nBD_ := ak_ (blk_below BD.out hb); have nBS_ := ak_ (blk_below BS.out hb); clear HB BD BS; have HB := nHB_; have BD := nBD_; have BS := nBS_; clear nHB_ nBD_ nBS_ hb hbox hg) | ((with_reducible refine gate_dst (N := 7) rfl ?_); refine box_event ?hg (N := 7) ?hd (cs := #[.int .i64 0, .int .i64 0, .bool false, .int .i64 0, .string (⟨#[]⟩ : ByteArray), .string (⟨#[]⟩ : ByteArray)]) (t := 34) ?hr ?_; (case hd | hg => rfl); (case hr => first | (go_simp; done) | (go_simp; rfl)); intro g7 hg w4 hbox hb; have N76 := ak_ (show g6 ≠ g7 from by rw [hg]; exact Nat.ne_of_lt (blk_lt BZ.out)); have N74 := ak_ (show g4 ≠ g7 from by rw [hg]; exact Nat.ne_of_lt (blk_lt BS.out)); have N73 := ak_ (show g3 ≠ g7 from by rw [hg]; exact Nat.ne_of_lt (blk_lt BD.out)); have G7 := ak_ (show w.heap.size ≤ g7 from by rw [hg]; exact HB.out.size); have BC := ak_ hbox; have nHB_ := ak_ (below_step HB.out hb); have nBD_ := ak_ (blk_below BD.out hb); have nBS_ := ak_ (blk_below BS.out hb); have nBZ_ := ak_ (blk_below BZ.out hb); clear HB BD BS BZ; have HB := nHB_; have BD := nBD_; have BS := nBS_; have BZ := nBZ_; clear nHB_ nBD_ nBS_ nBZ_ hb hbox hg) | (refine wpList_load_row rfl 24 (.tmp 3) rfl g3 rfl 24 _ (0, 0) _ BD.out Tryd.underlying24 rfl (by kernel_rfl) ?_) | (refine wpList_load_row rfl 31 (.tmp 4) rfl g4 rfl 31 _ (0, 0) _ BS.out Tryd.underlying31 rfl (by kernel_rfl) ?_) | (go_at_call 34; refine (saga_check.calls k n dl A c l id df st ph sp tr out at_ sk now _ w4 (Kd.C_below HR.out HB.out) HC.out (Tabs_.below HT.out HB.out) A1.out).mono ?_; rintro e w5 ⟨rfl, hb⟩; have nHB_ := ak_ (below_step HB.out hb); have nBD_ := ak_ (blk_below BD.out hb); have nBS_ := ak_ (blk_below BS.out hb); have nBZ_ := ak_ (blk_below BZ.out hb); have nBC_ := ak_ (blk_below BC.out hb); clear HB BD BS BZ BC; have HB := nHB_; have BD := nBD_; have BS := nBS_; have BZ := nBZ_; have BC := nBC_; clear nHB_ nBD_ nBS_ nBZ_ nBC_ hb; have d0 := (zc BD.out 0).trans rfl; have d1 := (zc BD.out 1).trans rfl; have d2 := (zc BD.out 2).trans rfl; have s0 := (zc BS.out 0).trans rfl; have s1 := (zc BS.out 1).trans rfl; have s2 := (zc BS.out 2).trans rfl; have s3 := (zc BS.out 3).trans rfl; have s4 := (zc BS.out 4).trans rfl; have s5 := (zc BS.out 5).trans rfl; have s6 := (zc BS.out 6).trans rfl; have s7 := (zc BS.out 7).trans rfl; have s8 := (zc BS.out 8).trans rfl) | (go_at_call 35; refine (saga_may.calls n dl A c l id df st ph sp tr out at_ sk now _ w5 (Kd.C_below HR.out HB.out) HC.out A2.out).mono ?_; rintro e w6 ⟨rfl, hb⟩; have nHB_ := ak_ (below_step HB.out hb); have nBD_ := ak_ (blk_below BD.out hb); have nBS_ := ak_ (blk_below BS.out hb); have nBZ_ := ak_ (blk_below BZ.out hb); have nBC_ := ak_ (blk_below BC.out hb); clear HB BD BS BZ BC; have HB := nHB_; have BD := nBD_; have BS := nBS_; have BZ := nBZ_; have BC := nBC_; clear nHB_ nBD_ nBS_ nBZ_ nBC_ hb d0 d1 d2 s0 s1 s2 s3 s4 s5 s6 s7 s8) | (refine wpList_store_whole rfl 31 (.tmp 6) (.tmp 26) rfl g6 #[.int .i64 id, .string df, .int .i64 st, .int .i64 ph, .int .i64 sp, .int .i64 tr, .bool out, .int .i64 at_, .int .i64 sk] rfl rfl 31 _ BZ.out (by kernel_rfl) rfl (by simp [Value.oneCell']) w.heap.size w HB.out G6.out ?_; intro w8 hB hZ hO; have nBC_ := ak_ ((hO g7 N76.out.symm).trans BC.out); have nBZ_ := ak_ hZ; have nHB_ := ak_ hB; clear hB hZ hO HB BZ BC; have BC := nBC_; have BZ := nBZ_; have HB := nHB_; clear nBC_ nBZ_ nHB_) | (refine wpList_store_whole rfl 34 (.tmp 7) (.tmp 27) rfl g7 #[.int .i64 0, .int .i64 0, .bool false, .int .i64 0, .string (⟨#[]⟩ : ByteArray), .string (⟨#[]⟩ : ByteArray)] rfl rfl 34 _ BC.out (by kernel_rfl) rfl (by simp [Value.oneCell']) w.heap.size w HB.out G7.out ?_; intro w8 hB hZ hO; have nBZ_ := ak_ ((hO g6 N76.out).trans BZ.out); have nBC_ := ak_ hZ; have nHB_ := ak_ hB; clear hB hZ hO HB BC BZ; have BZ := nBZ_; have BC := nBC_; have HB := nHB_; clear nBZ_ nBC_ nHB_))
     refine bodyPost_ret (results_cct rfl _ _ g6 g7 #[.int .i64 id, .string df, .int .i64 st, .int .i64 ph, .int .i64 sp, .int .i64 tr, .bool out, .int .i64 at_, .int .i64 sk] #[.int .i64 0, .int .i64 0, .bool false, .int .i64 0, .string (⟨#[]⟩ : ByteArray), .string (⟨#[]⟩ : ByteArray)] _ _ rfl BZ.out Tryd.underlying31 rfl (by kernel_rfl) rfl BC.out Tryd.underlying34 rfl (by kernel_rfl)) rfl ?_
     exact ⟨rfl, HB.out⟩
   · have H3 := H2.out
     rw [if_pos rfl] at H3
     by_cases hs : 0 ≤ sp ∧ sp < (l.length : Int)
     · rw [if_pos hs] at H3
       obtain ⟨t, hA3, H3⟩ := ob_ H3
       obtain ⟨key, hA4, H3⟩ := ob_ H3
       obtain ⟨ad, ea, _⟩ := at_T70 HR.out sp hs.1 hs.2
       have A3 := ak_ hA3
       have A4 := ak_ hA4
       obtain ⟨hs1, hs2⟩ := hs
       have HS := ak_ (And.intro hs1 hs2)
       simp only [Option.some.injEq, Prod.mk.injEq] at H3
       obtain ⟨rfl, rfl, rfl, rfl, rfl, rfl, rfl, rfl, rfl, rfl, rfl, rfl, rfl, rfl, rfl, rfl⟩ := H3
       subst ea
       clear hA3 hA4
       go_enter Tryd.func12, Tryd.ntmps12
       go_upto_region 7 with (first | ((with_reducible refine gate_dst (N := 3) rfl ?_); refine box_event ?hg (N := 3) ?hd (cs := #[.string n, .int .i64 dl, .slice (some ad) l.length c]) (t := 24) ?hr ?_; (case hd | hg => rfl); (case hr => first | (go_simp; done) | (go_simp; rfl)); intro g3 hg w1 hbox hb; have BD := ak_ hbox; have nHB_ := ak_ (below_step HB.out hb); clear HB; have HB := nHB_; clear nHB_ hb hbox hg) | ((with_reducible refine gate_dst (N := 4) rfl ?_); refine box_event ?hg (N := 4) ?hd (cs := #[.int .i64 id, .string df, .int .i64 st, .int .i64 ph, .int .i64 sp, .int .i64 tr, .bool out, .int .i64 at_, .int .i64 sk]) (t := 31) ?hr ?_; (case hd | hg => rfl); (case hr => first | (go_simp; done) | (go_simp; rfl)); intro g4 hg w2 hbox hb; have N43 := ak_ (show g3 ≠ g4 from by rw [hg]; exact Nat.ne_of_lt (blk_lt BD.out)); have G4 := ak_ (show w.heap.size ≤ g4 from by rw [hg]; exact HB.out.size); have BS := ak_ hbox; have nHB_ := ak_ (below_step HB.out hb); have nBD_ := ak_ (blk_below BD.out hb); clear HB BD; have HB := nHB_; have BD := nBD_; clear nHB_ nBD_ hb hbox hg) | ((with_reducible refine gate_dst (N := 6) rfl ?_); refine box_event ?hg (N := 6) ?hd (cs := #[.int .i64 0, .string (⟨#[]⟩ : ByteArray), .int .i64 0, .int .i64 0, .int .i64 0, .int .i64 0, .bool false, .int .i64 0, .int .i64 0]) (t := 31) ?hr ?_; (case hd | hg => rfl); (case hr => first | (go_simp; done) | (go_simp; rfl)); intro g6 hg w3 hbox hb; have N64 := ak_ (show g4 ≠ g6 from by rw [hg]; exact Nat.ne_of_lt (blk_lt BS.out)); have N63 := ak_ (show g3 ≠ g6 from by rw [hg]; exact Nat.ne_of_lt (blk_lt BD.out)); have G6 := ak_ (show w.heap.size ≤ g6 from by rw [hg]; exact HB.out.size); have BZ := ak_ hbox; have nHB_ := ak_ (below_step HB.out hb); have nBD_ := ak_ (blk_below BD.out hb); have nBS_ := ak_ (blk_below BS.out hb); clear HB BD BS; have HB := nHB_; have BD := nBD_; have BS := nBS_; clear nHB_ nBD_ nBS_ hb hbox hg) | ((with_reducible refine gate_dst (N := 7) rfl ?_); refine box_event ?hg (N := 7) ?hd (cs := #[.int .i64 0, .int .i64 0, .bool false, .int .i64 0, .string (⟨#[]⟩ : ByteArray), .string (⟨#[]⟩ : ByteArray)]) (t := 34) ?hr ?_; (case hd | hg => rfl); (case hr => first | (go_simp; done) | (go_simp; rfl)); intro g7 hg w4 hbox hb; have N76 := ak_ (show g6 ≠ g7 from by rw [hg]; exact Nat.ne_of_lt (blk_lt BZ.out)); have N74 := ak_ (show g4 ≠ g7 from by rw [hg]; exact Nat.ne_of_lt (blk_lt BS.out)); have N73 := ak_ (show g3 ≠ g7 from by rw [hg]; exact Nat.ne_of_lt (blk_lt BD.out)); have G7 := ak_ (show w.heap.size ≤ g7 from by rw [hg]; exact HB.out.size); have BC := ak_ hbox; have nHB_ := ak_ (below_step HB.out hb); have nBD_ := ak_ (blk_below BD.out hb); have nBS_ := ak_ (blk_below BS.out hb); have nBZ_ := ak_ (blk_below BZ.out hb); clear HB BD BS BZ; have HB := nHB_; have BD := nBD_; have BS := nBS_; have BZ := nBZ_; clear nHB_ nBD_ nBS_ nBZ_ hb hbox hg) | (refine wpList_load_row rfl 24 (.tmp 3) rfl g3 rfl 24 _ (0, 0) _ BD.out Tryd.underlying24 rfl (by kernel_rfl) ?_) | (refine wpList_load_row rfl 31 (.tmp 4) rfl g4 rfl 31 _ (0, 0) _ BS.out Tryd.underlying31 rfl (by kernel_rfl) ?_) | (go_at_call 34; refine (saga_check.calls k n dl (some ad) c l id df st ph sp tr out at_ sk now _ w4 (Kd.C_below HR.out HB.out) HC.out (Tabs_.below HT.out HB.out) A1.out).mono ?_; rintro e w5 ⟨rfl, hb⟩; have nHB_ := ak_ (below_step HB.out hb); have nBD_ := ak_ (blk_below BD.out hb); have nBS_ := ak_ (blk_below BS.out hb); have nBZ_ := ak_ (blk_below BZ.out hb); have nBC_ := ak_ (blk_below BC.out hb); clear HB BD BS BZ BC; have HB := nHB_; have BD := nBD_; have BS := nBS_; have BZ := nBZ_; have BC := nBC_; clear nHB_ nBD_ nBS_ nBZ_ nBC_ hb; have d0 := (zc BD.out 0).trans rfl; have d1 := (zc BD.out 1).trans rfl; have d2 := (zc BD.out 2).trans rfl; have s0 := (zc BS.out 0).trans rfl; have s1 := (zc BS.out 1).trans rfl; have s2 := (zc BS.out 2).trans rfl; have s3 := (zc BS.out 3).trans rfl; have s4 := (zc BS.out 4).trans rfl; have s5 := (zc BS.out 5).trans rfl; have s6 := (zc BS.out 6).trans rfl; have s7 := (zc BS.out 7).trans rfl; have s8 := (zc BS.out 8).trans rfl) | (go_at_call 35; refine (saga_may.calls n dl (some ad) c l id df st ph sp tr out at_ sk now _ w5 (Kd.C_below HR.out HB.out) HC.out A2.out).mono ?_; rintro e w6 ⟨rfl, hb⟩; have nHB_ := ak_ (below_step HB.out hb); have nBD_ := ak_ (blk_below BD.out hb); have nBS_ := ak_ (blk_below BS.out hb); have nBZ_ := ak_ (blk_below BZ.out hb); have nBC_ := ak_ (blk_below BC.out hb); clear HB BD BS BZ BC; have HB := nHB_; have BD := nBD_; have BS := nBS_; have BZ := nBZ_; have BC := nBC_; clear nHB_ nBD_ nBS_ nBZ_ nBC_ hb d0 d1 d2 s0 s1 s2 s3 s4 s5 s6 s7 s8; have s3 := (zc BS.out 3).trans rfl))
       clear s3
       have s5 := (zc BS.out 5).trans rfl
       have f5 := zf BS.out 5
       go_upto_region 8 with (fail)
       clear s5 f5
       have nBS_ := ak_ (blk_put (cs' := #[.int .i64 id, .string df, .int .i64 st, .int .i64 ph, .int .i64 sp, .int .i64 (wrap64 (tr + 1)), .bool out, .int .i64 at_, .int .i64 sk]) BS.out 5 (.int .i64 (wrap64 (tr + 1))) rfl)
       have nBD_ := ak_ (blk_far BD.out (p := ⟨g4, 5, none⟩) N43.out (.int .i64 (wrap64 (tr + 1))))
       have nBZ_ := ak_ (blk_far BZ.out (p := ⟨g4, 5, none⟩) N64.out.symm (.int .i64 (wrap64 (tr + 1))))
       have nBC_ := ak_ (blk_far BC.out (p := ⟨g4, 5, none⟩) N74.out.symm (.int .i64 (wrap64 (tr + 1))))
       have nHB_ := ak_ (below_set (g := g4) (j := 5) (v := .int .i64 (wrap64 (tr + 1))) HB.out G4.out)
       clear BS BD BZ BC HB
       generalize (w6.setCell ⟨g4, 5, none⟩ (.int .i64 (wrap64 (tr + 1)))) = w7 at *
       have HB := nHB_
       have BD := nBD_
       have BS := nBS_
       have BZ := nBZ_
       have BC := nBC_
       clear nHB_ nBD_ nBS_ nBZ_ nBC_
       obtain ⟨ad2, ea, _, _, u2, _⟩ := at_T70 (Kd.C_below HR.out HB.out) sp hs1 hs2
       obtain rfl : ad = ad2 := by injection ea
       clear ea
       have d2 := (zc BD.out 2).trans rfl
       have s4 := (zc BS.out 4).trans rfl
       go_upto_region 9 with (go_at_call 36; refine (tick_Add.calls now _ t w7 A3.out).mono ?_; rintro e w8 ⟨rfl, hb⟩; have nHB_ := ak_ (below_step HB.out hb); have nBD_ := ak_ (blk_below BD.out hb); have nBS_ := ak_ (blk_below BS.out hb); have nBZ_ := ak_ (blk_below BZ.out hb); have nBC_ := ak_ (blk_below BC.out hb); clear HB BD BS BZ BC; have HB := nHB_; have BD := nBD_; have BS := nBS_; have BZ := nBZ_; have BC := nBC_; clear nHB_ nBD_ nBS_ nBZ_ nBC_ hb d2 s4 u2; have s6 := (zc BS.out 6).trans rfl; have s7 := (zc BS.out 7).trans rfl; have f6 := zf BS.out 6; have f7 := zf BS.out 7)
       clear s6 s7 f6 f7
       have nBS_ := ak_ (blk_put (cs' := #[.int .i64 id, .string df, .int .i64 st, .int .i64 ph, .int .i64 sp, .int .i64 (wrap64 (tr + 1)), .bool true, .int .i64 t, .int .i64 sk]) (blk_put (cs' := #[.int .i64 id, .string df, .int .i64 st, .int .i64 ph, .int .i64 sp, .int .i64 (wrap64 (tr + 1)), .bool true, .int .i64 at_, .int .i64 sk]) BS.out 6 (.bool true) rfl) 7 (.int .i64 t) rfl)
       have nBD_ := ak_ (blk_far (blk_far BD.out (p := ⟨g4, 6, none⟩) N43.out (.bool true)) (p := ⟨g4, 7, none⟩) N43.out (.int .i64 t))
       have nBZ_ := ak_ (blk_far (blk_far BZ.out (p := ⟨g4, 6, none⟩) N64.out.symm (.bool true)) (p := ⟨g4, 7, none⟩) N64.out.symm (.int .i64 t))
       have nBC_ := ak_ (blk_far (blk_far BC.out (p := ⟨g4, 6, none⟩) N74.out.symm (.bool true)) (p := ⟨g4, 7, none⟩) N74.out.symm (.int .i64 t))
       have nHB_ := ak_ (below_set (g := g4) (j := 7) (v := .int .i64 t) (below_set (g := g4) (j := 6) (v := .bool true) HB.out G4.out) G4.out)
       clear BS BD BZ BC HB
       generalize ((w8.setCell ⟨g4, 6, none⟩ (.bool true)).setCell ⟨g4, 7, none⟩ (.int .i64 t)) = w9 at *
       have HB := nHB_
       have BD := nBD_
       have BS := nBS_
       have BZ := nBZ_
       have BC := nBC_
       clear nHB_ nBD_ nBS_ nBZ_ nBC_
       obtain ⟨ad2, ea, _, u1, _⟩ := at_T70 (Kd.C_below HR.out HB.out) sp hs1 hs2
       obtain rfl : ad = ad2 := by injection ea
       clear ea
       have d0 := (zc BD.out 0).trans rfl
       have d1 := (zc BD.out 1).trans rfl
       have d2 := (zc BD.out 2).trans rfl
       have s0 := (zc BS.out 0).trans rfl
       have s1 := (zc BS.out 1).trans rfl
       have s2 := (zc BS.out 2).trans rfl
       have s3 := (zc BS.out 3).trans rfl
       have s4 := (zc BS.out 4).trans rfl
       have s5 := (zc BS.out 5).trans rfl
       have s6 := (zc BS.out 6).trans rfl
       have s7 := (zc BS.out 7).trans rfl
       have s8 := (zc BS.out 8).trans rfl
       have U1 := ak_ u1
       refine start_ (n := 26) (S := fun w' => w'.cell? ⟨g3, 0, none⟩ = some (.string n) ∧ w'.cell? ⟨g3, 1, none⟩ = some (.int .i64 dl) ∧ w'.cell? ⟨g3, 2, none⟩ = some (.slice (some ad) l.length c) ∧ w'.cell? ⟨g4, 0, none⟩ = some (.int .i64 id) ∧ w'.cell? ⟨g4, 1, none⟩ = some (.string df) ∧ w'.cell? ⟨g4, 2, none⟩ = some (.int .i64 st) ∧ w'.cell? ⟨g4, 3, none⟩ = some (.int .i64 ph) ∧ w'.cell? ⟨g4, 4, none⟩ = some (.int .i64 sp) ∧ w'.cell? ⟨g4, 5, none⟩ = some (.int .i64 (wrap64 (tr + 1))) ∧ w'.cell? ⟨g4, 6, none⟩ = some (.bool true) ∧ w'.cell? ⟨g4, 7, none⟩ = some (.int .i64 t) ∧ w'.cell? ⟨g4, 8, none⟩ = some (.int .i64 sk) ∧ w'.cell? ⟨(ad.add (sp.toNat * 12)).block, (ad.add (sp.toNat * 12)).off + 1, none⟩ = some (.string (rd_T70 l sp).f1)) (ds := []) #[false, false, false, false, false, false, false, false, false, false, false, false, false, false, false, false, false, false, false, false, false, false, false, false, false, false] (by kernel_rfl) rfl rfl ⟨d0, d1, d2, s0, s1, s2, s3, s4, s5, s6, s7, s8, u1⟩ (fun hHeld => ?_)
       refine pure_ (i := 1) (N := some 48) (v := ?_) (a' := ?_) #[false, true, false, false, false, false, false, false, false, false, false, false, false, false, false, false, false, false, false, false, false, false, false, false, false, false] rfl rfl (by kernel_rfl) (fun _ _ _ h => h) (Or.inl ⟨by rfl, ?_⟩) ?_ ?_
       rotate_left
       · intro w'
         go_simp
         with_reducible rfl
       rotate_left
       · simp only [Act.put, sa_, sz_, ss_, i64_w, i32_w]
         rfl
       refine pure_ (i := 3) (N := some 50) (v := ?_) (a' := ?_) #[false, true, false, true, false, false, false, false, false, false, false, false, false, false, false, false, false, false, false, false, false, false, false, false, false, false] rfl rfl (by kernel_rfl) (fun _ _ _ h => h) (Or.inl ⟨by rfl, ?_⟩) ?_ ?_
       rotate_left
       · intro w'
         go_simp
         with_reducible rfl
       rotate_left
       · simp only [Act.put, sa_, sz_, ss_, i64_w, i32_w]
         rfl
       refine pure_ (i := 5) (N := some 52) (v := ?_) (a' := ?_) #[false, true, false, true, false, true, false, false, false, false, false, false, false, false, false, false, false, false, false, false, false, false, false, false, false, false] rfl rfl (by kernel_rfl) (fun _ _ _ h => h) (Or.inl ⟨by rfl, ?_⟩) ?_ ?_
       rotate_left
       · intro w'
         go_simp
         with_reducible rfl
       rotate_left
       · simp only [Act.put, sa_, sz_, ss_, i64_w, i32_w]
         rfl
       refine pure_ (i := 6) (N := some 53) (v := ?_) (a' := ?_) #[false, true, false, true, false, true, true, false, false, false, false, false, false, false, false, false, false, false, false, false, false, false, false, false, false, false] rfl rfl (by kernel_rfl) (fun _ _ _ h => h) (Or.inl ⟨by rfl, ?_⟩) ?_ ?_
       rotate_left
       · intro w'
         go_simp
         with_reducible rfl
       rotate_left
       · simp only [Act.put, sa_, sz_, ss_, i64_w, i32_w]
         rfl
       refine pure_ (i := 8) (N := some 55) (v := ?_) (a' := ?_) #[false, true, false, true, false, true, true, false, true, false, false, false, false, false, false, false, false, false, false, false, false, false, false, false, false, false] rfl rfl (by kernel_rfl) (fun _ _ _ h => h) (Or.inl ⟨by rfl, ?_⟩) ?_ ?_
       rotate_left
       · intro w'
         go_simp
         with_reducible rfl
       rotate_left
       · simp only [Act.put, sa_, sz_, ss_, i64_w, i32_w]
         rfl
       refine pure_ (i := 10) (N := some 57) (v := ?_) (a' := ?_) #[false, true, false, true, false, true, true, false, true, false, true, false, false, false, false, false, false, false, false, false, false, false, false, false, false, false] rfl rfl (by kernel_rfl) (fun _ _ _ h => h) (Or.inl ⟨by rfl, ?_⟩) ?_ ?_
       rotate_left
       · intro w'
         go_simp
         with_reducible rfl
       rotate_left
       · simp only [Act.put, sa_, sz_, ss_, i64_w, i32_w]
         rfl
       refine pure_ (i := 15) (N := some 62) (v := ?_) (a' := ?_) #[false, true, false, true, false, true, true, false, true, false, true, false, false, false, false, true, false, false, false, false, false, false, false, false, false, false] rfl rfl (by kernel_rfl) (fun _ _ _ h => h) (Or.inl ⟨by rfl, ?_⟩) ?_ ?_
       rotate_left
       · intro w'
         go_simp
         with_reducible rfl
       rotate_left
       · simp only [Act.put, sa_, sz_, ss_, i64_w, i32_w]
         rfl
       refine pure_ (i := 18) (N := some 65) (v := ?_) (a' := ?_) #[false, true, false, true, false, true, true, false, true, false, true, false, false, false, false, true, false, false, true, false, false, false, false, false, false, false] rfl rfl (by kernel_rfl) (fun _ _ _ h => h) (Or.inl ⟨by rfl, ?_⟩) ?_ ?_
       rotate_left
       · intro w'
         go_simp
         with_reducible rfl
       rotate_left
       · simp only [Act.put, sa_, sz_, ss_, i64_w, i32_w]
         rfl
       refine pure_ (i := 20) (N := some 67) (v := ?_) (a' := ?_) #[false, true, false, true, false, true, true, false, true, false, true, false, false, false, false, true, false, false, true, false, true, false, false, false, false, false] rfl rfl (by kernel_rfl) (fun _ _ _ h => h) (Or.inl ⟨by rfl, ?_⟩) ?_ ?_
       rotate_left
       · intro w'
         go_simp
         with_reducible rfl
       rotate_left
       · simp only [Act.put, sa_, sz_, ss_, i64_w, i32_w]
         rfl
       refine take_ (i := 0) (N := some 47) (v := ?_) (a' := ?_) #[true, true, false, true, false, true, true, false, true, false, true, false, false, false, false, true, false, false, true, false, true, false, false, false, false, false] rfl rfl (by kernel_rfl) (fun _ _ _ h => h) (Or.inl ⟨by rfl, ?_⟩) hHeld ?_ ?_
       rotate_left
       · rintro w' ⟨s0, s1, s2, s3, s4, s5, s6, s7, s8, s9, s10, s11, s12⟩
         go_simp
         with_reducible rfl
       rotate_left
       · simp only [Act.put, sa_, sz_, ss_, i64_w, i32_w]
         rfl
       refine take_ (i := 2) (N := some 49) (v := ?_) (a' := ?_) #[true, true, true, true, false, true, true, false, true, false, true, false, false, false, false, true, false, false, true, false, true, false, false, false, false, false] rfl rfl (by kernel_rfl) (fun _ _ _ h => h) (Or.inl ⟨by rfl, ?_⟩) hHeld ?_ ?_
       rotate_left
       · rintro w' ⟨s0, s1, s2, s3, s4, s5, s6, s7, s8, s9, s10, s11, s12⟩
         go_simp
         with_reducible rfl
       rotate_left
       · simp only [Act.put, sa_, sz_, ss_, i64_w, i32_w]
         rfl
       refine take_ (i := 4) (N := some 51) (v := ?_) (a' := ?_) #[true, true, true, true, true, true, true, false, true, false, true, false, false, false, false, true, false, false, true, false, true, false, false, false, false, false] rfl rfl (by kernel_rfl) (fun _ _ _ h => h) (Or.inl ⟨by rfl, ?_⟩) hHeld ?_ ?_
       rotate_left
       · rintro w' ⟨s0, s1, s2, s3, s4, s5, s6, s7, s8, s9, s10, s11, s12⟩
         go_simp
         with_reducible rfl
       rotate_left
       · simp only [Act.put, sa_, sz_, ss_, i64_w, i32_w]
         rfl
       refine take_ (i := 7) (N := some 54) (v := ?_) (a' := ?_) #[true, true, true, true, true, true, true, true, true, false, true, false, false, false, false, true, false, false, true, false, true, false, false, false, false, false] rfl rfl (by kernel_rfl) (fun _ _ _ h => h) (Or.inl ⟨by rfl, ?_⟩) hHeld ?_ ?_
       rotate_left
       · rintro w' ⟨s0, s1, s2, s3, s4, s5, s6, s7, s8, s9, s10, s11, s12⟩
         go_simp
         with_reducible rfl
       rotate_left
       · simp only [Act.put, sa_, sz_, ss_, i64_w, i32_w]
         rfl
       refine take_ (i := 9) (N := some 56) (v := ?_) (a' := ?_) #[true, true, true, true, true, true, true, true, true, true, true, false, false, false, false, true, false, false, true, false, true, false, false, false, false, false] rfl rfl (by kernel_rfl) (fun _ _ _ h => h) (Or.inl ⟨by rfl, ?_⟩) hHeld ?_ ?_
       rotate_left
       · rintro w' ⟨s0, s1, s2, s3, s4, s5, s6, s7, s8, s9, s10, s11, s12⟩
         go_simp
         with_reducible rfl
       rotate_left
       · simp only [Act.put, sa_, sz_, ss_, i64_w, i32_w]
         rfl
       refine take_ (i := 11) (N := some 58) (v := ?_) (a' := ?_) #[true, true, true, true, true, true, true, true, true, true, true, true, false, false, false, true, false, false, true, false, true, false, false, false, false, false] rfl rfl (by kernel_rfl) (fun _ _ _ h => h) (Or.inl ⟨by rfl, ?_⟩) hHeld ?_ ?_
       rotate_left
       · rintro w' ⟨s0, s1, s2, s3, s4, s5, s6, s7, s8, s9, s10, s11, s12⟩
         go_simp
         with_reducible rfl
       rotate_left
       · simp only [Act.put, sa_, sz_, ss_, i64_w, i32_w]
         rfl
       refine pure_ (i := 12) (N := some 59) (v := ?_) (a' := ?_) #[true, true, true, true, true, true, true, true, true, true, true, true, true, false, false, true, false, false, true, false, true, false, false, false, false, false] rfl rfl (by kernel_rfl) (fun _ _ _ h => h) (Or.inl ⟨by rfl, ?_⟩) ?_ ?_
       rotate_left
       · intro w'
         go_simp
         with_reducible rfl
       rotate_left
       · simp only [Act.put, sa_, sz_, ss_, i64_w, i32_w]
         rfl
       refine pure_ (i := 13) (N := some 60) (v := ?_) (a' := ?_) #[true, true, true, true, true, true, true, true, true, true, true, true, true, true, false, true, false, false, true, false, true, false, false, false, false, false] rfl rfl (by kernel_rfl) (fun _ _ _ h => h) (Or.inl ⟨by rfl, ?_⟩) ?_ ?_
       rotate_left
       · intro w'
         go_simp
         with_reducible rfl
       rotate_left
       · simp only [Act.put, sa_, sz_, ss_, i64_w, i32_w]
         rfl
       refine take_ (i := 14) (N := some 61) (v := ?_) (a' := ?_) #[true, true, true, true, true, true, true, true, true, true, true, true, true, true, true, true, false, false, true, false, true, false, false, false, false, false] rfl rfl (by kernel_rfl) (fun _ _ _ h => h) (Or.inl ⟨by rfl, ?_⟩) hHeld ?_ ?_
       rotate_left
       · rintro w' ⟨s0, s1, s2, s3, s4, s5, s6, s7, s8, s9, s10, s11, s12⟩
         go_simp
         with_reducible rfl
       rotate_left
       · simp only [Act.put, sa_, sz_, ss_, i64_w, i32_w]
         rfl
       refine take_ (i := 16) (N := some 63) (v := ?_) (a' := ?_) #[true, true, true, true, true, true, true, true, true, true, true, true, true, true, true, true, true, false, true, false, true, false, false, false, false, false] rfl rfl (by kernel_rfl) (fun _ _ _ h => h) (Or.inl ⟨by rfl, ?_⟩) hHeld ?_ ?_
       rotate_left
       · rintro w' ⟨s0, s1, s2, s3, s4, s5, s6, s7, s8, s9, s10, s11, s12⟩
         go_simp
         with_reducible rfl
       rotate_left
       · simp only [Act.put, sa_, sz_, ss_, i64_w, i32_w]
         rfl
       refine take_ (i := 17) (N := some 64) (v := ?_) (a' := ?_) #[true, true, true, true, true, true, true, true, true, true, true, true, true, true, true, true, true, true, true, false, true, false, false, false, false, false] rfl rfl (by kernel_rfl) (fun _ _ _ h => h) (Or.inl ⟨by rfl, ?_⟩) hHeld ?_ ?_
       rotate_left
       · rintro w' ⟨s0, s1, s2, s3, s4, s5, s6, s7, s8, s9, s10, s11, s12⟩
         go_simp
         with_reducible rfl
       rotate_left
       · simp only [Act.put, sa_, sz_, ss_, i64_w, i32_w]
         rfl
       refine take_ (i := 19) (N := some 66) (v := ?_) (a' := ?_) #[true, true, true, true, true, true, true, true, true, true, true, true, true, true, true, true, true, true, true, true, true, false, false, false, false, false] rfl rfl (by kernel_rfl) (fun _ _ _ h => h) (Or.inl ⟨by rfl, ?_⟩) hHeld ?_ ?_
       rotate_left
       · rintro w' ⟨s0, s1, s2, s3, s4, s5, s6, s7, s8, s9, s10, s11, s12⟩
         go_simp
         with_reducible rfl
       rotate_left
       · simp only [Act.put, sa_, sz_, ss_, i64_w, i32_w]
         rfl
       refine one_ (i := 21) (N := some 68) #[true, true, true, true, true, true, true, true, true, true, true, true, true, true, true, true, true, true, true, true, true, true, false, false, false, false] rfl rfl (by kernel_rfl) (by decide) (fun K hK => ?_)
       refine goes_ Tryd.func37 (by kernel_rfl) rfl #[.int .i64 id, .agg #[.string n, .int .i64 dl, .slice (some ad) l.length c], .int .i64 sp, .bool (ph == 1)] (by rfl) rfl rfl (by simp only [mt_, mc_, mn_]; rfl) ?_
       have hdr := below_drew1 (Below.refl w9.heap.size w9)
       with_reducible refine (def_Key.calls k id n dl (some ad) c l sp (ph == 1) key _ (Kd.C_below HR.out (below_step HB.out hdr)) HC.out (Tabs_.below HT.out (below_step HB.out hdr)) A4.out).mono ?_
       rintro e w10 ⟨rfl, hb0⟩
       have hb := below_step hdr hb0
       clear hdr hb0
       refine ⟨_, rfl, ?_⟩
       have nHB_ := ak_ (below_step HB.out hb)
       have nBD_ := ak_ (blk_below BD.out hb)
       have nBS_ := ak_ (blk_below BS.out hb)
       have nBZ_ := ak_ (blk_below BZ.out hb)
       have nBC_ := ak_ (blk_below BC.out hb)
       clear HB BD BS BZ BC
       have HB := nHB_
       have BD := nBD_
       have BS := nBS_
       have BZ := nBZ_
       have BC := nBC_
       clear nHB_ nBD_ nBS_ nBZ_ nBC_ hb
       obtain ⟨ad2, ea, _, u1, _⟩ := at_T70 (Kd.C_below HR.out HB.out) sp HS.out.1 HS.out.2
       obtain rfl : ad = ad2 := by injection ea
       clear ea U1
       have U1 := ak_ u1
       clear u1
       refine hK.out _ _ ⟨?_, ?_, ?_, ?_, ?_, ?_, ?_, ?_, ?_, ?_, ?_, ?_, ?_⟩ (fun hHeld => ?_)
       · exact (zc BD.out 0).trans rfl
       · exact (zc BD.out 1).trans rfl
       · exact (zc BD.out 2).trans rfl
       · exact (zc BS.out 0).trans rfl
       · exact (zc BS.out 1).trans rfl
       · exact (zc BS.out 2).trans rfl
       · exact (zc BS.out 3).trans rfl
       · exact (zc BS.out 4).trans rfl
       · exact (zc BS.out 5).trans rfl
       · exact (zc BS.out 6).trans rfl
       · exact (zc BS.out 7).trans rfl
       · exact (zc BS.out 8).trans rfl
       · exact U1.out
       clear hK K
       refine norm_ (a' := ?_) ?_ ?_
       rotate_left
       · show Act.put _ (some 68) _ = _
         simp only [Act.put, sa_, sz_, ss_, i64_w, i32_w]
         rfl
       refine pure_ (i := 22) (N := some 69) (v := ?_) (a' := ?_) #[true, true, true, true, true, true, true, true, true, true, true, true, true, true, true, true, true, true, true, true, true, true, true, false, false, false] rfl rfl (by kernel_rfl) (fun _ _ _ h => h) (Or.inl ⟨by rfl, ?_⟩) ?_ ?_
       rotate_left
       · intro w'
         go_simp
         with_reducible rfl
       rotate_left
       · simp only [Act.put, sa_, sz_, ss_, i64_w, i32_w]
         rfl
       refine one_ (i := 23) (N := none) #[true, true, true, true, true, true, true, true, true, true, true, true, true, true, true, true, true, true, true, true, true, true, true, true, false, false] rfl rfl (by kernel_rfl) (by decide) (fun K hK => ?_)
       refine wp_store_whole 31 (.tmp 6) (.tmp 47) rfl g6 #[.int .i64 id, .string df, .int .i64 st, .int .i64 ph, .int .i64 sp, .int .i64 (wrap64 (tr + 1)), .bool true, .int .i64 t, .int .i64 sk] (by rfl) (by rfl) 31 _ BZ.out (by kernel_rfl) rfl (by simp [Value.oneCell']) w.heap.size w HB.out G6.out ?_
       intro w11 hB hZ hO
       have nBD_ := ak_ ((hO g3 N63.out).trans BD.out)
       have nBS_ := ak_ ((hO g4 N64.out).trans BS.out)
       have nBC_ := ak_ ((hO g7 N76.out.symm).trans BC.out)
       have nBZ_ := ak_ hZ
       have nHB_ := ak_ hB
       clear hB hZ hO HB BD BS BZ BC
       have HB := nHB_
       have BD := nBD_
       have BS := nBS_
       have BZ := nBZ_
       have BC := nBC_
       clear nHB_ nBD_ nBS_ nBZ_ nBC_
       obtain ⟨ad2, ea, _, u1, _⟩ := at_T70 (Kd.C_below HR.out HB.out) sp HS.out.1 HS.out.2
       obtain rfl : ad = ad2 := by injection ea
       clear ea U1
       have U1 := ak_ u1
       clear u1
       refine hK.out _ _ ⟨?_, ?_, ?_, ?_, ?_, ?_, ?_, ?_, ?_, ?_, ?_, ?_, ?_⟩ (fun hHeld => ?_)
       · exact (zc BD.out 0).trans rfl
       · exact (zc BD.out 1).trans rfl
       · exact (zc BD.out 2).trans rfl
       · exact (zc BS.out 0).trans rfl
       · exact (zc BS.out 1).trans rfl
       · exact (zc BS.out 2).trans rfl
       · exact (zc BS.out 3).trans rfl
       · exact (zc BS.out 4).trans rfl
       · exact (zc BS.out 5).trans rfl
       · exact (zc BS.out 6).trans rfl
       · exact (zc BS.out 7).trans rfl
       · exact (zc BS.out 8).trans rfl
       · exact U1.out
       clear hK K
       refine one_ (i := 24) (N := none) #[true, true, true, true, true, true, true, true, true, true, true, true, true, true, true, true, true, true, true, true, true, true, true, true, true, false] rfl rfl (by kernel_rfl) (by decide) (fun K hK => ?_)
       refine wp_store_whole 34 (.tmp 7) (.tmp 69) rfl g7 #[.int .i64 id, .int .i64 sp, .bool (ph == 1), .int .i64 (wrap64 (tr + 1)), .string (rd_T70 l sp).f1, .string key] (by rfl) (by rfl) 34 _ BC.out (by kernel_rfl) rfl (by simp [Value.oneCell']) w.heap.size w HB.out G7.out ?_
       intro w12 hB hZ hO
       have nBD_ := ak_ ((hO g3 N73.out).trans BD.out)
       have nBS_ := ak_ ((hO g4 N74.out).trans BS.out)
       have nBZ_ := ak_ ((hO g6 N76.out).trans BZ.out)
       have nBC_ := ak_ hZ
       have nHB_ := ak_ hB
       clear hB hZ hO HB BD BS BZ BC
       have HB := nHB_
       have BD := nBD_
       have BS := nBS_
       have BZ := nBZ_
       have BC := nBC_
       clear nHB_ nBD_ nBS_ nBZ_ nBC_
       obtain ⟨ad2, ea, _, u1, _⟩ := at_T70 (Kd.C_below HR.out HB.out) sp HS.out.1 HS.out.2
       obtain rfl : ad = ad2 := by injection ea
       clear ea U1
       have U1 := ak_ u1
       clear u1
       refine hK.out _ _ ⟨?_, ?_, ?_, ?_, ?_, ?_, ?_, ?_, ?_, ?_, ?_, ?_, ?_⟩ (fun hHeld => ?_)
       · exact (zc BD.out 0).trans rfl
       · exact (zc BD.out 1).trans rfl
       · exact (zc BD.out 2).trans rfl
       · exact (zc BS.out 0).trans rfl
       · exact (zc BS.out 1).trans rfl
       · exact (zc BS.out 2).trans rfl
       · exact (zc BS.out 3).trans rfl
       · exact (zc BS.out 4).trans rfl
       · exact (zc BS.out 5).trans rfl
       · exact (zc BS.out 6).trans rfl
       · exact (zc BS.out 7).trans rfl
       · exact (zc BS.out 8).trans rfl
       · exact U1.out
       clear hK K
       refine pure_ (i := 25) (N := some 8) (v := ?_) (a' := ?_) #[true, true, true, true, true, true, true, true, true, true, true, true, true, true, true, true, true, true, true, true, true, true, true, true, true, true] rfl rfl (by kernel_rfl) (fun _ _ _ h => h) (Or.inl ⟨by rfl, ?_⟩) ?_ ?_
       rotate_left
       · intro w'
         go_simp
         with_reducible rfl
       rotate_left
       · simp only [Act.put, sa_, sz_, ss_, i64_w, i32_w]
         rfl
       refine done_ (by kernel_rfl) ?_
       clear hHeld
       go_wp2
       refine bodyPost_ret (results_cct rfl _ _ g6 g7 #[.int .i64 id, .string df, .int .i64 st, .int .i64 ph, .int .i64 sp, .int .i64 (wrap64 (tr + 1)), .bool true, .int .i64 t, .int .i64 sk] #[.int .i64 id, .int .i64 sp, .bool (ph == 1), .int .i64 (wrap64 (tr + 1)), .string (rd_T70 l sp).f1, .string key] _ _ rfl BZ.out Tryd.underlying31 rfl (by kernel_rfl) rfl BC.out Tryd.underlying34 rfl (by kernel_rfl)) rfl ?_
       exact ⟨rfl, HB.out⟩
     · rw [if_neg hs] at H3
       cases H3
 · have H1 := HH.out
   rw [if_neg he] at H1
   simp only [Option.some.injEq, Prod.mk.injEq] at H1
   obtain ⟨rfl, rfl, rfl, rfl, rfl, rfl, rfl, rfl, rfl, rfl, rfl, rfl, rfl, rfl, rfl, rfl⟩ := H1
   have he1 : (e == 0) = false := beq_eq_false_iff_ne.mpr he
   have he2 : (e != 0) = true := bne_iff_ne.mpr he
   clear he
   go_enter Tryd.func12, Tryd.ntmps12
   go_wp2_with (first | ((with_reducible refine gate_dst (N := 3) rfl ?_); refine box_event ?hg (N := 3) ?hd (cs := #[.string n, .int .i64 dl, .slice A l.length c]) (t := 24) ?hr ?_; (case hd | hg => rfl); (case hr => first | (go_simp; done) | (go_simp; rfl)); intro g3 hg w1 hbox hb; have BD := ak_ hbox; have nHB_ := ak_ (below_step HB.out hb); clear HB; have HB := nHB_; clear nHB_ hb hbox hg) | ((with_reducible refine gate_dst (N := 4) rfl ?_); refine box_event ?hg (N := 4) ?hd (cs := #[.int .i64 id, .string df, .int .i64 st, .int .i64 ph, .int .i64 sp, .int .i64 tr, .bool out, .int .i64 at_, .int .i64 sk]) (t := 31) ?hr ?_; (case hd | hg => rfl); (case hr => first | (go_simp; done) | (go_simp; rfl)); intro g4 hg w2 hbox hb; have N43 := ak_ (show g3 ≠ g4 from by rw [hg]; exact Nat.ne_of_lt (blk_lt BD.out)); have G4 := ak_ (show w.heap.size ≤ g4 from by rw [hg]; exact HB.out.size); have BS := ak_ hbox; have nHB_ := ak_ (below_step HB.out hb); have nBD_ := ak_ (blk_below BD.out hb); clear HB BD; have HB := nHB_; have BD := nBD_; clear nHB_ nBD_ hb hbox hg) | ((with_reducible refine gate_dst (N := 6) rfl ?_); refine box_event ?hg (N := 6) ?hd (cs := #[.int .i64 0, .string (⟨#[]⟩ : ByteArray), .int .i64 0, .int .i64 0, .int .i64 0, .int .i64 0, .bool false, .int .i64 0, .int .i64 0]) (t := 31) ?hr ?_; (case hd | hg => rfl); (case hr => first | (go_simp; done) | (go_simp; rfl)); intro g6 hg w3 hbox hb; have N64 := ak_ (show g4 ≠ g6 from by rw [hg]; exact Nat.ne_of_lt (blk_lt BS.out)); have N63 := ak_ (show g3 ≠ g6 from by rw [hg]; exact Nat.ne_of_lt (blk_lt BD.out)); have G6 := ak_ (show w.heap.size ≤ g6 from by rw [hg]; exact HB.out.size); have BZ := ak_ hbox; have nHB_ := ak_ (below_step HB.out hb); have nBD_ := ak_ (blk_below BD.out hb); have nBS_ := ak_ (blk_below BS.out hb); clear HB BD BS; have HB := nHB_; have BD := nBD_; have BS := nBS_; clear nHB_ nBD_ nBS_ hb hbox hg) | ((with_reducible refine gate_dst (N := 7) rfl ?_); refine box_event ?hg (N := 7) ?hd (cs := #[.int .i64 0, .int .i64 0, .bool false, .int .i64 0, .string (⟨#[]⟩ : ByteArray), .string (⟨#[]⟩ : ByteArray)]) (t := 34) ?hr ?_; (case hd | hg => rfl); (case hr => first | (go_simp; done) | (go_simp; rfl)); intro g7 hg w4 hbox hb; have N76 := ak_ (show g6 ≠ g7 from by rw [hg]; exact Nat.ne_of_lt (blk_lt BZ.out)); have N74 := ak_ (show g4 ≠ g7 from by rw [hg]; exact Nat.ne_of_lt (blk_lt BS.out)); have N73 := ak_ (show g3 ≠ g7 from by rw [hg]; exact Nat.ne_of_lt (blk_lt BD.out)); have G7 := ak_ (show w.heap.size ≤ g7 from by rw [hg]; exact HB.out.size); have BC := ak_ hbox; have nHB_ := ak_ (below_step HB.out hb); have nBD_ := ak_ (blk_below BD.out hb); have nBS_ := ak_ (blk_below BS.out hb); have nBZ_ := ak_ (blk_below BZ.out hb); clear HB BD BS BZ; have HB := nHB_; have BD := nBD_; have BS := nBS_; have BZ := nBZ_; clear nHB_ nBD_ nBS_ nBZ_ hb hbox hg) | (refine wpList_load_row rfl 24 (.tmp 3) rfl g3 rfl 24 _ (0, 0) _ BD.out Tryd.underlying24 rfl (by kernel_rfl) ?_) | (refine wpList_load_row rfl 31 (.tmp 4) rfl g4 rfl 31 _ (0, 0) _ BS.out Tryd.underlying31 rfl (by kernel_rfl) ?_) | (go_at_call 34; refine (saga_check.calls k n dl A c l id df st ph sp tr out at_ sk now _ w4 (Kd.C_below HR.out HB.out) HC.out (Tabs_.below HT.out HB.out) A1.out).mono ?_; rintro e w5 ⟨rfl, hb⟩; have nHB_ := ak_ (below_step HB.out hb); have nBD_ := ak_ (blk_below BD.out hb); have nBS_ := ak_ (blk_below BS.out hb); have nBZ_ := ak_ (blk_below BZ.out hb); have nBC_ := ak_ (blk_below BC.out hb); clear HB BD BS BZ BC; have HB := nHB_; have BD := nBD_; have BS := nBS_; have BZ := nBZ_; have BC := nBC_; clear nHB_ nBD_ nBS_ nBZ_ nBC_ hb) | (refine wpList_store_whole rfl 31 (.tmp 6) (.tmp 26) rfl g6 #[.int .i64 id, .string df, .int .i64 st, .int .i64 ph, .int .i64 sp, .int .i64 tr, .bool out, .int .i64 at_, .int .i64 sk] rfl rfl 31 _ BZ.out (by kernel_rfl) rfl (by simp [Value.oneCell']) w.heap.size w HB.out G6.out ?_; intro w8 hB hZ hO; have nBC_ := ak_ ((hO g7 N76.out.symm).trans BC.out); have nBZ_ := ak_ hZ; have nHB_ := ak_ hB; clear hB hZ hO HB BZ BC; have BC := nBC_; have BZ := nBZ_; have HB := nHB_; clear nBC_ nBZ_ nHB_) | (refine wpList_store_whole rfl 34 (.tmp 7) (.tmp 27) rfl g7 #[.int .i64 0, .int .i64 0, .bool false, .int .i64 0, .string (⟨#[]⟩ : ByteArray), .string (⟨#[]⟩ : ByteArray)] rfl rfl 34 _ BC.out (by kernel_rfl) rfl (by simp [Value.oneCell']) w.heap.size w HB.out G7.out ?_; intro w8 hB hZ hO; have nBZ_ := ak_ ((hO g6 N76.out).trans BZ.out); have nBC_ := ak_ hZ; have nHB_ := ak_ hB; clear hB hZ hO HB BC BZ; have BZ := nBZ_; have BC := nBC_; have HB := nHB_; clear nBZ_ nBC_ nHB_))
   refine bodyPost_ret (results_cct rfl _ _ g6 g7 #[.int .i64 id, .string df, .int .i64 st, .int .i64 ph, .int .i64 sp, .int .i64 tr, .bool out, .int .i64 at_, .int .i64 sk] #[.int .i64 0, .int .i64 0, .bool false, .int .i64 0, .string (⟨#[]⟩ : ByteArray), .string (⟨#[]⟩ : ByteArray)] _ _ rfl BZ.out Tryd.underlying31 rfl (by kernel_rfl) rfl BC.out Tryd.underlying34 rfl (by kernel_rfl)) rfl ?_
   exact ⟨rfl, HB.out⟩
def uL14_one.f  : Option (ByteArray × Int × (List (S70))) := some ((⟨#[97]⟩ : ByteArray), 0, (([(⟨(⟨#[98]⟩ : ByteArray), (⟨#[99]⟩ : ByteArray), 1, (⟨1, 1, 1, 1⟩ : S54), (⟨1, 1, 1, 1⟩ : S54), 0⟩ : S70)] : List (S70))))
theorem uL14_one.calls  (r1 : ByteArray) (r2 : Int) (r3 : List (S70)) (w : World) (h : uL14_one.f  = some (r1, r2, r3)) :
 Calls Tryd.prog 29 #[] w fun e w' => ∃ v2_ : Value, e = .returned (.agg #[.string r1, .int .i64 r2, v2_]) ∧ Kd.R k70 70 w' w.heap.size (fun _ => True) v2_ r3 ∧ Below w.heap.size w w' := by
 have hu24 := Tryd.underlying24
 have hu54 := Tryd.underlying54
 have hu70 := Tryd.underlying70
 have HB := ak_ (Below.refl w.heap.size w)
 have H : (some ((⟨#[97]⟩ : ByteArray), 0, (([(⟨(⟨#[98]⟩ : ByteArray), (⟨#[99]⟩ : ByteArray), 1, (⟨1, 1, 1, 1⟩ : S54), (⟨1, 1, 1, 1⟩ : S54), 0⟩ : S70)] : List (S70))))) = some (r1, r2, r3) := h
 clear h
 obtain ⟨y204, hy204⟩ : ∃ y_ : List (S70), y_ = (([(⟨(⟨#[98]⟩ : ByteArray), (⟨#[99]⟩ : ByteArray), 1, (⟨1, 1, 1, 1⟩ : S54), (⟨1, 1, 1, 1⟩ : S54), 0⟩ : S70)] : List (S70))) := ⟨_, rfl⟩
 replace H : (some ((⟨#[97]⟩ : ByteArray), 0, y204)) = some (r1, r2, r3) := by first | (rw [hy204]; with_reducible exact H) | (have H2_ := (Option.bind_some _ _).symm.trans H; rw [hy204]; with_reducible exact H2_) | (have H2_ := (Option.bind_some _ _).symm.trans H; with_reducible exact H2_) | with_reducible exact H | (rw [hy204]; exact H) | exact H
 have Ny204 := ak_ hy204
 clear hy204
 simp only [Option.some.injEq, Prod.mk.injEq] at H
 obtain ⟨rfl, rfl, rfl⟩ := H
 go_enter Tryd.func29, Tryd.ntmps29
 go_wp2_with (first | ((with_reducible refine gate_dst (N := 0) rfl ?_); refine box_event ?hg (N := 0) ?hd (cs := #[.string ⟨#[]⟩, .int .i64 0, .slice none 0 0]) (t := 24) ?hr ?_; (case hd | hg => rfl); (case hr => first | (go_simp; done) | (go_simp; rfl)); intro gb202 hg w1 hbox hb; have n0_ := ak_ (ps (by with_reducible repeat first | exact HB.out | apply pa | apply pd | apply pe) hb); have n1_ := ak_ (hbox); have n2_ := ak_ ((by rw [hg]; exact (below_size (by with_reducible repeat first | exact HB.out | apply pa | apply pd | apply pe)) : w.heap.size ≤ gb202)); have n3_ := ak_ ((by rw [hg]; exact (below_size (by with_reducible repeat first | exact HB.out | apply pa | apply pd | apply pe)) : w.heap.size ≤ gb202)); clear HB; have HB := n0_; have BK202 := n1_; have GW202 := n2_; have GE202 := n3_; clear n0_ n1_ n2_ n3_ hb hbox hg) | ((with_reducible refine gate_dst (N := 1) rfl ?_); refine box_event ?hg (N := 1) ?hd (cs := #[.int .i64 0, .int .i64 0, .int .i64 0, .int .i64 0]) (t := 54) ?hr ?_; (case hd | hg => rfl); (case hr => first | (go_simp; done) | (go_simp; rfl)); intro gb203 hg w2 hbox hb; have n0_ := ak_ (blk_below (g := gb202) (o := .cells #[.string ⟨#[]⟩, .int .i64 0, .slice none 0 0] 24 (0, 0)) (by (with_reducible repeat (first | apply zn | apply zd | apply za)); exact BK202.out) hb); have n1_ := ak_ (ps (by with_reducible repeat first | exact HB.out | apply pa | apply pd | apply pe | refine zs ?_ GE202.out) hb); have n2_ := ak_ (hbox); have n3_ := ak_ ((by rw [hg]; exact (below_size (by with_reducible repeat first | exact HB.out | apply pa | apply pd | apply pe | refine zs ?_ GE202.out)) : w.heap.size ≤ gb203)); have n4_ := ak_ ((by rw [hg]; exact (below_size (by with_reducible repeat first | exact HB.out | apply pa | apply pd | apply pe | refine zs ?_ GE202.out)) : w.heap.size ≤ gb203)); have n5_ := ak_ ((by rw [hg]; exact Nat.ne_of_lt (blk_lt (g := gb202) (by (with_reducible repeat (first | apply zn | apply zd | apply za)); exact BK202.out)) : gb202 ≠ gb203)); have n6_ := ak_ ((by rw [hg]; exact Nat.ne_of_gt (blk_lt (g := gb202) (by (with_reducible repeat (first | apply zn | apply zd | apply za)); exact BK202.out)) : gb203 ≠ gb202)); clear BK202 HB; have BK202 := n0_; have HB := n1_; have BK203 := n2_; have GW203 := n3_; have GE203 := n4_; have NB202_203 := n5_; have NB203_202 := n6_; clear n0_ n1_ n2_ n3_ n4_ n5_ n6_ hb hbox hg; have hnb3 := NB203_202.out; have hnc3 := NB202_203.out; have hcz4_0 : w2.cell? ⟨gb203, 0, none⟩ = some (.int .i64 0) := (zc BK203.out 0).trans rfl; have hcz4_1 : w2.cell? ⟨gb203, 1, none⟩ = some (.int .i64 0) := (zc BK203.out 1).trans rfl; have hcz4_2 : w2.cell? ⟨gb203, 2, none⟩ = some (.int .i64 0) := (zc BK203.out 2).trans rfl; have hcz4_3 : w2.cell? ⟨gb203, 3, none⟩ = some (.int .i64 0) := (zc BK203.out 3).trans rfl; have hfz4_0 := zf BK203.out 0; have hfz4_1 := zf BK203.out 1; have hfz4_2 := zf BK203.out 2; have hfz4_3 := zf BK203.out 3) | ((with_reducible refine gate_dst (N := 6) rfl ?_); refine Kd.R_lit k70 _ 70 ?hg (N := 6) ?hd (xs := ([(⟨(⟨#[98]⟩ : ByteArray), (⟨#[99]⟩ : ByteArray), 1, (⟨1, 1, 1, 1⟩ : S54), (⟨1, 1, 1, 1⟩ : S54), 0⟩ : S70)] : List (S70))) (inner := [.string (⟨#[98]⟩ : ByteArray), .string (⟨#[99]⟩ : ByteArray), .int .i64 1, .int .i64 1, .int .i64 1, .int .i64 1, .int .i64 1, .int .i64 1, .int .i64 1, .int .i64 1, .int .i64 1, .int .i64 0]) (ok := fun _ => True) (okp := fun _ => True) ?hr ?hp (fun _ hk => hk) trivial (Below.refl _ _) (Nat.le_refl _) (by simp) ?_; (case hd | hg => rfl); (case hr => first | (go_simp; done) | (go_simp; rfl)); (case hp => exact (Reps.front (show Kd.M k70 _ _ _ (⟨(⟨#[98]⟩ : ByteArray), (⟨#[99]⟩ : ByteArray), 1, (⟨1, 1, 1, 1⟩ : S54), (⟨1, 1, 1, 1⟩ : S54), 0⟩ : S70) [.string (⟨#[98]⟩ : ByteArray), .string (⟨#[99]⟩ : ByteArray), .int .i64 1, .int .i64 1, .int .i64 1, .int .i64 1, .int .i64 1, .int .i64 1, .int .i64 1, .int .i64 1, .int .i64 1, .int .i64 0] from (k70_mkM _ _ _ (⟨(⟨#[98]⟩ : ByteArray), (⟨#[99]⟩ : ByteArray), 1, (⟨1, 1, 1, 1⟩ : S54), (⟨1, 1, 1, 1⟩ : S54), 0⟩ : S70) )) rfl (Reps.none _ _) rfl)); intro v205 w5 ho6 hb hg_ hnew_; clear hg_ hnew_; (first | rw [← Ny204.out] at ho6 | (simp only [Int.reduceToNat] at ho6; rw [← Ny204.out] at ho6)); have n0_ := ak_ (Kd.R_lower ho6 (below_size (by with_reducible repeat first | exact HB.out | apply pa | apply pd | apply pe | refine zs ?_ GE202.out | refine zs ?_ GE203.out))); have n1_ := ak_ (blk_below (g := gb202) (o := .cells #[.string ⟨#[]⟩, .int .i64 0, .slice none 0 0] 24 (0, 0)) (by (repeat (first | (with_reducible first | apply zn | apply zd | apply za) | refine zr ?_ NB202_203.out _)); (with_reducible repeat (first | apply zn | apply zd | apply za)); exact BK202.out) hb); have n2_ := ak_ (blk_below (g := gb203) (o := .cells #[.int .i64 1, .int .i64 1, .int .i64 1, .int .i64 1] 54 (0, 0)) (by (with_reducible repeat (first | apply zn | apply zd | apply za)); refine zp (cs := #[.int .i64 1, .int .i64 1, .int .i64 1, .int .i64 0]) ?_ 3 _ rfl; (with_reducible repeat (first | apply zn | apply zd | apply za)); refine zp (cs := #[.int .i64 1, .int .i64 1, .int .i64 0, .int .i64 0]) ?_ 2 _ rfl; (with_reducible repeat (first | apply zn | apply zd | apply za)); refine zp (cs := #[.int .i64 1, .int .i64 0, .int .i64 0, .int .i64 0]) ?_ 1 _ rfl; (with_reducible repeat (first | apply zn | apply zd | apply za)); refine zp (cs := #[.int .i64 0, .int .i64 0, .int .i64 0, .int .i64 0]) ?_ 0 _ rfl; (with_reducible repeat (first | apply zn | apply zd | apply za)); exact BK203.out) hb); have n3_ := ak_ (ps (by with_reducible repeat first | exact HB.out | apply pa | apply pd | apply pe | refine zs ?_ GE202.out | refine zs ?_ GE203.out) hb); clear BK202 BK203 HB; have HO206 := n0_; have BK202 := n1_; have BK203 := n2_; have HB := n3_; clear n0_ n1_ n2_ n3_ hb ho6; obtain ⟨Ao7, co7, eo7⟩ := Kd.R_slice HO206.out; subst eo7; have hcz8_0 : w5.cell? ⟨gb202, 0, none⟩ = some (.string ⟨#[]⟩) := (zc BK202.out 0).trans rfl; have hcz8_1 : w5.cell? ⟨gb202, 1, none⟩ = some (.int .i64 0) := (zc BK202.out 1).trans rfl; have hcz8_2 : w5.cell? ⟨gb202, 2, none⟩ = some (.slice none 0 0) := (zc BK202.out 2).trans rfl; have hfz8_0 := zf BK202.out 0; have hfz8_1 := zf BK202.out 1; have hfz8_2 := zf BK202.out 2))
 refine bodyPost_ret (results_cell_row rfl _ _ gb202 24 #[.string (⟨#[97]⟩ : ByteArray), .int .i64 0, .slice Ao7 y204.length co7] (0, 0) _ rfl (by (with_reducible repeat (first | apply zn | apply zd | apply za)); refine zp (cs := #[.string (⟨#[97]⟩ : ByteArray), .int .i64 0, .slice none 0 0]) ?_ 2 _ rfl; (with_reducible repeat (first | apply zn | apply zd | apply za)); refine zp (cs := #[.string (⟨#[97]⟩ : ByteArray), .int .i64 0, .slice none 0 0]) ?_ 1 _ rfl; (with_reducible repeat (first | apply zn | apply zd | apply za)); refine zp (cs := #[.string ⟨#[]⟩, .int .i64 0, .slice none 0 0]) ?_ 0 _ rfl; (with_reducible repeat (first | apply zn | apply zd | apply za)); exact BK202.out) Tryd.underlying24 rfl (by kernel_rfl)) rfl ?_
 exact ⟨_, by first | rfl | simp [*], by (with_reducible repeat (first | apply Kd.R_alloc | apply Kd.R_drewN | apply Kd.R_drew)); exact Kd.R_mono (Kd.R_far (p := ⟨gb202, 2, none⟩) (Kd.R_far (p := ⟨gb202, 1, none⟩) (Kd.R_far (p := ⟨gb202, 0, none⟩) (Kd.R_types HO206.out BK202.out (by decide)) (fun _ hk => hk.2) (.string (⟨#[97]⟩ : ByteArray))) (fun _ hk => hk.2) (.int .i64 0)) (fun _ hk => hk.2) (.slice Ao7 y204.length co7)) (fun _ hk => trivial), by repeat (first | (with_reducible first | exact HB.out | apply pa | apply pd | apply pe | refine zs ?_ GE202.out | refine zs ?_ GE203.out) | exact HB.out)⟩
def saga_over.f (a0_0 : Int) (a0_1 : ByteArray) (a0_2 : Int) (a0_3 : Int) (a0_4 : Int) (a0_5 : Int) (a0_6 : Bool) (a0_7 : Int) (a0_8 : Int) (a1 : Int) : Option (Int × ByteArray × Int × Int × Int × Int × Bool × Int × Int) := some (a0_0, a0_1, a0_2, a1, a0_4, a0_5, false, a0_7, a0_8)
theorem saga_over.calls (a0_0 : Int) (a0_1 : ByteArray) (a0_2 : Int) (a0_3 : Int) (a0_4 : Int) (a0_5 : Int) (a0_6 : Bool) (a0_7 : Int) (a0_8 : Int) (a1 : Int) (r1 : Int) (r2 : ByteArray) (r3 : Int) (r4 : Int) (r5 : Int) (r6 : Int) (r7 : Bool) (r8 : Int) (r9 : Int) (w : World) (h : saga_over.f a0_0 a0_1 a0_2 a0_3 a0_4 a0_5 a0_6 a0_7 a0_8 a1 = some (r1, r2, r3, r4, r5, r6, r7, r8, r9)) :
 Calls Tryd.prog 71 #[.agg #[.int .i64 a0_0, .string a0_1, .int .i64 a0_2, .int .i64 a0_3, .int .i64 a0_4, .int .i64 a0_5, .bool a0_6, .int .i64 a0_7, .int .i64 a0_8], .int .i64 a1] w fun e w' => e = .returned (.agg #[.int .i64 r1, .string r2, .int .i64 r3, .int .i64 r4, .int .i64 r5, .int .i64 r6, .bool r7, .int .i64 r8, .int .i64 r9]) ∧ Below w.heap.size w w' := by
 have hu31 := Tryd.underlying31
 have HB := ak_ (Below.refl w.heap.size w)
 have H : (some (a0_0, a0_1, a0_2, a1, a0_4, a0_5, false, a0_7, a0_8)) = some (r1, r2, r3, r4, r5, r6, r7, r8, r9) := h
 clear h
 simp only [Option.some.injEq, Prod.mk.injEq] at H
 obtain ⟨rfl, rfl, rfl, rfl, rfl, rfl, rfl, rfl, rfl⟩ := H
 go_enter Tryd.func71, Tryd.ntmps71
 go_wp2_with (first | ((with_reducible refine gate_dst (N := 2) rfl ?_); refine box_event ?hg (N := 2) ?hd (cs := #[.int .i64 a0_0, .string a0_1, .int .i64 a0_2, .int .i64 a0_3, .int .i64 a0_4, .int .i64 a0_5, .bool a0_6, .int .i64 a0_7, .int .i64 a0_8]) (t := 31) ?hr ?_; (case hd | hg => rfl); (case hr => first | (go_simp; done) | (go_simp; rfl)); intro gb207 hg w3 hbox hb; have n0_ := ak_ (ps (by with_reducible repeat first | exact HB.out | apply pa | apply pd | apply pe) hb); have n1_ := ak_ (hbox); have n2_ := ak_ ((by rw [hg]; exact (below_size (by with_reducible repeat first | exact HB.out | apply pa | apply pd | apply pe)) : w.heap.size ≤ gb207)); have n3_ := ak_ ((by rw [hg]; exact (below_size (by with_reducible repeat first | exact HB.out | apply pa | apply pd | apply pe)) : w.heap.size ≤ gb207)); clear HB; have HB := n0_; have BK207 := n1_; have GW207 := n2_; have GE207 := n3_; clear n0_ n1_ n2_ n3_ hb hbox hg) | ((with_reducible refine gate_dst (N := 4) rfl ?_); refine box_event ?hg (N := 4) ?hd (cs := #[.int .i64 0, .string ⟨#[]⟩, .int .i64 0, .int .i64 0, .int .i64 0, .int .i64 0, .bool false, .int .i64 0, .int .i64 0]) (t := 31) ?hr ?_; (case hd | hg => rfl); (case hr => first | (go_simp; done) | (go_simp; rfl)); intro gb208 hg w4 hbox hb; have n0_ := ak_ (blk_below (g := gb207) (o := .cells #[.int .i64 a0_0, .string a0_1, .int .i64 a0_2, .int .i64 a0_3, .int .i64 a0_4, .int .i64 a0_5, .bool a0_6, .int .i64 a0_7, .int .i64 a0_8] 31 (0, 0)) (by (with_reducible repeat (first | apply zn | apply zd | apply za)); exact BK207.out) hb); have n1_ := ak_ (ps (by with_reducible repeat first | exact HB.out | apply pa | apply pd | apply pe | refine zs ?_ GE207.out) hb); have n2_ := ak_ (hbox); have n3_ := ak_ ((by rw [hg]; exact (below_size (by with_reducible repeat first | exact HB.out | apply pa | apply pd | apply pe | refine zs ?_ GE207.out)) : w.heap.size ≤ gb208)); have n4_ := ak_ ((by rw [hg]; exact (below_size (by with_reducible repeat first | exact HB.out | apply pa | apply pd | apply pe | refine zs ?_ GE207.out)) : w.heap.size ≤ gb208)); have n5_ := ak_ ((by rw [hg]; exact Nat.ne_of_lt (blk_lt (g := gb207) (by (with_reducible repeat (first | apply zn | apply zd | apply za)); exact BK207.out)) : gb207 ≠ gb208)); have n6_ := ak_ ((by rw [hg]; exact Nat.ne_of_gt (blk_lt (g := gb207) (by (with_reducible repeat (first | apply zn | apply zd | apply za)); exact BK207.out)) : gb208 ≠ gb207)); clear BK207 HB; have BK207 := n0_; have HB := n1_; have BK208 := n2_; have GW208 := n3_; have GE208 := n4_; have NB207_208 := n5_; have NB208_207 := n6_; clear n0_ n1_ n2_ n3_ n4_ n5_ n6_ hb hbox hg; have hnb5 := NB207_208.out; have hnc5 := NB208_207.out; have hcz6_0 : w4.cell? ⟨gb207, 0, none⟩ = some (.int .i64 a0_0) := (zc BK207.out 0).trans rfl; have hcz6_1 : w4.cell? ⟨gb207, 1, none⟩ = some (.string a0_1) := (zc BK207.out 1).trans rfl; have hcz6_2 : w4.cell? ⟨gb207, 2, none⟩ = some (.int .i64 a0_2) := (zc BK207.out 2).trans rfl; have hcz6_3 : w4.cell? ⟨gb207, 3, none⟩ = some (.int .i64 a0_3) := (zc BK207.out 3).trans rfl; have hcz6_4 : w4.cell? ⟨gb207, 4, none⟩ = some (.int .i64 a0_4) := (zc BK207.out 4).trans rfl; have hcz6_5 : w4.cell? ⟨gb207, 5, none⟩ = some (.int .i64 a0_5) := (zc BK207.out 5).trans rfl; have hcz6_6 : w4.cell? ⟨gb207, 6, none⟩ = some (.bool a0_6) := (zc BK207.out 6).trans rfl; have hcz6_7 : w4.cell? ⟨gb207, 7, none⟩ = some (.int .i64 a0_7) := (zc BK207.out 7).trans rfl; have hcz6_8 : w4.cell? ⟨gb207, 8, none⟩ = some (.int .i64 a0_8) := (zc BK207.out 8).trans rfl; have hfz6_0 := zf BK207.out 0; have hfz6_1 := zf BK207.out 1; have hfz6_2 := zf BK207.out 2; have hfz6_3 := zf BK207.out 3; have hfz6_4 := zf BK207.out 4; have hfz6_5 := zf BK207.out 5; have hfz6_6 := zf BK207.out 6; have hfz6_7 := zf BK207.out 7; have hfz6_8 := zf BK207.out 8; have hcz7_0 : w4.cell? ⟨gb208, 0, none⟩ = some (.int .i64 0) := (zc BK208.out 0).trans rfl; have hcz7_1 : w4.cell? ⟨gb208, 1, none⟩ = some (.string ⟨#[]⟩) := (zc BK208.out 1).trans rfl; have hcz7_2 : w4.cell? ⟨gb208, 2, none⟩ = some (.int .i64 0) := (zc BK208.out 2).trans rfl; have hcz7_3 : w4.cell? ⟨gb208, 3, none⟩ = some (.int .i64 0) := (zc BK208.out 3).trans rfl; have hcz7_4 : w4.cell? ⟨gb208, 4, none⟩ = some (.int .i64 0) := (zc BK208.out 4).trans rfl; have hcz7_5 : w4.cell? ⟨gb208, 5, none⟩ = some (.int .i64 0) := (zc BK208.out 5).trans rfl; have hcz7_6 : w4.cell? ⟨gb208, 6, none⟩ = some (.bool false) := (zc BK208.out 6).trans rfl; have hcz7_7 : w4.cell? ⟨gb208, 7, none⟩ = some (.int .i64 0) := (zc BK208.out 7).trans rfl; have hcz7_8 : w4.cell? ⟨gb208, 8, none⟩ = some (.int .i64 0) := (zc BK208.out 8).trans rfl; have hfz7_0 := zf BK208.out 0; have hfz7_1 := zf BK208.out 1; have hfz7_2 := zf BK208.out 2; have hfz7_3 := zf BK208.out 3; have hfz7_4 := zf BK208.out 4; have hfz7_5 := zf BK208.out 5; have hfz7_6 := zf BK208.out 6; have hfz7_7 := zf BK208.out 7; have hfz7_8 := zf BK208.out 8))
 refine bodyPost_ret (results_cell_row rfl _ _ gb208 31 #[.int .i64 a0_0, .string a0_1, .int .i64 a0_2, .int .i64 a1, .int .i64 a0_4, .int .i64 a0_5, .bool false, .int .i64 a0_7, .int .i64 a0_8] (0, 0) _ rfl (by (with_reducible repeat (first | apply zn | apply zd | apply za)); refine zp (cs := #[.int .i64 a0_0, .string a0_1, .int .i64 a0_2, .int .i64 a1, .int .i64 a0_4, .int .i64 a0_5, .bool false, .int .i64 a0_7, .int .i64 0]) ?_ 8 _ rfl; (with_reducible repeat (first | apply zn | apply zd | apply za)); refine zp (cs := #[.int .i64 a0_0, .string a0_1, .int .i64 a0_2, .int .i64 a1, .int .i64 a0_4, .int .i64 a0_5, .bool false, .int .i64 0, .int .i64 0]) ?_ 7 _ rfl; (with_reducible repeat (first | apply zn | apply zd | apply za)); refine zp (cs := #[.int .i64 a0_0, .string a0_1, .int .i64 a0_2, .int .i64 a1, .int .i64 a0_4, .int .i64 a0_5, .bool false, .int .i64 0, .int .i64 0]) ?_ 6 _ rfl; (with_reducible repeat (first | apply zn | apply zd | apply za)); refine zp (cs := #[.int .i64 a0_0, .string a0_1, .int .i64 a0_2, .int .i64 a1, .int .i64 a0_4, .int .i64 0, .bool false, .int .i64 0, .int .i64 0]) ?_ 5 _ rfl; (with_reducible repeat (first | apply zn | apply zd | apply za)); refine zp (cs := #[.int .i64 a0_0, .string a0_1, .int .i64 a0_2, .int .i64 a1, .int .i64 0, .int .i64 0, .bool false, .int .i64 0, .int .i64 0]) ?_ 4 _ rfl; (with_reducible repeat (first | apply zn | apply zd | apply za)); refine zp (cs := #[.int .i64 a0_0, .string a0_1, .int .i64 a0_2, .int .i64 0, .int .i64 0, .int .i64 0, .bool false, .int .i64 0, .int .i64 0]) ?_ 3 _ rfl; (with_reducible repeat (first | apply zn | apply zd | apply za)); refine zp (cs := #[.int .i64 a0_0, .string a0_1, .int .i64 0, .int .i64 0, .int .i64 0, .int .i64 0, .bool false, .int .i64 0, .int .i64 0]) ?_ 2 _ rfl; (with_reducible repeat (first | apply zn | apply zd | apply za)); refine zp (cs := #[.int .i64 a0_0, .string ⟨#[]⟩, .int .i64 0, .int .i64 0, .int .i64 0, .int .i64 0, .bool false, .int .i64 0, .int .i64 0]) ?_ 1 _ rfl; (with_reducible repeat (first | apply zn | apply zd | apply za)); refine zp (cs := #[.int .i64 0, .string ⟨#[]⟩, .int .i64 0, .int .i64 0, .int .i64 0, .int .i64 0, .bool false, .int .i64 0, .int .i64 0]) ?_ 0 _ rfl; (repeat (first | (with_reducible first | apply zn | apply zd | apply za) | refine zr ?_ NB208_207.out _)); (with_reducible repeat (first | apply zn | apply zd | apply za)); exact BK208.out) Tryd.underlying31 rfl (by kernel_rfl)) rfl ?_
 exact ⟨by first | rfl | simp [*], by repeat (first | (with_reducible first | exact HB.out | apply pa | apply pd | apply pe | refine zs ?_ GE207.out | refine zs ?_ GE208.out) | exact HB.out)⟩
def saga_at.f (a0_0 : Int) (a0_1 : ByteArray) (a0_2 : Int) (a0_3 : Int) (a0_4 : Int) (a0_5 : Int) (a0_6 : Bool) (a0_7 : Int) (a0_8 : Int) (a1 : Int) (a2 : Int) (a3 : Int) : Option (Int × ByteArray × Int × Int × Int × Int × Bool × Int × Int) := some (a0_0, a0_1, a0_2, a1, a2, 0, false, a3, a0_8)
theorem saga_at.calls (a0_0 : Int) (a0_1 : ByteArray) (a0_2 : Int) (a0_3 : Int) (a0_4 : Int) (a0_5 : Int) (a0_6 : Bool) (a0_7 : Int) (a0_8 : Int) (a1 : Int) (a2 : Int) (a3 : Int) (r1 : Int) (r2 : ByteArray) (r3 : Int) (r4 : Int) (r5 : Int) (r6 : Int) (r7 : Bool) (r8 : Int) (r9 : Int) (w : World) (h : saga_at.f a0_0 a0_1 a0_2 a0_3 a0_4 a0_5 a0_6 a0_7 a0_8 a1 a2 a3 = some (r1, r2, r3, r4, r5, r6, r7, r8, r9)) :
 Calls Tryd.prog 72 #[.agg #[.int .i64 a0_0, .string a0_1, .int .i64 a0_2, .int .i64 a0_3, .int .i64 a0_4, .int .i64 a0_5, .bool a0_6, .int .i64 a0_7, .int .i64 a0_8], .int .i64 a1, .int .i64 a2, .int .i64 a3] w fun e w' => e = .returned (.agg #[.int .i64 r1, .string r2, .int .i64 r3, .int .i64 r4, .int .i64 r5, .int .i64 r6, .bool r7, .int .i64 r8, .int .i64 r9]) ∧ Below w.heap.size w w' := by
 have hu31 := Tryd.underlying31
 have HB := ak_ (Below.refl w.heap.size w)
 have H : (some (a0_0, a0_1, a0_2, a1, a2, 0, false, a3, a0_8)) = some (r1, r2, r3, r4, r5, r6, r7, r8, r9) := h
 clear h
 simp only [Option.some.injEq, Prod.mk.injEq] at H
 obtain ⟨rfl, rfl, rfl, rfl, rfl, rfl, rfl, rfl, rfl⟩ := H
 go_enter Tryd.func72, Tryd.ntmps72
 go_wp2_with (first | ((with_reducible refine gate_dst (N := 4) rfl ?_); refine box_event ?hg (N := 4) ?hd (cs := #[.int .i64 a0_0, .string a0_1, .int .i64 a0_2, .int .i64 a0_3, .int .i64 a0_4, .int .i64 a0_5, .bool a0_6, .int .i64 a0_7, .int .i64 a0_8]) (t := 31) ?hr ?_; (case hd | hg => rfl); (case hr => first | (go_simp; done) | (go_simp; rfl)); intro gb209 hg w5 hbox hb; have n0_ := ak_ (ps (by with_reducible repeat first | exact HB.out | apply pa | apply pd | apply pe) hb); have n1_ := ak_ (hbox); have n2_ := ak_ ((by rw [hg]; exact (below_size (by with_reducible repeat first | exact HB.out | apply pa | apply pd | apply pe)) : w.heap.size ≤ gb209)); have n3_ := ak_ ((by rw [hg]; exact (below_size (by with_reducible repeat first | exact HB.out | apply pa | apply pd | apply pe)) : w.heap.size ≤ gb209)); clear HB; have HB := n0_; have BK209 := n1_; have GW209 := n2_; have GE209 := n3_; clear n0_ n1_ n2_ n3_ hb hbox hg) | ((with_reducible refine gate_dst (N := 8) rfl ?_); refine box_event ?hg (N := 8) ?hd (cs := #[.int .i64 0, .string ⟨#[]⟩, .int .i64 0, .int .i64 0, .int .i64 0, .int .i64 0, .bool false, .int .i64 0, .int .i64 0]) (t := 31) ?hr ?_; (case hd | hg => rfl); (case hr => first | (go_simp; done) | (go_simp; rfl)); intro gb210 hg w6 hbox hb; have n0_ := ak_ (blk_below (g := gb209) (o := .cells #[.int .i64 a0_0, .string a0_1, .int .i64 a0_2, .int .i64 a0_3, .int .i64 a0_4, .int .i64 a0_5, .bool a0_6, .int .i64 a0_7, .int .i64 a0_8] 31 (0, 0)) (by (with_reducible repeat (first | apply zn | apply zd | apply za)); exact BK209.out) hb); have n1_ := ak_ (ps (by with_reducible repeat first | exact HB.out | apply pa | apply pd | apply pe | refine zs ?_ GE209.out) hb); have n2_ := ak_ (hbox); have n3_ := ak_ ((by rw [hg]; exact (below_size (by with_reducible repeat first | exact HB.out | apply pa | apply pd | apply pe | refine zs ?_ GE209.out)) : w.heap.size ≤ gb210)); have n4_ := ak_ ((by rw [hg]; exact (below_size (by with_reducible repeat first | exact HB.out | apply pa | apply pd | apply pe | refine zs ?_ GE209.out)) : w.heap.size ≤ gb210)); have n5_ := ak_ ((by rw [hg]; exact Nat.ne_of_lt (blk_lt (g := gb209) (by (with_reducible repeat (first | apply zn | apply zd | apply za)); exact BK209.out)) : gb209 ≠ gb210)); have n6_ := ak_ ((by rw [hg]; exact Nat.ne_of_gt (blk_lt (g := gb209) (by (with_reducible repeat (first | apply zn | apply zd | apply za)); exact BK209.out)) : gb210 ≠ gb209)); clear BK209 HB; have BK209 := n0_; have HB := n1_; have BK210 := n2_; have GW210 := n3_; have GE210 := n4_; have NB209_210 := n5_; have NB210_209 := n6_; clear n0_ n1_ n2_ n3_ n4_ n5_ n6_ hb hbox hg; have hnb7 := NB209_210.out; have hnc7 := NB210_209.out; have hcz8_0 : w6.cell? ⟨gb209, 0, none⟩ = some (.int .i64 a0_0) := (zc BK209.out 0).trans rfl; have hcz8_1 : w6.cell? ⟨gb209, 1, none⟩ = some (.string a0_1) := (zc BK209.out 1).trans rfl; have hcz8_2 : w6.cell? ⟨gb209, 2, none⟩ = some (.int .i64 a0_2) := (zc BK209.out 2).trans rfl; have hcz8_3 : w6.cell? ⟨gb209, 3, none⟩ = some (.int .i64 a0_3) := (zc BK209.out 3).trans rfl; have hcz8_4 : w6.cell? ⟨gb209, 4, none⟩ = some (.int .i64 a0_4) := (zc BK209.out 4).trans rfl; have hcz8_5 : w6.cell? ⟨gb209, 5, none⟩ = some (.int .i64 a0_5) := (zc BK209.out 5).trans rfl; have hcz8_6 : w6.cell? ⟨gb209, 6, none⟩ = some (.bool a0_6) := (zc BK209.out 6).trans rfl; have hcz8_7 : w6.cell? ⟨gb209, 7, none⟩ = some (.int .i64 a0_7) := (zc BK209.out 7).trans rfl; have hcz8_8 : w6.cell? ⟨gb209, 8, none⟩ = some (.int .i64 a0_8) := (zc BK209.out 8).trans rfl; have hfz8_0 := zf BK209.out 0; have hfz8_1 := zf BK209.out 1; have hfz8_2 := zf BK209.out 2; have hfz8_3 := zf BK209.out 3; have hfz8_4 := zf BK209.out 4; have hfz8_5 := zf BK209.out 5; have hfz8_6 := zf BK209.out 6; have hfz8_7 := zf BK209.out 7; have hfz8_8 := zf BK209.out 8; have hcz9_0 : w6.cell? ⟨gb210, 0, none⟩ = some (.int .i64 0) := (zc BK210.out 0).trans rfl; have hcz9_1 : w6.cell? ⟨gb210, 1, none⟩ = some (.string ⟨#[]⟩) := (zc BK210.out 1).trans rfl; have hcz9_2 : w6.cell? ⟨gb210, 2, none⟩ = some (.int .i64 0) := (zc BK210.out 2).trans rfl; have hcz9_3 : w6.cell? ⟨gb210, 3, none⟩ = some (.int .i64 0) := (zc BK210.out 3).trans rfl; have hcz9_4 : w6.cell? ⟨gb210, 4, none⟩ = some (.int .i64 0) := (zc BK210.out 4).trans rfl; have hcz9_5 : w6.cell? ⟨gb210, 5, none⟩ = some (.int .i64 0) := (zc BK210.out 5).trans rfl; have hcz9_6 : w6.cell? ⟨gb210, 6, none⟩ = some (.bool false) := (zc BK210.out 6).trans rfl; have hcz9_7 : w6.cell? ⟨gb210, 7, none⟩ = some (.int .i64 0) := (zc BK210.out 7).trans rfl; have hcz9_8 : w6.cell? ⟨gb210, 8, none⟩ = some (.int .i64 0) := (zc BK210.out 8).trans rfl; have hfz9_0 := zf BK210.out 0; have hfz9_1 := zf BK210.out 1; have hfz9_2 := zf BK210.out 2; have hfz9_3 := zf BK210.out 3; have hfz9_4 := zf BK210.out 4; have hfz9_5 := zf BK210.out 5; have hfz9_6 := zf BK210.out 6; have hfz9_7 := zf BK210.out 7; have hfz9_8 := zf BK210.out 8))
 refine bodyPost_ret (results_cell_row rfl _ _ gb210 31 #[.int .i64 a0_0, .string a0_1, .int .i64 a0_2, .int .i64 a1, .int .i64 a2, .int .i64 0, .bool false, .int .i64 a3, .int .i64 a0_8] (0, 0) _ rfl (by (with_reducible repeat (first | apply zn | apply zd | apply za)); refine zp (cs := #[.int .i64 a0_0, .string a0_1, .int .i64 a0_2, .int .i64 a1, .int .i64 a2, .int .i64 0, .bool false, .int .i64 a3, .int .i64 0]) ?_ 8 _ rfl; (with_reducible repeat (first | apply zn | apply zd | apply za)); refine zp (cs := #[.int .i64 a0_0, .string a0_1, .int .i64 a0_2, .int .i64 a1, .int .i64 a2, .int .i64 0, .bool false, .int .i64 0, .int .i64 0]) ?_ 7 _ rfl; (with_reducible repeat (first | apply zn | apply zd | apply za)); refine zp (cs := #[.int .i64 a0_0, .string a0_1, .int .i64 a0_2, .int .i64 a1, .int .i64 a2, .int .i64 0, .bool false, .int .i64 0, .int .i64 0]) ?_ 6 _ rfl; (with_reducible repeat (first | apply zn | apply zd | apply za)); refine zp (cs := #[.int .i64 a0_0, .string a0_1, .int .i64 a0_2, .int .i64 a1, .int .i64 a2, .int .i64 0, .bool false, .int .i64 0, .int .i64 0]) ?_ 5 _ rfl; (with_reducible repeat (first | apply zn | apply zd | apply za)); refine zp (cs := #[.int .i64 a0_0, .string a0_1, .int .i64 a0_2, .int .i64 a1, .int .i64 0, .int .i64 0, .bool false, .int .i64 0, .int .i64 0]) ?_ 4 _ rfl; (with_reducible repeat (first | apply zn | apply zd | apply za)); refine zp (cs := #[.int .i64 a0_0, .string a0_1, .int .i64 a0_2, .int .i64 0, .int .i64 0, .int .i64 0, .bool false, .int .i64 0, .int .i64 0]) ?_ 3 _ rfl; (with_reducible repeat (first | apply zn | apply zd | apply za)); refine zp (cs := #[.int .i64 a0_0, .string a0_1, .int .i64 0, .int .i64 0, .int .i64 0, .int .i64 0, .bool false, .int .i64 0, .int .i64 0]) ?_ 2 _ rfl; (with_reducible repeat (first | apply zn | apply zd | apply za)); refine zp (cs := #[.int .i64 a0_0, .string ⟨#[]⟩, .int .i64 0, .int .i64 0, .int .i64 0, .int .i64 0, .bool false, .int .i64 0, .int .i64 0]) ?_ 1 _ rfl; (with_reducible repeat (first | apply zn | apply zd | apply za)); refine zp (cs := #[.int .i64 0, .string ⟨#[]⟩, .int .i64 0, .int .i64 0, .int .i64 0, .int .i64 0, .bool false, .int .i64 0, .int .i64 0]) ?_ 0 _ rfl; (repeat (first | (with_reducible first | apply zn | apply zd | apply za) | refine zr ?_ NB210_209.out _)); (with_reducible repeat (first | apply zn | apply zd | apply za)); exact BK210.out) Tryd.underlying31 rfl (by kernel_rfl)) rfl ?_
 exact ⟨by first | rfl | simp [*], by repeat (first | (with_reducible first | exact HB.out | apply pa | apply pd | apply pe | refine zs ?_ GE209.out | refine zs ?_ GE210.out) | exact HB.out)⟩
def saga_back.f (a0_0 : Int) (a0_1 : ByteArray) (a0_2 : Int) (a0_3 : Int) (a0_4 : Int) (a0_5 : Int) (a0_6 : Bool) (a0_7 : Int) (a0_8 : Int) (a1 : Int) : Option (Int × ByteArray × Int × Int × Int × Int × Bool × Int × Int) := if a0_4 = 0 then ((saga_over.f a0_0 a0_1 a0_2 a0_3 a0_4 a0_5 a0_6 a0_7 a0_8 4).bind fun bt213 => (some (bt213.1, bt213.2.1, bt213.2.2.1, bt213.2.2.2.1, bt213.2.2.2.2.1, bt213.2.2.2.2.2.1, bt213.2.2.2.2.2.2.1, bt213.2.2.2.2.2.2.2.1, bt213.2.2.2.2.2.2.2.2))) else ((saga_at.f a0_0 a0_1 a0_2 a0_3 a0_4 a0_5 a0_6 a0_7 a0_8 1 (wrap64 (a0_4 - 1)) a1).bind fun bt222 => (some (bt222.1, bt222.2.1, bt222.2.2.1, bt222.2.2.2.1, bt222.2.2.2.2.1, bt222.2.2.2.2.2.1, bt222.2.2.2.2.2.2.1, bt222.2.2.2.2.2.2.2.1, bt222.2.2.2.2.2.2.2.2)))
theorem saga_back.calls (a0_0 : Int) (a0_1 : ByteArray) (a0_2 : Int) (a0_3 : Int) (a0_4 : Int) (a0_5 : Int) (a0_6 : Bool) (a0_7 : Int) (a0_8 : Int) (a1 : Int) (r1 : Int) (r2 : ByteArray) (r3 : Int) (r4 : Int) (r5 : Int) (r6 : Int) (r7 : Bool) (r8 : Int) (r9 : Int) (w : World) (h : saga_back.f a0_0 a0_1 a0_2 a0_3 a0_4 a0_5 a0_6 a0_7 a0_8 a1 = some (r1, r2, r3, r4, r5, r6, r7, r8, r9)) :
 Calls Tryd.prog 41 #[.agg #[.int .i64 a0_0, .string a0_1, .int .i64 a0_2, .int .i64 a0_3, .int .i64 a0_4, .int .i64 a0_5, .bool a0_6, .int .i64 a0_7, .int .i64 a0_8], .int .i64 a1] w fun e w' => e = .returned (.agg #[.int .i64 r1, .string r2, .int .i64 r3, .int .i64 r4, .int .i64 r5, .int .i64 r6, .bool r7, .int .i64 r8, .int .i64 r9]) ∧ Below w.heap.size w w' := by
 have hu31 := Tryd.underlying31
 have HB := ak_ (Below.refl w.heap.size w)
 have H : (if a0_4 = 0 then ((saga_over.f a0_0 a0_1 a0_2 a0_3 a0_4 a0_5 a0_6 a0_7 a0_8 4).bind fun bt213 => (some (bt213.1, bt213.2.1, bt213.2.2.1, bt213.2.2.2.1, bt213.2.2.2.2.1, bt213.2.2.2.2.2.1, bt213.2.2.2.2.2.2.1, bt213.2.2.2.2.2.2.2.1, bt213.2.2.2.2.2.2.2.2))) else ((saga_at.f a0_0 a0_1 a0_2 a0_3 a0_4 a0_5 a0_6 a0_7 a0_8 1 (wrap64 (a0_4 - 1)) a1).bind fun bt222 => (some (bt222.1, bt222.2.1, bt222.2.2.1, bt222.2.2.2.1, bt222.2.2.2.2.1, bt222.2.2.2.2.2.1, bt222.2.2.2.2.2.2.1, bt222.2.2.2.2.2.2.2.1, bt222.2.2.2.2.2.2.2.2)))) = some (r1, r2, r3, r4, r5, r6, r7, r8, r9) := h
 clear h
 have HF3 := ak_ H
 clear H
 go_enter Tryd.func41, Tryd.ntmps41
 go_upto_if 7 with (first | ((with_reducible refine gate_dst (N := 2) rfl ?_); refine box_event ?hg (N := 2) ?hd (cs := #[.int .i64 a0_0, .string a0_1, .int .i64 a0_2, .int .i64 a0_3, .int .i64 a0_4, .int .i64 a0_5, .bool a0_6, .int .i64 a0_7, .int .i64 a0_8]) (t := 31) ?hr ?_; (case hd | hg => rfl); (case hr => first | (go_simp; done) | (go_simp; rfl)); intro gb211 hg w4 hbox hb; have n0_ := ak_ (ps (by with_reducible repeat first | exact HB.out | apply pa | apply pd | apply pe) hb); have n1_ := ak_ (hbox); have n2_ := ak_ ((by rw [hg]; exact (below_size (by with_reducible repeat first | exact HB.out | apply pa | apply pd | apply pe)) : w.heap.size ≤ gb211)); have n3_ := ak_ ((by rw [hg]; exact (below_size (by with_reducible repeat first | exact HB.out | apply pa | apply pd | apply pe)) : w.heap.size ≤ gb211)); clear HB; have HB := n0_; have BK211 := n1_; have GW211 := n2_; have GE211 := n3_; clear n0_ n1_ n2_ n3_ hb hbox hg) | ((with_reducible refine gate_dst (N := 4) rfl ?_); refine box_event ?hg (N := 4) ?hd (cs := #[.int .i64 0, .string ⟨#[]⟩, .int .i64 0, .int .i64 0, .int .i64 0, .int .i64 0, .bool false, .int .i64 0, .int .i64 0]) (t := 31) ?hr ?_; (case hd | hg => rfl); (case hr => first | (go_simp; done) | (go_simp; rfl)); intro gb212 hg w5 hbox hb; have n0_ := ak_ (blk_below (g := gb211) (o := .cells #[.int .i64 a0_0, .string a0_1, .int .i64 a0_2, .int .i64 a0_3, .int .i64 a0_4, .int .i64 a0_5, .bool a0_6, .int .i64 a0_7, .int .i64 a0_8] 31 (0, 0)) (by (with_reducible repeat (first | apply zn | apply zd | apply za)); exact BK211.out) hb); have n1_ := ak_ (ps (by with_reducible repeat first | exact HB.out | apply pa | apply pd | apply pe | refine zs ?_ GE211.out) hb); have n2_ := ak_ (hbox); have n3_ := ak_ ((by rw [hg]; exact (below_size (by with_reducible repeat first | exact HB.out | apply pa | apply pd | apply pe | refine zs ?_ GE211.out)) : w.heap.size ≤ gb212)); have n4_ := ak_ ((by rw [hg]; exact (below_size (by with_reducible repeat first | exact HB.out | apply pa | apply pd | apply pe | refine zs ?_ GE211.out)) : w.heap.size ≤ gb212)); have n5_ := ak_ ((by rw [hg]; exact Nat.ne_of_lt (blk_lt (g := gb211) (by (with_reducible repeat (first | apply zn | apply zd | apply za)); exact BK211.out)) : gb211 ≠ gb212)); have n6_ := ak_ ((by rw [hg]; exact Nat.ne_of_gt (blk_lt (g := gb211) (by (with_reducible repeat (first | apply zn | apply zd | apply za)); exact BK211.out)) : gb212 ≠ gb211)); clear BK211 HB; have BK211 := n0_; have HB := n1_; have BK212 := n2_; have GW212 := n3_; have GE212 := n4_; have NB211_212 := n5_; have NB212_211 := n6_; clear n0_ n1_ n2_ n3_ n4_ n5_ n6_ hb hbox hg; have hnb6 := NB211_212.out; have hnc6 := NB212_211.out; have hcz7_0 : w5.cell? ⟨gb211, 0, none⟩ = some (.int .i64 a0_0) := (zc BK211.out 0).trans rfl; have hcz7_1 : w5.cell? ⟨gb211, 1, none⟩ = some (.string a0_1) := (zc BK211.out 1).trans rfl; have hcz7_2 : w5.cell? ⟨gb211, 2, none⟩ = some (.int .i64 a0_2) := (zc BK211.out 2).trans rfl; have hcz7_3 : w5.cell? ⟨gb211, 3, none⟩ = some (.int .i64 a0_3) := (zc BK211.out 3).trans rfl; have hcz7_4 : w5.cell? ⟨gb211, 4, none⟩ = some (.int .i64 a0_4) := (zc BK211.out 4).trans rfl; have hcz7_5 : w5.cell? ⟨gb211, 5, none⟩ = some (.int .i64 a0_5) := (zc BK211.out 5).trans rfl; have hcz7_6 : w5.cell? ⟨gb211, 6, none⟩ = some (.bool a0_6) := (zc BK211.out 6).trans rfl; have hcz7_7 : w5.cell? ⟨gb211, 7, none⟩ = some (.int .i64 a0_7) := (zc BK211.out 7).trans rfl; have hcz7_8 : w5.cell? ⟨gb211, 8, none⟩ = some (.int .i64 a0_8) := (zc BK211.out 8).trans rfl; have hfz7_0 := zf BK211.out 0; have hfz7_1 := zf BK211.out 1; have hfz7_2 := zf BK211.out 2; have hfz7_3 := zf BK211.out 3; have hfz7_4 := zf BK211.out 4; have hfz7_5 := zf BK211.out 5; have hfz7_6 := zf BK211.out 6; have hfz7_7 := zf BK211.out 7; have hfz7_8 := zf BK211.out 8))
 (try simp only [Act.put, sa_, sz_, ss_])
 have H := HF3.out
 clear HF3
 by_cases c8 : a0_4 = 0
 · rw [if_pos c8] at H
   have c8b0 : (a0_4 == 0) = true := beq_iff_eq.mpr c8
   have c8b1 : (a0_4 != 0) = false := bne_eq_false_iff_eq.mpr c8
   clear c8
   (first | rw [c8b0] | (simp only [i64_w, i32_w]; rw [c8b0]) | skip)
   replace H := ob_ H
   obtain ⟨⟨t213, t214, t215, t216, t217, t218, t219, t220, t221⟩, A90, H⟩ := H
   replace H : (some (t213, t214, t215, t216, t217, t218, t219, t220, t221)) = some (r1, r2, r3, r4, r5, r6, r7, r8, r9) := H
   have A9 := ak_ A90
   clear A90
   simp only [Option.some.injEq, Prod.mk.injEq] at H
   obtain ⟨rfl, rfl, rfl, rfl, rfl, rfl, rfl, rfl, rfl⟩ := H
   have hnb10 := NB211_212.out
   have hnc10 := NB212_211.out
   have hcz11_0 : w5.cell? ⟨gb211, 0, none⟩ = some (.int .i64 a0_0) := (zc BK211.out 0).trans rfl
   have hcz11_1 : w5.cell? ⟨gb211, 1, none⟩ = some (.string a0_1) := (zc BK211.out 1).trans rfl
   have hcz11_2 : w5.cell? ⟨gb211, 2, none⟩ = some (.int .i64 a0_2) := (zc BK211.out 2).trans rfl
   have hcz11_3 : w5.cell? ⟨gb211, 3, none⟩ = some (.int .i64 a0_3) := (zc BK211.out 3).trans rfl
   have hcz11_4 : w5.cell? ⟨gb211, 4, none⟩ = some (.int .i64 a0_4) := (zc BK211.out 4).trans rfl
   have hcz11_5 : w5.cell? ⟨gb211, 5, none⟩ = some (.int .i64 a0_5) := (zc BK211.out 5).trans rfl
   have hcz11_6 : w5.cell? ⟨gb211, 6, none⟩ = some (.bool a0_6) := (zc BK211.out 6).trans rfl
   have hcz11_7 : w5.cell? ⟨gb211, 7, none⟩ = some (.int .i64 a0_7) := (zc BK211.out 7).trans rfl
   have hcz11_8 : w5.cell? ⟨gb211, 8, none⟩ = some (.int .i64 a0_8) := (zc BK211.out 8).trans rfl
   have hfz11_0 := zf BK211.out 0
   have hfz11_1 := zf BK211.out 1
   have hfz11_2 := zf BK211.out 2
   have hfz11_3 := zf BK211.out 3
   have hfz11_4 := zf BK211.out 4
   have hfz11_5 := zf BK211.out 5
   have hfz11_6 := zf BK211.out 6
   have hfz11_7 := zf BK211.out 7
   have hfz11_8 := zf BK211.out 8
   go_wp2_with (first | ((with_reducible refine gate_callee (f := 71) rfl ?_); refine goesL_ (some 9) rfl rfl Tryd.func71 (by kernel_rfl) rfl #[.agg #[.int .i64 a0_0, .string a0_1, .int .i64 a0_2, .int .i64 a0_3, .int .i64 a0_4, .int .i64 a0_5, .bool a0_6, .int .i64 a0_7, .int .i64 a0_8], .int .i64 4] rfl (by (try simp only [mt_, mc_, mn_]); first | done | rfl) ?_; (with_reducible refine (saga_over.calls a0_0 a0_1 a0_2 a0_3 a0_4 a0_5 a0_6 a0_7 a0_8 4 t213 t214 t215 t216 t217 t218 t219 t220 t221 _ A9.out).mono ?_); rintro e w12 ⟨rfl, hb⟩; refine ⟨_, rfl, ?_⟩; have n0_ := ak_ (blk_below (g := gb211) (o := .cells #[.int .i64 a0_0, .string a0_1, .int .i64 a0_2, .int .i64 a0_3, .int .i64 a0_4, .int .i64 a0_5, .bool a0_6, .int .i64 a0_7, .int .i64 a0_8] 31 (0, 0)) (by (with_reducible repeat (first | apply zn | apply zd | apply za)); exact BK211.out) hb); have n1_ := ak_ (blk_below (g := gb212) (o := .cells #[.int .i64 0, .string ⟨#[]⟩, .int .i64 0, .int .i64 0, .int .i64 0, .int .i64 0, .bool false, .int .i64 0, .int .i64 0] 31 (0, 0)) (by (with_reducible repeat (first | apply zn | apply zd | apply za)); exact BK212.out) hb); have n2_ := ak_ (ps (by with_reducible repeat first | exact HB.out | apply pa | apply pd | apply pe | refine zs ?_ GE211.out | refine zs ?_ GE212.out) hb); clear BK211 BK212 HB; have BK211 := n0_; have BK212 := n1_; have HB := n2_; clear n0_ n1_ n2_; have hcz13_0 : w12.cell? ⟨gb212, 0, none⟩ = some (.int .i64 0) := (zc BK212.out 0).trans rfl; have hcz13_1 : w12.cell? ⟨gb212, 1, none⟩ = some (.string ⟨#[]⟩) := (zc BK212.out 1).trans rfl; have hcz13_2 : w12.cell? ⟨gb212, 2, none⟩ = some (.int .i64 0) := (zc BK212.out 2).trans rfl; have hcz13_3 : w12.cell? ⟨gb212, 3, none⟩ = some (.int .i64 0) := (zc BK212.out 3).trans rfl; have hcz13_4 : w12.cell? ⟨gb212, 4, none⟩ = some (.int .i64 0) := (zc BK212.out 4).trans rfl; have hcz13_5 : w12.cell? ⟨gb212, 5, none⟩ = some (.int .i64 0) := (zc BK212.out 5).trans rfl; have hcz13_6 : w12.cell? ⟨gb212, 6, none⟩ = some (.bool false) := (zc BK212.out 6).trans rfl; have hcz13_7 : w12.cell? ⟨gb212, 7, none⟩ = some (.int .i64 0) := (zc BK212.out 7).trans rfl; have hcz13_8 : w12.cell? ⟨gb212, 8, none⟩ = some (.int .i64 0) := (zc BK212.out 8).trans rfl; have hfz13_0 := zf BK212.out 0; have hfz13_1 := zf BK212.out 1; have hfz13_2 := zf BK212.out 2; have hfz13_3 := zf BK212.out 3; have hfz13_4 := zf BK212.out 4; have hfz13_5 := zf BK212.out 5; have hfz13_6 := zf BK212.out 6; have hfz13_7 := zf BK212.out 7; have hfz13_8 := zf BK212.out 8))
   refine bodyPost_ret (results_cell_row rfl _ _ gb212 31 #[.int .i64 t213, .string t214, .int .i64 t215, .int .i64 t216, .int .i64 t217, .int .i64 t218, .bool t219, .int .i64 t220, .int .i64 t221] (0, 0) _ rfl (by (with_reducible repeat (first | apply zn | apply zd | apply za)); refine zp (cs := #[.int .i64 t213, .string t214, .int .i64 t215, .int .i64 t216, .int .i64 t217, .int .i64 t218, .bool t219, .int .i64 t220, .int .i64 0]) ?_ 8 _ rfl; (with_reducible repeat (first | apply zn | apply zd | apply za)); refine zp (cs := #[.int .i64 t213, .string t214, .int .i64 t215, .int .i64 t216, .int .i64 t217, .int .i64 t218, .bool t219, .int .i64 0, .int .i64 0]) ?_ 7 _ rfl; (with_reducible repeat (first | apply zn | apply zd | apply za)); refine zp (cs := #[.int .i64 t213, .string t214, .int .i64 t215, .int .i64 t216, .int .i64 t217, .int .i64 t218, .bool false, .int .i64 0, .int .i64 0]) ?_ 6 _ rfl; (with_reducible repeat (first | apply zn | apply zd | apply za)); refine zp (cs := #[.int .i64 t213, .string t214, .int .i64 t215, .int .i64 t216, .int .i64 t217, .int .i64 0, .bool false, .int .i64 0, .int .i64 0]) ?_ 5 _ rfl; (with_reducible repeat (first | apply zn | apply zd | apply za)); refine zp (cs := #[.int .i64 t213, .string t214, .int .i64 t215, .int .i64 t216, .int .i64 0, .int .i64 0, .bool false, .int .i64 0, .int .i64 0]) ?_ 4 _ rfl; (with_reducible repeat (first | apply zn | apply zd | apply za)); refine zp (cs := #[.int .i64 t213, .string t214, .int .i64 t215, .int .i64 0, .int .i64 0, .int .i64 0, .bool false, .int .i64 0, .int .i64 0]) ?_ 3 _ rfl; (with_reducible repeat (first | apply zn | apply zd | apply za)); refine zp (cs := #[.int .i64 t213, .string t214, .int .i64 0, .int .i64 0, .int .i64 0, .int .i64 0, .bool false, .int .i64 0, .int .i64 0]) ?_ 2 _ rfl; (with_reducible repeat (first | apply zn | apply zd | apply za)); refine zp (cs := #[.int .i64 t213, .string ⟨#[]⟩, .int .i64 0, .int .i64 0, .int .i64 0, .int .i64 0, .bool false, .int .i64 0, .int .i64 0]) ?_ 1 _ rfl; (with_reducible repeat (first | apply zn | apply zd | apply za)); refine zp (cs := #[.int .i64 0, .string ⟨#[]⟩, .int .i64 0, .int .i64 0, .int .i64 0, .int .i64 0, .bool false, .int .i64 0, .int .i64 0]) ?_ 0 _ rfl; (with_reducible repeat (first | apply zn | apply zd | apply za)); exact BK212.out) Tryd.underlying31 rfl (by kernel_rfl)) rfl ?_
   exact ⟨by first | rfl | simp [*], by repeat (first | (with_reducible first | exact HB.out | apply pa | apply pd | apply pe | refine zs ?_ GE211.out | refine zs ?_ GE212.out) | exact HB.out)⟩
 rw [if_neg c8] at H
 have c8b0 : (a0_4 == 0) = false := beq_eq_false_iff_ne.mpr c8
 have c8b1 : (a0_4 != 0) = true := bne_iff_ne.mpr c8
 (first | rw [c8b0] | (simp only [i64_w, i32_w]; rw [c8b0]) | skip)
 replace H := ob_ H
 obtain ⟨⟨t222, t223, t224, t225, t226, t227, t228, t229, t230⟩, A140, H⟩ := H
 replace H : (some (t222, t223, t224, t225, t226, t227, t228, t229, t230)) = some (r1, r2, r3, r4, r5, r6, r7, r8, r9) := H
 have A14 := ak_ A140
 clear A140
 simp only [Option.some.injEq, Prod.mk.injEq] at H
 obtain ⟨rfl, rfl, rfl, rfl, rfl, rfl, rfl, rfl, rfl⟩ := H
 have hnb15 := NB211_212.out
 have hnc15 := NB212_211.out
 have hcz16_0 : w5.cell? ⟨gb211, 0, none⟩ = some (.int .i64 a0_0) := (zc BK211.out 0).trans rfl
 have hcz16_1 : w5.cell? ⟨gb211, 1, none⟩ = some (.string a0_1) := (zc BK211.out 1).trans rfl
 have hcz16_2 : w5.cell? ⟨gb211, 2, none⟩ = some (.int .i64 a0_2) := (zc BK211.out 2).trans rfl
 have hcz16_3 : w5.cell? ⟨gb211, 3, none⟩ = some (.int .i64 a0_3) := (zc BK211.out 3).trans rfl
 have hcz16_4 : w5.cell? ⟨gb211, 4, none⟩ = some (.int .i64 a0_4) := (zc BK211.out 4).trans rfl
 have hcz16_5 : w5.cell? ⟨gb211, 5, none⟩ = some (.int .i64 a0_5) := (zc BK211.out 5).trans rfl
 have hcz16_6 : w5.cell? ⟨gb211, 6, none⟩ = some (.bool a0_6) := (zc BK211.out 6).trans rfl
 have hcz16_7 : w5.cell? ⟨gb211, 7, none⟩ = some (.int .i64 a0_7) := (zc BK211.out 7).trans rfl
 have hcz16_8 : w5.cell? ⟨gb211, 8, none⟩ = some (.int .i64 a0_8) := (zc BK211.out 8).trans rfl
 have hfz16_0 := zf BK211.out 0
 have hfz16_1 := zf BK211.out 1
 have hfz16_2 := zf BK211.out 2
 have hfz16_3 := zf BK211.out 3
 have hfz16_4 := zf BK211.out 4
 have hfz16_5 := zf BK211.out 5
 have hfz16_6 := zf BK211.out 6
 have hfz16_7 := zf BK211.out 7
 have hfz16_8 := zf BK211.out 8
 go_wp2_with (first | ((with_reducible refine gate_callee (f := 72) rfl ?_); refine goesL_ (some 15) rfl rfl Tryd.func72 (by kernel_rfl) rfl #[.agg #[.int .i64 a0_0, .string a0_1, .int .i64 a0_2, .int .i64 a0_3, .int .i64 a0_4, .int .i64 a0_5, .bool a0_6, .int .i64 a0_7, .int .i64 a0_8], .int .i64 1, .int .i64 (wrap64 (a0_4 - 1)), .int .i64 a1] rfl (by (try simp only [mt_, mc_, mn_]); first | done | rfl) ?_; (with_reducible refine (saga_at.calls a0_0 a0_1 a0_2 a0_3 a0_4 a0_5 a0_6 a0_7 a0_8 1 (wrap64 (a0_4 - 1)) a1 t222 t223 t224 t225 t226 t227 t228 t229 t230 _ A14.out).mono ?_); rintro e w17 ⟨rfl, hb⟩; refine ⟨_, rfl, ?_⟩; have n0_ := ak_ (blk_below (g := gb211) (o := .cells #[.int .i64 a0_0, .string a0_1, .int .i64 a0_2, .int .i64 a0_3, .int .i64 a0_4, .int .i64 a0_5, .bool a0_6, .int .i64 a0_7, .int .i64 a0_8] 31 (0, 0)) (by (with_reducible repeat (first | apply zn | apply zd | apply za)); exact BK211.out) hb); have n1_ := ak_ (blk_below (g := gb212) (o := .cells #[.int .i64 0, .string ⟨#[]⟩, .int .i64 0, .int .i64 0, .int .i64 0, .int .i64 0, .bool false, .int .i64 0, .int .i64 0] 31 (0, 0)) (by (with_reducible repeat (first | apply zn | apply zd | apply za)); exact BK212.out) hb); have n2_ := ak_ (ps (by with_reducible repeat first | exact HB.out | apply pa | apply pd | apply pe | refine zs ?_ GE211.out | refine zs ?_ GE212.out) hb); clear BK211 BK212 HB; have BK211 := n0_; have BK212 := n1_; have HB := n2_; clear n0_ n1_ n2_; have hcz18_0 : w17.cell? ⟨gb212, 0, none⟩ = some (.int .i64 0) := (zc BK212.out 0).trans rfl; have hcz18_1 : w17.cell? ⟨gb212, 1, none⟩ = some (.string ⟨#[]⟩) := (zc BK212.out 1).trans rfl; have hcz18_2 : w17.cell? ⟨gb212, 2, none⟩ = some (.int .i64 0) := (zc BK212.out 2).trans rfl; have hcz18_3 : w17.cell? ⟨gb212, 3, none⟩ = some (.int .i64 0) := (zc BK212.out 3).trans rfl; have hcz18_4 : w17.cell? ⟨gb212, 4, none⟩ = some (.int .i64 0) := (zc BK212.out 4).trans rfl; have hcz18_5 : w17.cell? ⟨gb212, 5, none⟩ = some (.int .i64 0) := (zc BK212.out 5).trans rfl; have hcz18_6 : w17.cell? ⟨gb212, 6, none⟩ = some (.bool false) := (zc BK212.out 6).trans rfl; have hcz18_7 : w17.cell? ⟨gb212, 7, none⟩ = some (.int .i64 0) := (zc BK212.out 7).trans rfl; have hcz18_8 : w17.cell? ⟨gb212, 8, none⟩ = some (.int .i64 0) := (zc BK212.out 8).trans rfl; have hfz18_0 := zf BK212.out 0; have hfz18_1 := zf BK212.out 1; have hfz18_2 := zf BK212.out 2; have hfz18_3 := zf BK212.out 3; have hfz18_4 := zf BK212.out 4; have hfz18_5 := zf BK212.out 5; have hfz18_6 := zf BK212.out 6; have hfz18_7 := zf BK212.out 7; have hfz18_8 := zf BK212.out 8))
 refine bodyPost_ret (results_cell_row rfl _ _ gb212 31 #[.int .i64 t222, .string t223, .int .i64 t224, .int .i64 t225, .int .i64 t226, .int .i64 t227, .bool t228, .int .i64 t229, .int .i64 t230] (0, 0) _ rfl (by (with_reducible repeat (first | apply zn | apply zd | apply za)); refine zp (cs := #[.int .i64 t222, .string t223, .int .i64 t224, .int .i64 t225, .int .i64 t226, .int .i64 t227, .bool t228, .int .i64 t229, .int .i64 0]) ?_ 8 _ rfl; (with_reducible repeat (first | apply zn | apply zd | apply za)); refine zp (cs := #[.int .i64 t222, .string t223, .int .i64 t224, .int .i64 t225, .int .i64 t226, .int .i64 t227, .bool t228, .int .i64 0, .int .i64 0]) ?_ 7 _ rfl; (with_reducible repeat (first | apply zn | apply zd | apply za)); refine zp (cs := #[.int .i64 t222, .string t223, .int .i64 t224, .int .i64 t225, .int .i64 t226, .int .i64 t227, .bool false, .int .i64 0, .int .i64 0]) ?_ 6 _ rfl; (with_reducible repeat (first | apply zn | apply zd | apply za)); refine zp (cs := #[.int .i64 t222, .string t223, .int .i64 t224, .int .i64 t225, .int .i64 t226, .int .i64 0, .bool false, .int .i64 0, .int .i64 0]) ?_ 5 _ rfl; (with_reducible repeat (first | apply zn | apply zd | apply za)); refine zp (cs := #[.int .i64 t222, .string t223, .int .i64 t224, .int .i64 t225, .int .i64 0, .int .i64 0, .bool false, .int .i64 0, .int .i64 0]) ?_ 4 _ rfl; (with_reducible repeat (first | apply zn | apply zd | apply za)); refine zp (cs := #[.int .i64 t222, .string t223, .int .i64 t224, .int .i64 0, .int .i64 0, .int .i64 0, .bool false, .int .i64 0, .int .i64 0]) ?_ 3 _ rfl; (with_reducible repeat (first | apply zn | apply zd | apply za)); refine zp (cs := #[.int .i64 t222, .string t223, .int .i64 0, .int .i64 0, .int .i64 0, .int .i64 0, .bool false, .int .i64 0, .int .i64 0]) ?_ 2 _ rfl; (with_reducible repeat (first | apply zn | apply zd | apply za)); refine zp (cs := #[.int .i64 t222, .string ⟨#[]⟩, .int .i64 0, .int .i64 0, .int .i64 0, .int .i64 0, .bool false, .int .i64 0, .int .i64 0]) ?_ 1 _ rfl; (with_reducible repeat (first | apply zn | apply zd | apply za)); refine zp (cs := #[.int .i64 0, .string ⟨#[]⟩, .int .i64 0, .int .i64 0, .int .i64 0, .int .i64 0, .bool false, .int .i64 0, .int .i64 0]) ?_ 0 _ rfl; (with_reducible repeat (first | apply zn | apply zd | apply za)); exact BK212.out) Tryd.underlying31 rfl (by kernel_rfl)) rfl ?_
 exact ⟨by first | rfl | simp [*], by repeat (first | (with_reducible first | exact HB.out | apply pa | apply pd | apply pe | refine zs ?_ GE211.out | refine zs ?_ GE212.out) | exact HB.out)⟩
def tick_Times.f (a0 : Int) (a1 : Int) : Option (Int) := (tick_Of.f a0).bind fun t231 => ((tick_Of.f a1).bind fun t232 => (if t232 > 0 then (if t232 = 0 then (none) else (if t231 > (wrap64 (Int.tdiv (1099511627776 : Int) t232)) then (some 1099511627776) else (some (wrap64 (t231 * t232))))) else (some (wrap64 (t231 * t232)))))
theorem tick_Times.calls (a0 : Int) (a1 : Int) (r : Int) (w : World) (h : tick_Times.f a0 a1 = some r) :
 Calls Tryd.prog 81 #[.int .i64 a0, .int .i64 a1] w fun e w' => e = .returned (.int .i64 r) ∧ Below w.heap.size w w' := by
 have HB := ak_ (Below.refl w.heap.size w)
 have H : ((tick_Of.f a0).bind fun t231 => ((tick_Of.f a1).bind fun t232 => (if t232 > 0 then (if t232 = 0 then (none) else (if t231 > (wrap64 (Int.tdiv (1099511627776 : Int) t232)) then (some 1099511627776) else (some (wrap64 (t231 * t232))))) else (some (wrap64 (t231 * t232)))))) = some r := h
 clear h
 replace H := ob_ H
 obtain ⟨t231, A30, H⟩ := H
 replace H : ((tick_Of.f a1).bind fun t232 => (if t232 > 0 then (if t232 = 0 then (none) else (if t231 > (wrap64 (Int.tdiv (1099511627776 : Int) t232)) then (some 1099511627776) else (some (wrap64 (t231 * t232))))) else (some (wrap64 (t231 * t232))))) = some r := H
 have A3 := ak_ A30
 clear A30
 replace H := ob_ H
 obtain ⟨t232, A40, H⟩ := H
 replace H : (if t232 > 0 then (if t232 = 0 then (none) else (if t231 > (wrap64 (Int.tdiv (1099511627776 : Int) t232)) then (some 1099511627776) else (some (wrap64 (t231 * t232))))) else (some (wrap64 (t231 * t232)))) = some r := H
 have A4 := ak_ A40
 clear A40
 by_cases c5 : t232 > 0
 · rw [if_pos c5] at H
   have c5b0 : decide (0 < t232) = true := dt_ c5
   clear c5
   by_cases c6 : t232 = 0
   · rw [if_pos c6] at H
     exact absurd H (by simp)
   · rw [if_neg c6] at H
     have c6b0 : (t232 == 0) = false := beq_eq_false_iff_ne.mpr c6
     have c6b1 : (t232 != 0) = true := bne_iff_ne.mpr c6
     have HF7 := ak_ H
     clear H
     go_enter Tryd.func81, Tryd.ntmps81
     go_upto_if 16 with (first | ((with_reducible refine gate_callee (f := 33) rfl ?_); refine goesL_ (some 6) rfl rfl Tryd.func33 (by kernel_rfl) rfl #[.int .i64 a0] rfl (by (try simp only [mt_, mc_, mn_]); first | done | rfl) ?_; (with_reducible refine (tick_Of.calls a0 t231 _ A3.out).mono ?_); rintro e w8 ⟨rfl, hb⟩; refine ⟨_, rfl, ?_⟩; have n0_ := ak_ (below_step (by with_reducible repeat first | exact HB.out | apply below_alloc | apply pw_below_drewN | apply below_drew1) hb); clear HB; have HB := n0_; clear n0_) | ((with_reducible refine gate_callee (f := 33) rfl ?_); refine goesL_ (some 8) rfl rfl Tryd.func33 (by kernel_rfl) rfl #[.int .i64 a1] rfl (by (try simp only [mt_, mc_, mn_]); first | done | rfl) ?_; (with_reducible refine (tick_Of.calls a1 t232 _ A4.out).mono ?_); rintro e w9 ⟨rfl, hb⟩; refine ⟨_, rfl, ?_⟩; have n0_ := ak_ (below_step (by with_reducible repeat first | exact HB.out | apply below_alloc | apply pw_below_drewN | apply below_drew1) hb); clear HB; have HB := n0_; clear n0_))
     (try simp only [Act.put, sa_, sz_, ss_])
     have H := HF7.out
     clear HF7
     by_cases c10 : t231 > (wrap64 (Int.tdiv (1099511627776 : Int) t232))
     · rw [if_pos c10] at H
       have c10b0 : decide ((wrap64 (Int.tdiv (1099511627776 : Int) t232)) < t231) = true := dt_ c10
       clear c10
       (first | rw [c10b0] | (simp only [i64_w, i32_w]; rw [c10b0]) | skip)
       obtain rfl := Option.some.inj H
       go_wp2
       go_ret
       exact ⟨by first | rfl | simp [*], by repeat (first | (with_reducible first | exact HB.out | apply below_alloc | apply pw_below_drewN | apply below_drew1) | exact HB.out)⟩
     · rw [if_neg c10] at H
       have c10b0 : decide ((wrap64 (Int.tdiv (1099511627776 : Int) t232)) < t231) = false := df_ c10
       clear c10
       (first | rw [c10b0] | (simp only [i64_w, i32_w]; rw [c10b0]) | skip)
       obtain rfl := Option.some.inj H
       go_wp2
       go_ret
       exact ⟨by first | rfl | simp [*], by repeat (first | (with_reducible first | exact HB.out | apply below_alloc | apply pw_below_drewN | apply below_drew1) | exact HB.out)⟩
 · rw [if_neg c5] at H
   have c5b0 : decide (0 < t232) = false := df_ c5
   clear c5
   obtain rfl := Option.some.inj H
   go_enter Tryd.func81, Tryd.ntmps81
   go_wp2_with (first | ((with_reducible refine gate_callee (f := 33) rfl ?_); refine goesL_ (some 6) rfl rfl Tryd.func33 (by kernel_rfl) rfl #[.int .i64 a0] rfl (by (try simp only [mt_, mc_, mn_]); first | done | rfl) ?_; (with_reducible refine (tick_Of.calls a0 t231 _ A3.out).mono ?_); rintro e w11 ⟨rfl, hb⟩; refine ⟨_, rfl, ?_⟩; have n0_ := ak_ (below_step (by with_reducible repeat first | exact HB.out | apply below_alloc | apply pw_below_drewN | apply below_drew1) hb); clear HB; have HB := n0_; clear n0_) | ((with_reducible refine gate_callee (f := 33) rfl ?_); refine goesL_ (some 8) rfl rfl Tryd.func33 (by kernel_rfl) rfl #[.int .i64 a1] rfl (by (try simp only [mt_, mc_, mn_]); first | done | rfl) ?_; (with_reducible refine (tick_Of.calls a1 t232 _ A4.out).mono ?_); rintro e w12 ⟨rfl, hb⟩; refine ⟨_, rfl, ?_⟩; have n0_ := ak_ (below_step (by with_reducible repeat first | exact HB.out | apply below_alloc | apply pw_below_drewN | apply below_drew1) hb); clear HB; have HB := n0_; clear n0_))
   go_ret
   exact ⟨by first | rfl | simp [*], by repeat (first | (with_reducible first | exact HB.out | apply below_alloc | apply pw_below_drewN | apply below_drew1) | exact HB.out)⟩
def tick_Pow.l0 : Nat → Int → Int → Int → Int → Option (Int)
 | 0, _, _, _, _ => none
 | k + 1, x0, x5, x15, x16 => if x16 < x15 then ((tick_Times.f x5 x0).bind fun t235 => (if t235 = 1099511627776 then (some t235) else (tick_Pow.l0 k x0 t235 x15 (wrap64 (x16 + 1))))) else (some x5)
def tick_Pow.f (k : Nat) (a0 : Int) (a1 : Int) : Option (Int) := (tick_Of.f a0).bind fun t233 => ((tick_Of.f a1).bind fun t234 => (if t233 < 2 then (if t234 = 0 then (some 1) else (some t233)) else (tick_Pow.l0 k t233 1 t234 0)))
theorem tick_Pow.calls (k : Nat) (a0 : Int) (a1 : Int) (r : Int) (w : World) (h : tick_Pow.f k a0 a1 = some r) :
 Calls Tryd.prog 82 #[.int .i64 a0, .int .i64 a1] w fun e w' => e = .returned (.int .i64 r) ∧ Below w.heap.size w w' := by
 have HB := ak_ (Below.refl w.heap.size w)
 have H : ((tick_Of.f a0).bind fun t233 => ((tick_Of.f a1).bind fun t234 => (if t233 < 2 then (if t234 = 0 then (some 1) else (some t233)) else (tick_Pow.l0 k t233 1 t234 0)))) = some r := h
 clear h
 replace H := ob_ H
 obtain ⟨t233, A30, H⟩ := H
 replace H : ((tick_Of.f a1).bind fun t234 => (if t233 < 2 then (if t234 = 0 then (some 1) else (some t233)) else (tick_Pow.l0 k t233 1 t234 0))) = some r := H
 have A3 := ak_ A30
 clear A30
 replace H := ob_ H
 obtain ⟨t234, A40, H⟩ := H
 replace H : (if t233 < 2 then (if t234 = 0 then (some 1) else (some t233)) else (tick_Pow.l0 k t233 1 t234 0)) = some r := H
 have A4 := ak_ A40
 clear A40
 have HF5 := ak_ H
 clear H
 go_enter Tryd.func82, Tryd.ntmps82
 (go_wp2)
 go_step3
 go_upto_if 11 with (first | ((with_reducible refine gate_callee (f := 33) rfl ?_); refine goesL_ (some 7) rfl rfl Tryd.func33 (by kernel_rfl) rfl #[.int .i64 a0] rfl (by simp only [mt_, mc_, mn_] <;> rfl) ?_; (with_reducible refine (tick_Of.calls a0 t233 _ A3.out).mono ?_); rintro e w6 ⟨rfl, hb⟩; refine ⟨_, rfl, ?_⟩; have n0_ := ak_ (ps (by with_reducible repeat first | exact HB.out | apply pa | apply pd | apply pe) hb); clear HB; have HB := n0_; clear n0_) | ((with_reducible refine gate_callee (f := 33) rfl ?_); refine goesL_ (some 9) rfl rfl Tryd.func33 (by kernel_rfl) rfl #[.int .i64 a1] rfl (by simp only [mt_, mc_, mn_] <;> rfl) ?_; (with_reducible refine (tick_Of.calls a1 t234 _ A4.out).mono ?_); rintro e w7 ⟨rfl, hb⟩; refine ⟨_, rfl, ?_⟩; have n0_ := ak_ (ps (by with_reducible repeat first | exact HB.out | apply pa | apply pd | apply pe) hb); clear HB; have HB := n0_; clear n0_))
 (try simp only [Act.put, sa_, sz_, ss_])
 have H := HF5.out
 clear HF5
 by_cases c8 : t233 < 2
 · rw [if_pos c8] at H
   have c8b0 : decide (t233 < 2) = true := dt_ c8
   clear c8
   (first | rw [c8b0] | (simp only [i64_w, i32_w]; rw [c8b0]) | skip)
   have HF9 := ak_ H
   clear H
   go_upto_if 13 with (fail)
   have H := HF9.out
   clear HF9
   by_cases c10 : t234 = 0
   · rw [if_pos c10] at H
     have c10b0 : (t234 == 0) = true := beq_iff_eq.mpr c10
     have c10b1 : (t234 != 0) = false := bne_eq_false_iff_eq.mpr c10
     clear c10
     (first | rw [c10b0] | (simp only [i64_w, i32_w]; rw [c10b0]) | skip)
     obtain rfl := Option.some.inj H
     go_wp2
     try (go_step3; go_wp2)
     (try rw [Exit.noGoto_ret])
     go_ret
     exact ⟨by first | rfl | simp [*], by repeat (first | (with_reducible first | exact HB.out | apply pa | apply pd | apply pe) | exact HB.out)⟩
   rw [if_neg c10] at H
   have c10b0 : (t234 == 0) = false := beq_eq_false_iff_ne.mpr c10
   have c10b1 : (t234 != 0) = true := bne_iff_ne.mpr c10
   (first | rw [c10b0] | (simp only [i64_w, i32_w]; rw [c10b0]) | skip)
   obtain rfl := Option.some.inj H
   go_wp2
   try (go_step3; go_wp2)
   (try rw [Exit.noGoto_ret])
   go_ret
   exact ⟨by first | rfl | simp [*], by repeat (first | (with_reducible first | exact HB.out | apply pa | apply pd | apply pe) | exact HB.out)⟩
 rw [if_neg c8] at H
 have c8b0 : decide (t233 < 2) = false := df_ c8
 clear c8
 (first | rw [c8b0] | (simp only [i64_w, i32_w]; rw [c8b0]) | skip)
 have H' := ak_ H
 clear H
 go_wp2
 try (go_step3; go_wp2)
 go_loopg [5, 16] k (fun kq v5 v16 w' => ∃ (x5_1 : Int) (x16_1 : Int), v5 = .int .i64 x5_1 ∧ v16 = .int .i64 x16_1 ∧ Aside0 (tick_Pow.l0 kq t233 x5_1 t234 x16_1 = some r) ∧ Aside0 (kq ≤ k) ∧ Aside0 (Below w.heap.size w w'))
 case atStart => exact ⟨(1), (0), (by first | rfl | simp [*]), (by first | rfl | simp [*]), H', ⟨Nat.le_refl _⟩, ⟨by repeat (first | (with_reducible first | exact HB.out | apply pa | apply pd | apply pe) | exact HB.out)⟩⟩
 case round =>
  clear H'
  try clear c1
  try clear p2
  try clear c3
  try clear c8
  try clear c8b0
  try clear c10
  try clear c10b0
  try clear c10b1
  obtain ⟨x5_1, x16_1, rfl, rfl, HA, HK1, HB⟩ := hrel
  cases gk with
  | zero => exact absurd HA.out (by simp [tick_Pow.l0])
  | succ k1 =>
   have H := HA.out
   clear HA
   simp only [tick_Pow.l0] at H
   have HF11 := ak_ H
   clear H
   go_upto_if 17 with (fail)
   have H := HF11.out
   clear HF11
   by_cases c12 : x16_1 < t234
   · rw [if_pos c12] at H
     have c12b0 : decide (x16_1 < t234) = true := dt_ c12
     clear c12
     (first | rw [c12b0] | (simp only [i64_w, i32_w]; rw [c12b0]) | skip)
     replace H := ob_ H
     obtain ⟨t235, A130, H⟩ := H
     replace H : (if t235 = 1099511627776 then (some t235) else (tick_Pow.l0 k1 t233 t235 t234 (wrap64 (x16_1 + 1)))) = some r := H
     have A13 := ak_ A130
     clear A130
     have HF14 := ak_ H
     clear H
     go_upto_if 22 with (first | ((with_reducible refine gate_callee (f := 81) rfl ?_); refine goesL_ (some 20) rfl rfl Tryd.func81 (by kernel_rfl) rfl #[.int .i64 x5_1, .int .i64 t233] rfl (by simp only [mt_, mc_, mn_] <;> rfl) ?_; (with_reducible refine (tick_Times.calls x5_1 t233 t235 _ A13.out).mono ?_); rintro e w15 ⟨rfl, hb⟩; refine ⟨_, rfl, ?_⟩; have n0_ := ak_ (ps (by with_reducible repeat first | exact HB.out | apply pa | apply pd | apply pe) hb); clear HB; have HB := n0_; clear n0_))
     (try simp only [Act.put, sa_, sz_, ss_])
     have H := HF14.out
     clear HF14
     by_cases c16 : t235 = 1099511627776
     · rw [if_pos c16] at H
       have c16b0 : (t235 == 1099511627776) = true := beq_iff_eq.mpr c16
       have c16b1 : (t235 != 1099511627776) = false := bne_eq_false_iff_eq.mpr c16
       clear c16
       (first | rw [c16b0] | (simp only [i64_w, i32_w]; rw [c16b0]) | skip)
       obtain rfl := Option.some.inj H
       go_wp2
       try (go_step3; go_wp2)
       (try rw [Exit.noGoto_ret])
       go_ret
       exact ⟨by first | rfl | simp [*], by repeat (first | (with_reducible first | exact HB.out | apply pa | apply pd | apply pe) | exact HB.out)⟩
     rw [if_neg c16] at H
     have c16b0 : (t235 == 1099511627776) = false := beq_eq_false_iff_ne.mpr c16
     have c16b1 : (t235 != 1099511627776) = true := bne_iff_ne.mpr c16
     (first | rw [c16b0] | (simp only [i64_w, i32_w]; rw [c16b0]) | skip)
     have H' := ak_ H
     clear H
     go_wp2
     try (go_step3; go_wp2)
     go_roundg k1
     case measure => have := HK1.out; omega
     case rel => exact ⟨(t235), (wrap64 (x16_1 + 1)), (by first | rfl | simp [*]), (by first | rfl | simp [*]), H', ⟨by have := HK1.out; omega⟩, ⟨by repeat (first | (with_reducible first | exact HB.out | apply pa | apply pd | apply pe) | exact HB.out)⟩⟩
   rw [if_neg c12] at H
   have c12b0 : decide (x16_1 < t234) = false := df_ c12
   clear c12
   (first | rw [c12b0] | (simp only [i64_w, i32_w]; rw [c12b0]) | skip)
   obtain rfl := Option.some.inj H
   go_wp2
   try (go_step3; go_wp2)
   (try rw [Exit.noGoto_ret])
   go_ret
   exact ⟨by first | rfl | simp [*], by repeat (first | (with_reducible first | exact HB.out | apply pa | apply pd | apply pe) | exact HB.out)⟩
def backoff_Wait.j0 : Nat → Int → Bool → Int → Int → Int → Int → Option (Int)
 | 0, _, _, _, _, _, _ => none
 | k + 1, x1, x11, x237000, x237001, x237002, x237003 => if x11 = true then (some 0) else ((tick_Pow.f k x237002 x1).bind fun t238 => ((tick_Times.f x237001 t238).bind fun t239 => (some (mn t239 x237003))))
def backoff_Wait.f (k : Nat) (a0_0 : Int) (a0_1 : Int) (a0_2 : Int) (a0_3 : Int) (a1 : Int) : Option (Int) := (backoff_Good.f a0_0 a0_1 a0_2 a0_3).bind fun t237 => (if t237 = true then (backoff_Wait.j0 k a1 (decide (a1 < 0)) a0_0 a0_1 a0_2 a0_3) else (backoff_Wait.j0 k a1 true a0_0 a0_1 a0_2 a0_3))
def backoff_Wait.T3 : Bool × List (List Nat × List Nat) := (true, [([], []), ([0], [0]), ([], []), ([2], [2]), ([], []), ([3, 4], [3, 4]), ([1, 5, 5], [1, 5]), ([], []), ([7], [7]), ([6, 8], [6, 8]), ([9, 6, 0, 1, 2, 3, 4, 5, 6, 7, 8, 9], [9])])
def backoff_Wait.B3 : List Nat := [0, 1, 0, 4, 0, 28, 63, 0, 128, 511, 1023]
theorem backoff_Wait.tab3 : rtab .any (opsOf Tryd.f73 3) = backoff_Wait.T3 := by kernel_rfl
theorem backoff_Wait.bits3 : waitsOk backoff_Wait.T3.2 backoff_Wait.B3 = true := by kernel_rfl
theorem backoff_Wait.calls (k : Nat) (a0_0 : Int) (a0_1 : Int) (a0_2 : Int) (a0_3 : Int) (a1 : Int) (r : Int) (w : World) (h : backoff_Wait.f k a0_0 a0_1 a0_2 a0_3 a1 = some r) :
 Calls Tryd.prog 73 #[.agg #[.int .i64 a0_0, .int .i64 a0_1, .int .i64 a0_2, .int .i64 a0_3], .int .i64 a1] w fun e w' => e = .returned (.int .i64 r) ∧ Below w.heap.size w w' := by
 have hu54 := Tryd.underlying54
 have HB := ak_ (Below.refl w.heap.size w)
 have H : ((backoff_Good.f a0_0 a0_1 a0_2 a0_3).bind fun t237 => (if t237 = true then (backoff_Wait.j0 k a1 (decide (a1 < 0)) a0_0 a0_1 a0_2 a0_3) else (backoff_Wait.j0 k a1 true a0_0 a0_1 a0_2 a0_3))) = some r := h
 clear h
 have HC3 := ak_ H
 clear H
 go_enter Tryd.func73, Tryd.ntmps73
 go_upto_region 1 with (first | ((with_reducible refine gate_dst (N := 2) rfl ?_); refine box_event ?hg (N := 2) ?hd (cs := #[.int .i64 a0_0, .int .i64 a0_1, .int .i64 a0_2, .int .i64 a0_3]) (t := 54) ?hr ?_; (case hd | hg => rfl); (case hr => first | (go_simp; done) | (go_simp; rfl)); intro gb236 hg w4 hbox hb; have n0_ := ak_ (ps (by with_reducible repeat first | exact HB.out | apply pa | apply pd | apply pe) hb); have n1_ := ak_ (hbox); have n2_ := ak_ ((by rw [hg]; exact (below_size (by with_reducible repeat first | exact HB.out | apply pa | apply pd | apply pe)) : w.heap.size ≤ gb236)); have n3_ := ak_ ((by rw [hg]; exact (below_size (by with_reducible repeat first | exact HB.out | apply pa | apply pd | apply pe)) : w.heap.size ≤ gb236)); clear HB; have HB := n0_; have BK236 := n1_; have GW236 := n2_; have GE236 := n3_; clear n0_ n1_ n2_ n3_ hb hbox hg))
 (try simp only [Act.put, sa_, sz_, ss_])
 go_cut [11] (fun v11 wc => ∃ (kq : Nat) (x11_2 : Bool), v11 = .bool x11_2 ∧ Aside0 (backoff_Wait.j0 kq a1 x11_2 a0_0 a0_1 a0_2 a0_3 = some r) ∧ Aside0 (kq ≤ k) ∧ Aside0 (wc.heap[gb236]? = some (.cells #[.int .i64 a0_0, .int .i64 a0_1, .int .i64 a0_2, .int .i64 a0_3] 54 (0, 0))) ∧ Aside0 (Below w.heap.size w wc))
 case first =>
  have H := HC3.out
  clear HC3
  replace H := ob_ H
  obtain ⟨t237, A50, H⟩ := H
  replace H : (if t237 = true then (backoff_Wait.j0 k a1 (decide (a1 < 0)) a0_0 a0_1 a0_2 a0_3) else (backoff_Wait.j0 k a1 true a0_0 a0_1 a0_2 a0_3)) = some r := H
  have A5 := ak_ A50
  clear A50
  by_cases c6 : t237 = true
  · subst c6
    have H1 : (backoff_Wait.j0 k a1 (decide (a1 < 0)) a0_0 a0_1 a0_2 a0_3) = some r := by rw [if_pos rfl] at H; exact H
    clear H
    have H := H1
    clear H1
    have H' := ak_ H
    clear H
    have hcz7_0 : w4.cell? ⟨gb236, 0, none⟩ = some (.int .i64 a0_0) := (zc BK236.out 0).trans rfl
    have hcz7_1 : w4.cell? ⟨gb236, 1, none⟩ = some (.int .i64 a0_1) := (zc BK236.out 1).trans rfl
    have hcz7_2 : w4.cell? ⟨gb236, 2, none⟩ = some (.int .i64 a0_2) := (zc BK236.out 2).trans rfl
    have hcz7_3 : w4.cell? ⟨gb236, 3, none⟩ = some (.int .i64 a0_3) := (zc BK236.out 3).trans rfl
    have hfz7_0 := zf BK236.out 0
    have hfz7_1 := zf BK236.out 1
    have hfz7_2 := zf BK236.out 2
    have hfz7_3 := zf BK236.out 3
    go_wp2_with (first | ((with_reducible refine gate_callee (f := 77) rfl ?_); refine goesL_ (some 6) rfl rfl Tryd.func77 (by kernel_rfl) rfl #[.agg #[.int .i64 a0_0, .int .i64 a0_1, .int .i64 a0_2, .int .i64 a0_3]] rfl (by (try simp only [mt_, mc_, mn_]); first | done | rfl) ?_; (with_reducible refine (backoff_Good.calls a0_0 a0_1 a0_2 a0_3 true _ A5.out).mono ?_); rintro e w8 ⟨rfl, hb⟩; refine ⟨_, rfl, ?_⟩; have n0_ := ak_ (blk_below (g := gb236) (o := .cells #[.int .i64 a0_0, .int .i64 a0_1, .int .i64 a0_2, .int .i64 a0_3] 54 (0, 0)) (by (with_reducible repeat (first | apply zn | apply zd | apply za)); exact BK236.out) hb); have n1_ := ak_ (ps (by with_reducible repeat first | exact HB.out | apply pa | apply pd | apply pe | refine zs ?_ GE236.out) hb); clear BK236 HB; have BK236 := n0_; have HB := n1_; clear n0_ n1_))
    go_meet
    case rel => exact ⟨_, (decide (a1 < 0)), (by first | rfl | simp [*]), H', ⟨by first | omega | exact Nat.le_refl _⟩, ⟨by (with_reducible repeat (first | apply zn | apply zd | apply za)); exact BK236.out⟩, ⟨by repeat (first | (with_reducible first | exact HB.out | apply pa | apply pd | apply pe | refine zs ?_ GE236.out) | exact HB.out)⟩⟩
  replace c6 := Bool.eq_false_iff.mpr c6
  subst c6
  have H1 : (backoff_Wait.j0 k a1 true a0_0 a0_1 a0_2 a0_3) = some r := by rw [if_neg (show ¬ (false = true) by decide)] at H; exact H
  clear H
  have H := H1
  clear H1
  have H' := ak_ H
  clear H
  have hcz9_0 : w4.cell? ⟨gb236, 0, none⟩ = some (.int .i64 a0_0) := (zc BK236.out 0).trans rfl
  have hcz9_1 : w4.cell? ⟨gb236, 1, none⟩ = some (.int .i64 a0_1) := (zc BK236.out 1).trans rfl
  have hcz9_2 : w4.cell? ⟨gb236, 2, none⟩ = some (.int .i64 a0_2) := (zc BK236.out 2).trans rfl
  have hcz9_3 : w4.cell? ⟨gb236, 3, none⟩ = some (.int .i64 a0_3) := (zc BK236.out 3).trans rfl
  have hfz9_0 := zf BK236.out 0
  have hfz9_1 := zf BK236.out 1
  have hfz9_2 := zf BK236.out 2
  have hfz9_3 := zf BK236.out 3
  go_wp2_with (first | ((with_reducible refine gate_callee (f := 77) rfl ?_); refine goesL_ (some 6) rfl rfl Tryd.func77 (by kernel_rfl) rfl #[.agg #[.int .i64 a0_0, .int .i64 a0_1, .int .i64 a0_2, .int .i64 a0_3]] rfl (by (try simp only [mt_, mc_, mn_]); first | done | rfl) ?_; (with_reducible refine (backoff_Good.calls a0_0 a0_1 a0_2 a0_3 false _ A5.out).mono ?_); rintro e w10 ⟨rfl, hb⟩; refine ⟨_, rfl, ?_⟩; have n0_ := ak_ (blk_below (g := gb236) (o := .cells #[.int .i64 a0_0, .int .i64 a0_1, .int .i64 a0_2, .int .i64 a0_3] 54 (0, 0)) (by (with_reducible repeat (first | apply zn | apply zd | apply za)); exact BK236.out) hb); have n1_ := ak_ (ps (by with_reducible repeat first | exact HB.out | apply pa | apply pd | apply pe | refine zs ?_ GE236.out) hb); clear BK236 HB; have BK236 := n0_; have HB := n1_; clear n0_ n1_))
  go_meet
  case rel => exact ⟨_, (true), (by first | rfl | simp [*]), H', ⟨by first | omega | exact Nat.le_refl _⟩, ⟨by (with_reducible repeat (first | apply zn | apply zd | apply za)); exact BK236.out⟩, ⟨by repeat (first | (with_reducible first | exact HB.out | apply pa | apply pd | apply pe | refine zs ?_ GE236.out) | exact HB.out)⟩⟩
 case rest =>
  clear HC3
  try clear p2
  try clear c6
  try clear c7
  try clear hcz7_0
  try clear hcz7_1
  try clear hcz7_2
  try clear hcz7_3
  try clear hcz9_0
  try clear hcz9_1
  try clear hcz9_2
  try clear hcz9_3
  try clear hfz7_0
  try clear hfz7_1
  try clear hfz7_2
  try clear hfz7_3
  try clear hfz9_0
  try clear hfz9_1
  try clear hfz9_2
  try clear hfz9_3
  obtain ⟨kq, x11_2, rfl, HA, HJ2, BK236, HB⟩ := hcut
  cases kq with
  | zero => exact absurd HA.out (by simp [backoff_Wait.j0])
  | succ kj2 =>
   have H := HA.out
   clear HA
   simp only [backoff_Wait.j0] at H
   have HF11 := ak_ H
   clear H
   go_upto_if 11 with (fail)
   have H := HF11.out
   clear HF11
   by_cases c12 : x11_2 = true
   · subst c12
     have H1 : (some 0) = some r := by rw [if_pos rfl] at H; exact H
     clear H
     have H := H1
     clear H1
     obtain rfl := Option.some.inj H
     go_wp2
     go_ret
     exact ⟨by first | rfl | simp [*], by repeat (first | (with_reducible first | exact HB.out | apply pa | apply pd | apply pe | refine zs ?_ GE236.out) | exact HB.out)⟩
   replace c12 := Bool.eq_false_iff.mpr c12
   subst c12
   have H1 : ((tick_Pow.f kj2 a0_2 a1).bind fun t238 => ((tick_Times.f a0_1 t238).bind fun t239 => (some (mn t239 a0_3)))) = some r := by rw [if_neg (show ¬ (false = true) by decide)] at H; exact H
   clear H
   have H := H1
   clear H1
   replace H := ob_ H
   obtain ⟨t238, A130, H⟩ := H
   replace H : ((tick_Times.f a0_1 t238).bind fun t239 => (some (mn t239 a0_3))) = some r := H
   have A13 := ak_ A130
   clear A130
   replace H := ob_ H
   obtain ⟨t239, A140, H⟩ := H
   replace H : (some (mn t239 a0_3)) = some r := H
   have A14 := ak_ A140
   clear A140
   obtain ⟨ji15, hji15⟩ : ∃ j_ : Int, (mn t239 a0_3) = j_ := ⟨_, rfl⟩
   replace H : (some ji15) = some r := by first | (rw [hji15] at H; exact H) | (simp only [hji15] at H ⊢; exact H)
   (try rw [hji15] at A13)
   (try rw [hji15] at A14)
   have hji15_ : (if a0_3 < t239 then a0_3 else t239) = ji15 := hji15
   obtain rfl := Option.some.inj H
   try go_wp2
   have n0_ := ak_ (zd BK236.out)
   have n1_ := ak_ (pe HB.out)
   clear BK236 HB
   have BK236 := n0_
   have HB := n1_
   clear n0_ n1_
   refine start_ (n := 11) (S := fun w' => w'.cell? ⟨gb236, 0, none⟩ = some (.int .i64 a0_0) ∧ w'.cell? ⟨gb236, 1, none⟩ = some (.int .i64 a0_1) ∧ w'.cell? ⟨gb236, 2, none⟩ = some (.int .i64 a0_2) ∧ w'.cell? ⟨gb236, 3, none⟩ = some (.int .i64 a0_3)) (ds := []) #[false, false, false, false, false, false, false, false, false, false, false] (by kernel_rfl) rfl rfl ⟨(zc BK236.out 0).trans rfl, (zc BK236.out 1).trans rfl, (zc BK236.out 2).trans rfl, (zc BK236.out 3).trans rfl⟩ (fun hHeld => ?_); refine with_tabW backoff_Wait.tab3 backoff_Wait.bits3 (fun HT_ HW_ => ?_)
   generalize wc.drew = w16 at BK236 HB hHeld ⊢
   refine pure_ (i := 0) (N := some 12) (v := ?_) (a' := ?_) (b_ 11 1) rfl rfl (any_of HT_.out (by kernel_rfl)) (fun _ _ _ h => h) (Or.inl ⟨by rfl, ?_⟩) ?_ ?_; rotate_left; (· intro w'; go_simp; with_reducible rfl); rotate_left; (· simp only [Act.put, sa_, sz_, ss_, i64_w, i32_w]; rfl)
   refine pure_ (i := 2) (N := some 14) (v := ?_) (a' := ?_) (b_ 11 5) rfl rfl (any_of HT_.out (by kernel_rfl)) (fun _ _ _ h => h) (Or.inl ⟨by rfl, ?_⟩) ?_ ?_; rotate_left; (· intro w'; go_simp; with_reducible rfl); rotate_left; (· simp only [Act.put, sa_, sz_, ss_, i64_w, i32_w]; rfl)
   refine pure_ (i := 4) (N := some 16) (v := ?_) (a' := ?_) (b_ 11 21) rfl rfl (any_of HT_.out (by kernel_rfl)) (fun _ _ _ h => h) (Or.inl ⟨by rfl, ?_⟩) ?_ ?_; rotate_left; (· intro w'; go_simp; with_reducible rfl); rotate_left; (· simp only [Act.put, sa_, sz_, ss_, i64_w, i32_w]; rfl)
   refine pure_ (i := 7) (N := some 19) (v := ?_) (a' := ?_) (b_ 11 149) rfl rfl (any_of HT_.out (by kernel_rfl)) (fun _ _ _ h => h) (Or.inl ⟨by rfl, ?_⟩) ?_ ?_; rotate_left; (· intro w'; go_simp; with_reducible rfl); rotate_left; (· simp only [Act.put, sa_, sz_, ss_, i64_w, i32_w]; rfl)
   refine take_ (i := 1) (N := some 13) (v := ?_) (a' := ?_) (b_ 11 151) rfl rfl (take_ofW HT_.out HW_.out (by kernel_rfl)) (fun _ _ _ h => h) (Or.inl ⟨by rfl, ?_⟩) hHeld ?_ ?_
   rotate_left
   · rintro w' ⟨s0, s1, s2, s3⟩
     go_simp
     with_reducible rfl
   rotate_left
   · simp only [Act.put, sa_, sz_, ss_, i64_w, i32_w]
     rfl
   refine take_ (i := 3) (N := some 15) (v := ?_) (a' := ?_) (b_ 11 159) rfl rfl (take_ofW HT_.out HW_.out (by kernel_rfl)) (fun _ _ _ h => h) (Or.inl ⟨by rfl, ?_⟩) hHeld ?_ ?_
   rotate_left
   · rintro w' ⟨s0, s1, s2, s3⟩
     go_simp
     with_reducible rfl
   rotate_left
   · simp only [Act.put, sa_, sz_, ss_, i64_w, i32_w]
     rfl
   refine take_ (i := 8) (N := some 20) (v := ?_) (a' := ?_) (b_ 11 415) rfl rfl (take_ofW HT_.out HW_.out (by kernel_rfl)) (fun _ _ _ h => h) (Or.inl ⟨by rfl, ?_⟩) hHeld ?_ ?_
   rotate_left
   · rintro w' ⟨s0, s1, s2, s3⟩
     go_simp
     with_reducible rfl
   rotate_left
   · simp only [Act.put, sa_, sz_, ss_, i64_w, i32_w]
     rfl
   refine one_ (i := 5) (N := some 17) (b_ 11 447) rfl rfl (one_of HT_.out (by kernel_rfl)) (by decide) (fun K hK => ?_)
   refine goes_ Tryd.func82 (by kernel_rfl) rfl #[.int .i64 a0_2, .int .i64 a1] (by rfl) rfl rfl (by (try simp only [mt_, mc_, mn_]); first | done | rfl) ?_
   with_reducible refine (tick_Pow.calls kj2 a0_2 a1 t238 _ A13.out).mono ?_
   rintro e w17 ⟨rfl, hb⟩
   refine ⟨_, rfl, ?_⟩
   have n0_ := ak_ (blk_below (g := gb236) (o := .cells #[.int .i64 a0_0, .int .i64 a0_1, .int .i64 a0_2, .int .i64 a0_3] 54 (0, 0)) (by (with_reducible repeat (first | apply zn | apply zd | apply za)); exact BK236.out) hb)
   have n1_ := ak_ (ps (by with_reducible repeat first | exact HB.out | apply pa | apply pd | apply pe | refine zs ?_ GE236.out) hb)
   clear BK236 HB
   have BK236 := n0_
   have HB := n1_
   clear n0_ n1_
   (try clear hb hk hi)
   refine hK.out _ _ ⟨(zc BK236.out 0).trans rfl, (zc BK236.out 1).trans rfl, (zc BK236.out 2).trans rfl, (zc BK236.out 3).trans rfl⟩ (fun hHeld => ?_)
   clear hK K
   refine norm_ (a' := ?_) ?_ ?_
   rotate_left
   · show Act.put _ (some 17) _ = _
     simp only [Act.put, sa_, sz_, ss_, i64_w, i32_w]
     rfl
   refine one_ (i := 6) (N := some 18) (b_ 11 511) rfl rfl (one_of HT_.out (by kernel_rfl)) (by decide) (fun K hK => ?_)
   refine goes_ Tryd.func81 (by kernel_rfl) rfl #[.int .i64 a0_1, .int .i64 t238] (by rfl) rfl rfl (by (try simp only [mt_, mc_, mn_]); first | done | rfl) ?_
   with_reducible refine (tick_Times.calls a0_1 t238 t239 _ A14.out).mono ?_
   rintro e w18 ⟨rfl, hb⟩
   refine ⟨_, rfl, ?_⟩
   have n0_ := ak_ (blk_below (g := gb236) (o := .cells #[.int .i64 a0_0, .int .i64 a0_1, .int .i64 a0_2, .int .i64 a0_3] 54 (0, 0)) (by (with_reducible repeat (first | apply zn | apply zd | apply za)); exact BK236.out) hb)
   have n1_ := ak_ (ps (by with_reducible repeat first | exact HB.out | apply pa | apply pd | apply pe | refine zs ?_ GE236.out) hb)
   clear BK236 HB
   have BK236 := n0_
   have HB := n1_
   clear n0_ n1_
   (try clear hb hk hi)
   refine hK.out _ _ ⟨(zc BK236.out 0).trans rfl, (zc BK236.out 1).trans rfl, (zc BK236.out 2).trans rfl, (zc BK236.out 3).trans rfl⟩ (fun hHeld => ?_)
   clear hK K
   refine norm_ (a' := ?_) ?_ ?_
   rotate_left
   · show Act.put _ (some 18) _ = _
     simp only [Act.put, sa_, sz_, ss_, i64_w, i32_w]
     rfl
   refine pure_ (i := 9) (N := some 21) (v := ?_) (a' := ?_) (b_ 11 1023) rfl rfl (any_of HT_.out (by kernel_rfl)) (fun _ _ _ h => h) (Or.inl ⟨by rfl, ?_⟩) ?_ ?_; rotate_left; (· intro w'; go_simp; with_reducible rfl); rotate_left; (· simp only [Act.put, sa_, sz_, ss_, i64_w, i32_w]; rfl)
   refine pure_ (i := 10) (N := some 4) (v := ?_) (a' := ?_) (b_ 11 2047) rfl rfl (any_of HT_.out (by kernel_rfl)) (fun _ _ _ h => h) (Or.inl ⟨by rfl, ?_⟩) ?_ ?_; rotate_left; (· intro w'; go_simp; with_reducible rfl); rotate_left; (· simp only [Act.put, sa_, sz_, ss_, i64_w, i32_w]; rfl)
   refine done_ (done_of HT_.out (by kernel_rfl)) ?_
   try go_wp2
   go_ret
   exact ⟨by first | rfl | (simp [errW_none, errW_some] <;> rfl) | (simp only [← hji15]; first | rfl | (simp [errW_none, errW_some] <;> rfl)) | (simp [*, errW_none, errW_some] <;> rfl), by repeat (first | (with_reducible first | exact HB.out | apply pa | apply pd | apply pe | refine zs ?_ GE236.out) | exact HB.out)⟩
end Go.Proofs.YtmfddmhomkcikaaDoor.Q
