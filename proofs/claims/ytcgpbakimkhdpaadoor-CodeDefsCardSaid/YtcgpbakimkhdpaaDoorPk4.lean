/- Part 4 of a claim's texts. -/
import Derived.Test.YtcgpbakimkhdpaaDoorPk3
import Derived.Test.YtcgpbakimkhdpaaDoorPk1
import Derived.Lib.TrimUEq
namespace Go.Proofs.YtcgpbakimkhdpaaDoor.Q
open Go.RowKit Go.Proofs.YtcgpbakimkhdpaaDoorW.PrintWords Go.Proofs.YtcgpbakimkhdpaaDoorW.PrintLast Go.Proofs.YtcgpbakimkhdpaaDoorW.PrintMore
attribute [local go_sem] max2_int min2_int max_two min_two max_three min_three max_four min_four
set_option linter.unusedVariables false
set_option linter.unusedSimpArgs false
set_option maxHeartbeats 8000000
set_option maxRecDepth 100000
open Go.Proofs.YtcgpbakimkhdpaaDoor.Q.H_
def firstI {α : Type} (p : α → Bool) : List α → Int → Int
 | [], _ => -1
 | a :: l, j => if p a = true then j else firstI p l (j + 1)
theorem firstI_at {α : Type} (p : α → Bool) (l : List α) (j : Nat) (h : j < l.length) : firstI p (l.drop j) (j : Int) = if p l[j] = true then (j : Int) else firstI p (l.drop (j + 1)) ((j + 1 : Nat) : Int) := by
 rw [List.drop_eq_getElem_cons h, firstI]
 rfl
theorem firstI_any {α : Type} (p : α → Bool) : ∀ (l : List α) (j : Int), 0 ≤ j → decide (0 ≤ firstI p l j) = l.any p
 | [], _, _ => rfl
 | a :: l, j, h => by
  rw [firstI, List.any_cons]
  cases ha : p a with
  | true => rw [if_pos rfl, Bool.true_or, dt_ h]
  | false => rw [if_neg (by decide), Bool.false_or]; exact firstI_any p l (j + 1) (by omega)
def stepNamed (s : ByteArray) (x : S61) : Bool := x.f0.toList == s.toList
theorem step_closure.calls (bs : Nat) (s : ByteArray) (x : S61) (W : World) (hs : W.cell? ⟨bs, 0, none⟩ = some (.string s)) :
 Calls Tryd.prog 78 #[.agg #[.string x.f0, .string x.f1, .int .i64 x.f2, .int .i64 x.f3.f0, .int .i64 x.f3.f1, .int .i64 x.f3.f2, .int .i64 x.f3.f3, .int .i64 x.f4.f0, .int .i64 x.f4.f1, .int .i64 x.f4.f2, .int .i64 x.f4.f3, .int .i64 x.f5], .pointer (some ⟨bs, 0, none⟩)] W fun e W' => e = .returned (.bool (stepNamed s x)) ∧ Below W.heap.size W W' := by
 have hlt := World.block_lt_of_cell? W _ hs
 have hs1 : ∀ o, (W.alloc o).cell? ⟨bs, 0, none⟩ = some (.string s) := fun o => (((Below.refl _ W).alloc (Nat.le_refl _) o).cell hlt).trans hs
 clear hlt
 go_enter Tryd.func78, Tryd.ntmps78
 go_wp2
 go_ret
 exact ⟨rfl, below_alloc (Below.refl _ _) _⟩
theorem rdS_at {l : List S61} {j : Nat} (h : j < l.length) : rT l (j : Int) = l[j] := by
 unfold rT
 rw [Int.toNat_natCast, List.getD_eq_getElem?_getD, List.getElem?_eq_getElem h]
 rfl
theorem step_index.calls (bs : Nat) (s : ByteArray) (A0 : Option Addr) (c0 : Nat) (l0 : List S61) (w : World) (hr0 : Kd.C k61 w A0 l0.length l0) (hl : l0.length < 1000000) (hs : w.cell? ⟨bs, 0, none⟩ = some (.string s)) :
 Calls Tryd.prog 81 #[.slice A0 l0.length c0, .func (.func 78) #[] #[.pointer (some ⟨bs, 0, none⟩)]] w fun e w' => e = .returned (.int .i64 (firstI (stepNamed s) l0 0)) ∧ Below w.heap.size w w' := by
 have HR := ak_ hr0
 have HSc := ak_ hs
 have HB0 := ak_ (Below.refl w.heap.size w)
 clear hr0 hs
 go_enter Tryd.func81, Tryd.ntmps81
 go_wp2
 go_loopw [8] (fun v8 W => ∃ j : Nat, j ≤ l0.length ∧ v8 = .int .i64 (j : Int) ∧ Aside0 (firstI (stepNamed s) l0 0 = firstI (stepNamed s) (l0.drop j) (j : Int)) ∧ Aside0 (Below w.heap.size w W)) (fun v8 _ => l0.length - (intOf v8).toNat)
 case atStart => exact ⟨0, Nat.zero_le _, rfl, ⟨rfl⟩, HB0⟩
 case round =>
  clear HB0
  obtain ⟨j, hj, rfl, HF, HB⟩ := hrel
  by_cases hlt : j < l0.length
  · have HFA := ak_ (HF.out.trans (firstI_at (stepNamed s) l0 j hlt))
    obtain ⟨ad, e, x0, x1, x2, x3, x4, x5, x6, x7, x8, x9, x10, x11⟩ := at_T61 HR.out (j : Int) (by omega) (by omega)
    rw [← rdS_at hlt] at HFA
    cases e
    replace x0 := (HB.out.cell (World.block_lt_of_cell? w _ x0)).trans x0
    replace x1 := (HB.out.cell (World.block_lt_of_cell? w _ x1)).trans x1
    replace x2 := (HB.out.cell (World.block_lt_of_cell? w _ x2)).trans x2
    replace x3 := (HB.out.cell (World.block_lt_of_cell? w _ x3)).trans x3
    replace x4 := (HB.out.cell (World.block_lt_of_cell? w _ x4)).trans x4
    replace x5 := (HB.out.cell (World.block_lt_of_cell? w _ x5)).trans x5
    replace x6 := (HB.out.cell (World.block_lt_of_cell? w _ x6)).trans x6
    replace x7 := (HB.out.cell (World.block_lt_of_cell? w _ x7)).trans x7
    replace x8 := (HB.out.cell (World.block_lt_of_cell? w _ x8)).trans x8
    replace x9 := (HB.out.cell (World.block_lt_of_cell? w _ x9)).trans x9
    replace x10 := (HB.out.cell (World.block_lt_of_cell? w _ x10)).trans x10
    replace x11 := (HB.out.cell (World.block_lt_of_cell? w _ x11)).trans x11
    have HSw := ak_ ((HB.out.cell (World.block_lt_of_cell? w _ HSc.out)).trans HSc.out)
    generalize rT l0 (j : Int) = d at *
    obtain ⟨i, hi⟩ : ∃ i : Int, (j : Int) = i := ⟨_, rfl⟩
    have HI := ak_ hi
    have hp1 : (0 ≤ i) = True := eq_true (by omega)
    have hq1 : (i < (l0.length : Int)) = True := eq_true (by omega)
    have hd1 : decide (i < (l0.length : Int)) = true := dt_ (by omega)
    have HK := ak_ (show wrap64 (i + 1) = ((j + 1 : Nat) : Int) by unfold wrap64; omega)
    rw [hi] at x0 x1 x2 x3 x4 x5 x6 x7 x8 x9 x10 x11 HFA ⊢
    clear hi
    cases hnm : stepNamed s d with
    | true =>
     rw [if_pos hnm] at HFA
     go_wp2_with (first | (go_at_call 78; refine (step_closure.calls bs s d _ HSw.out).mono ?_; rw [hnm]; rintro e w5 ⟨rfl, hb⟩; have HB5 := ak_ (below_step HB.out hb); clear hb))
     go_ret
     exact ⟨by rw [HFA.out]; rfl, HB5.out⟩
    | false =>
     rw [if_neg (by rw [hnm]; decide)] at HFA
     go_wp2_with (first | (go_at_call 78; refine (step_closure.calls bs s d _ HSw.out).mono ?_; rw [hnm]; rintro e w5 ⟨rfl, hb⟩; have HB5 := ak_ (below_step HB.out hb); clear hb))
     go_roundw
     case rel => exact ⟨j + 1, by omega, by rw [HK.out], HFA, HB5⟩
     case measure => have := HI.out; simp [intOf, HK.out]; omega
  · have hjl : j = l0.length := by omega
    subst hjl
    have hd1 : decide ((l0.length : Int) < (l0.length : Int)) = false := df_ (by omega)
    go_wp2
    go_ret
    exact ⟨by rw [HF.out, List.drop_length]; rfl, HB.out⟩
theorem step_contains.calls (bs : Nat) (s : ByteArray) (A0 : Option Addr) (c0 : Nat) (l0 : List S61) (w : World) (hr0 : Kd.C k61 w A0 l0.length l0) (hl : l0.length < 1000000) (hs : w.cell? ⟨bs, 0, none⟩ = some (.string s)) :
 Calls Tryd.prog 77 #[.slice A0 l0.length c0, .func (.func 78) #[] #[.pointer (some ⟨bs, 0, none⟩)]] w fun e w' => e = .returned (.bool (l0.any (stepNamed s))) ∧ Below w.heap.size w w' := by
 have cI := step_index.calls bs s A0 c0 l0 w hr0 hl hs
 have HE := ak_ (firstI_any (stepNamed s) l0 0 (by omega))
 generalize firstI (stepNamed s) l0 0 = r at cI HE
 clear hr0 hs
 go_enter Tryd.func77, Tryd.ntmps77
 go_wp2_with (first | (go_at_call 81; refine cI.mono ?_; rintro e w5 ⟨rfl, hb⟩; have HB5 := ak_ hb; clear hb))
 go_ret
 exact ⟨by rw [← HE.out]; rfl, HB5.out⟩
theorem infoStep : (Tryd.prog.info? 61).map (fun i => (i.zero, i.size, i.bytes)) = some (some (.agg #[.string ⟨#[]⟩, .string ⟨#[]⟩, .int .i64 0, .int .i64 0, .int .i64 0, .int .i64 0, .int .i64 0, .int .i64 0, .int .i64 0, .int .i64 0, .int .i64 0, .int .i64 0]), 12, 112) := by kernel_rfl
def planP (p : S59) : Bool := decide (0 ≤ p.f0 ∧ p.f0 ≤ 1000 ∧ 1 ≤ p.f1 ∧ 1 ≤ p.f2 ∧ p.f2 ≤ 16 ∧ p.f1 ≤ p.f3 ∧ p.f3 ≤ 1099511627776)
theorem backoff_Good_f (p : S59) : backoff_Good.f p.f0 p.f1 p.f2 p.f3 = some (planP p) := by
 unfold backoff_Good.f planP
 repeat' split
 all_goals (refine congrArg some ?_; rw [Bool.eq_iff_iff]; simp only [decide_eq_true_eq, true_iff, false_iff, Bool.false_eq_true]; omega)
theorem tick_Good_f (a : Int) : tick_Good.f a = some (decide (0 ≤ a ∧ a ≤ 1099511627776)) := by
 unfold tick_Good.f
 split <;> (refine congrArg some ?_; rw [Bool.eq_iff_iff]; simp only [decide_eq_true_eq, false_iff, Bool.false_eq_true]; omega)
def numB (x : S61) : Bool := decide (x.f2 < 1 ∨ x.f2 > 1099511627776 ∨ x.f5 < 0 ∨ x.f5 > 255)
def stepB (g1 g2 an nb p3 p4 : Bool) : Int := if (g1 && g2) = false then 10 else if an = true then 6 else if nb = true then 1 else if (p3 && p4) = false then 3 else 0
def stepR (l : List S61) (i : Nat) (x : S61) : Int := stepB (Utf.goodD x.f0.data.toList) (Utf.goodD x.f1.data.toList) ((l.take i).any (stepNamed x.f0)) (numB x) (planP x.f3) (planP x.f4)
def def_step.f (l : List S61) (i : Int) : Option Int :=
 if 0 ≤ i ∧ i < (l.length : Int) ∧ l.length < 1000000 ∧ (rT l i).f0.size < 9223372036854775807 ∧ (rT l i).f1.size < 9223372036854775807 then some (stepR l i.toNat (rT l i)) else none
theorem def_step.calls (A0 : Option Addr) (c0 : Nat) (l0 : List S61) (i : Int) (r : Int) (w : World) (hr0 : Kd.C k61 w A0 l0.length l0) (hc0 : l0.length ≤ c0) (hTab_ : Tabs_ w) (h : def_step.f l0 i = some r) :
 Calls Tryd.prog 59 #[.slice A0 l0.length c0, .int .i64 i] w fun e w' => e = .returned (.int .i64 r) ∧ Below w.heap.size w w' := by
 unfold def_step.f at h
 by_cases hh : 0 ≤ i ∧ i < (l0.length : Int) ∧ l0.length < 1000000 ∧ (rT l0 i).f0.size < 9223372036854775807 ∧ (rT l0 i).f1.size < 9223372036854775807
 · rw [if_pos hh] at h
   obtain rfl := Option.some.inj h
   clear h
   obtain ⟨h0, h1, hl, hs0, hs1⟩ := hh
   have HT := ak_ hTab_
   have hRT := ak_ (Kd.C_take (m := i.toNat) hr0 (by omega))
   have hlt : (l0.take i.toNat).length = i.toNat := by rw [List.length_take]; omega
   have hG1 := ak_ (show label_Good.f (rT l0 i).f0 = some (Utf.goodD (rT l0 i).f0.data.toList) from if_pos hs0)
   have hG2 := ak_ (show label_Good.f (rT l0 i).f1 = some (Utf.goodD (rT l0 i).f1.data.toList) from if_pos hs1)
   obtain ⟨ad, e, x0, x1, x2, x3, x4, x5, x6, x7, x8, x9, x10, x11⟩ := at_T61 hr0 i h0 (by omega)
   obtain ⟨inf, hinf, _⟩ := info_parts infoStep
   have kcut := cut_to (P := Tryd.prog) 22 61 .i64 Tryd.underlying22 hinf A0 l0.length c0 i h0 (by omega) hc0
   clear hTab_ hr0 hs0 hs1 hinf
   cases e
   have HE0 := ak_ (show stepR l0 i.toNat (rT l0 i) = stepR l0 i.toNat (rT l0 i) from rfl)
   generalize rT l0 i = x at *
   have hp1 : (0 ≤ i) = True := eq_true h0
   have hq1 : (i < (l0.length : Int)) = True := eq_true h1
   have hd1 : decide (0 ≤ i) = true := dt_ h0
   obtain ⟨R, hR⟩ : ∃ R, stepR l0 i.toNat x = R := ⟨_, rfl⟩
   rw [hR]
   clear HE0
   unfold stepR at hR
   generalize Utf.goodD x.f0.data.toList = g1 at hR hG1
   generalize Utf.goodD x.f1.data.toList = g2 at hR hG2
   obtain ⟨an, han⟩ : ∃ an, (l0.take i.toNat).any (stepNamed x.f0) = an := ⟨_, rfl⟩
   obtain ⟨p3, hp3⟩ : ∃ p3, planP x.f3 = p3 := ⟨_, rfl⟩
   obtain ⟨p4, hp4⟩ : ∃ p4, planP x.f4 = p4 := ⟨_, rfl⟩
   rw [han, hp3, hp4] at hR
   have hAN := ak_ han
   have hP3 := ak_ ((backoff_Good_f x.f3).trans (congrArg some hp3))
   have hP4 := ak_ ((backoff_Good_f x.f4).trans (congrArg some hp4))
   clear han hp3 hp4
   go_enter Tryd.func59, Tryd.ntmps59
   go_upto_region 2 with (fail)
   have z1 := blk_new w (.cells #[.string x.f0, .string x.f1, .int .i64 x.f2, .int .i64 x.f3.f0, .int .i64 x.f3.f1, .int .i64 x.f3.f2, .int .i64 x.f3.f3, .int .i64 x.f4.f0, .int .i64 x.f4.f1, .int .i64 x.f4.f2, .int .i64 x.f4.f3, .int .i64 x.f5] 61)
   have HB1 := ak_ ((Below.refl w.heap.size w).alloc (Nat.le_refl _) (.cells #[.string x.f0, .string x.f1, .int .i64 x.f2, .int .i64 x.f3.f0, .int .i64 x.f3.f1, .int .i64 x.f3.f2, .int .i64 x.f3.f3, .int .i64 x.f4.f0, .int .i64 x.f4.f1, .int .i64 x.f4.f2, .int .i64 x.f4.f3, .int .i64 x.f5] 61))
   generalize w.alloc (.cells #[.string x.f0, .string x.f1, .int .i64 x.f2, .int .i64 x.f3.f0, .int .i64 x.f3.f1, .int .i64 x.f3.f2, .int .i64 x.f3.f3, .int .i64 x.f4.f0, .int .i64 x.f4.f1, .int .i64 x.f4.f2, .int .i64 x.f4.f3, .int .i64 x.f5] 61) = W1 at *
   clear x0 x1 x2 x3 x4 x5 x6 x7 x8 x9 x10 x11
   obtain ⟨q, hq⟩ : ∃ q, w.heap.size = q := ⟨_, rfl⟩
   have HQ := ak_ hq
   rw [hq] at z1 ⊢
   clear hq
   have Z1 := ak_ z1
   have cW_0 : W1.cell? ⟨q, 0, none⟩ = some (.string x.f0) := (zc z1 0).trans rfl
   have cW_1 : W1.cell? ⟨q, 1, none⟩ = some (.string x.f1) := (zc z1 1).trans rfl
   have cW_2 : W1.cell? ⟨q, 2, none⟩ = some (.int .i64 x.f2) := (zc z1 2).trans rfl
   have cW_3 : W1.cell? ⟨q, 3, none⟩ = some (.int .i64 x.f3.f0) := (zc z1 3).trans rfl
   have cW_4 : W1.cell? ⟨q, 4, none⟩ = some (.int .i64 x.f3.f1) := (zc z1 4).trans rfl
   have cW_5 : W1.cell? ⟨q, 5, none⟩ = some (.int .i64 x.f3.f2) := (zc z1 5).trans rfl
   have cW_6 : W1.cell? ⟨q, 6, none⟩ = some (.int .i64 x.f3.f3) := (zc z1 6).trans rfl
   have cW_7 : W1.cell? ⟨q, 7, none⟩ = some (.int .i64 x.f4.f0) := (zc z1 7).trans rfl
   have cW_8 : W1.cell? ⟨q, 8, none⟩ = some (.int .i64 x.f4.f1) := (zc z1 8).trans rfl
   have cW_9 : W1.cell? ⟨q, 9, none⟩ = some (.int .i64 x.f4.f2) := (zc z1 9).trans rfl
   have cW_10 : W1.cell? ⟨q, 10, none⟩ = some (.int .i64 x.f4.f3) := (zc z1 10).trans rfl
   have cW_11 : W1.cell? ⟨q, 11, none⟩ = some (.int .i64 x.f5) := (zc z1 11).trans rfl
   clear z1
   have cC : ∀ W, Kd.C k61 W (some ad) (l0.take i.toNat).length (l0.take i.toNat) → W.cell? ⟨q, 0, none⟩ = some (.string x.f0) → Calls Tryd.prog 77 #[.slice (some ad) i.toNat c0, .func (.func 78) #[] #[.pointer (some ⟨q, 0, none⟩)]] W fun e w' => e = .returned (.bool ((l0.take i.toNat).any (stepNamed x.f0))) ∧ Below W.heap.size W w' := fun W h1 h2 => by
    have := step_contains.calls q x.f0 (some ad) c0 (l0.take i.toNat) W h1 (by omega) h2
    rw [hlt] at this
    exact this
   cases g1 with
   | false =>
    have HE := ak_ (show R = 10 from hR.symm)
    go_wp2_with (first | (go_at_call 44; (with_reducible refine (label_Good.calls x.f0 false _ (HT.out.below HB1.out) (hG1.out)).mono ?_); rintro e w2 ⟨rfl, hb⟩; have HBw2 := ak_ (below_step HB1.out hb); have Zw2 := ak_ (blk_below Z1.out hb); have cw2_0 : w2.cell? ⟨q, 0, none⟩ = some (.string x.f0) := (zc Zw2.out 0).trans rfl; have cw2_1 : w2.cell? ⟨q, 1, none⟩ = some (.string x.f1) := (zc Zw2.out 1).trans rfl; have cw2_2 : w2.cell? ⟨q, 2, none⟩ = some (.int .i64 x.f2) := (zc Zw2.out 2).trans rfl; have cw2_3 : w2.cell? ⟨q, 3, none⟩ = some (.int .i64 x.f3.f0) := (zc Zw2.out 3).trans rfl; have cw2_4 : w2.cell? ⟨q, 4, none⟩ = some (.int .i64 x.f3.f1) := (zc Zw2.out 4).trans rfl; have cw2_5 : w2.cell? ⟨q, 5, none⟩ = some (.int .i64 x.f3.f2) := (zc Zw2.out 5).trans rfl; have cw2_6 : w2.cell? ⟨q, 6, none⟩ = some (.int .i64 x.f3.f3) := (zc Zw2.out 6).trans rfl; have cw2_7 : w2.cell? ⟨q, 7, none⟩ = some (.int .i64 x.f4.f0) := (zc Zw2.out 7).trans rfl; have cw2_8 : w2.cell? ⟨q, 8, none⟩ = some (.int .i64 x.f4.f1) := (zc Zw2.out 8).trans rfl; have cw2_9 : w2.cell? ⟨q, 9, none⟩ = some (.int .i64 x.f4.f2) := (zc Zw2.out 9).trans rfl; have cw2_10 : w2.cell? ⟨q, 10, none⟩ = some (.int .i64 x.f4.f3) := (zc Zw2.out 10).trans rfl; have cw2_11 : w2.cell? ⟨q, 11, none⟩ = some (.int .i64 x.f5) := (zc Zw2.out 11).trans rfl; clear hb))
    go_ret
    exact ⟨by rw [HE.out]; rfl, HBw2.out⟩
   | true =>
    cases g2 with
    | false =>
     have HE := ak_ (show R = 10 from hR.symm)
     go_wp2_with (first | (go_at_call 44; (with_reducible refine (label_Good.calls x.f0 true _ (HT.out.below HB1.out) (hG1.out)).mono ?_); rintro e w2 ⟨rfl, hb⟩; have HBw2 := ak_ (below_step HB1.out hb); have Zw2 := ak_ (blk_below Z1.out hb); have cw2_0 : w2.cell? ⟨q, 0, none⟩ = some (.string x.f0) := (zc Zw2.out 0).trans rfl; have cw2_1 : w2.cell? ⟨q, 1, none⟩ = some (.string x.f1) := (zc Zw2.out 1).trans rfl; have cw2_2 : w2.cell? ⟨q, 2, none⟩ = some (.int .i64 x.f2) := (zc Zw2.out 2).trans rfl; have cw2_3 : w2.cell? ⟨q, 3, none⟩ = some (.int .i64 x.f3.f0) := (zc Zw2.out 3).trans rfl; have cw2_4 : w2.cell? ⟨q, 4, none⟩ = some (.int .i64 x.f3.f1) := (zc Zw2.out 4).trans rfl; have cw2_5 : w2.cell? ⟨q, 5, none⟩ = some (.int .i64 x.f3.f2) := (zc Zw2.out 5).trans rfl; have cw2_6 : w2.cell? ⟨q, 6, none⟩ = some (.int .i64 x.f3.f3) := (zc Zw2.out 6).trans rfl; have cw2_7 : w2.cell? ⟨q, 7, none⟩ = some (.int .i64 x.f4.f0) := (zc Zw2.out 7).trans rfl; have cw2_8 : w2.cell? ⟨q, 8, none⟩ = some (.int .i64 x.f4.f1) := (zc Zw2.out 8).trans rfl; have cw2_9 : w2.cell? ⟨q, 9, none⟩ = some (.int .i64 x.f4.f2) := (zc Zw2.out 9).trans rfl; have cw2_10 : w2.cell? ⟨q, 10, none⟩ = some (.int .i64 x.f4.f3) := (zc Zw2.out 10).trans rfl; have cw2_11 : w2.cell? ⟨q, 11, none⟩ = some (.int .i64 x.f5) := (zc Zw2.out 11).trans rfl; clear hb) | (go_at_call 44; (with_reducible refine (label_Good.calls x.f1 false _ (HT.out.below HBw2.out) (hG2.out)).mono ?_); rintro e w3 ⟨rfl, hb⟩; have HBw3 := ak_ (below_step HBw2.out hb); have Zw3 := ak_ (blk_below Zw2.out hb); have cw3_0 : w3.cell? ⟨q, 0, none⟩ = some (.string x.f0) := (zc Zw3.out 0).trans rfl; have cw3_1 : w3.cell? ⟨q, 1, none⟩ = some (.string x.f1) := (zc Zw3.out 1).trans rfl; have cw3_2 : w3.cell? ⟨q, 2, none⟩ = some (.int .i64 x.f2) := (zc Zw3.out 2).trans rfl; have cw3_3 : w3.cell? ⟨q, 3, none⟩ = some (.int .i64 x.f3.f0) := (zc Zw3.out 3).trans rfl; have cw3_4 : w3.cell? ⟨q, 4, none⟩ = some (.int .i64 x.f3.f1) := (zc Zw3.out 4).trans rfl; have cw3_5 : w3.cell? ⟨q, 5, none⟩ = some (.int .i64 x.f3.f2) := (zc Zw3.out 5).trans rfl; have cw3_6 : w3.cell? ⟨q, 6, none⟩ = some (.int .i64 x.f3.f3) := (zc Zw3.out 6).trans rfl; have cw3_7 : w3.cell? ⟨q, 7, none⟩ = some (.int .i64 x.f4.f0) := (zc Zw3.out 7).trans rfl; have cw3_8 : w3.cell? ⟨q, 8, none⟩ = some (.int .i64 x.f4.f1) := (zc Zw3.out 8).trans rfl; have cw3_9 : w3.cell? ⟨q, 9, none⟩ = some (.int .i64 x.f4.f2) := (zc Zw3.out 9).trans rfl; have cw3_10 : w3.cell? ⟨q, 10, none⟩ = some (.int .i64 x.f4.f3) := (zc Zw3.out 10).trans rfl; have cw3_11 : w3.cell? ⟨q, 11, none⟩ = some (.int .i64 x.f5) := (zc Zw3.out 11).trans rfl; clear hb))
     go_ret
     exact ⟨by rw [HE.out]; rfl, HBw3.out⟩
    | true =>
     cases an with
     | true =>
      have HE := ak_ (show R = 6 from hR.symm)
      go_wp2_with (first | (go_at_call 44; (with_reducible refine (label_Good.calls x.f0 true _ (HT.out.below HB1.out) (hG1.out)).mono ?_); rintro e w2 ⟨rfl, hb⟩; have HBw2 := ak_ (below_step HB1.out hb); have Zw2 := ak_ (blk_below Z1.out hb); have cw2_0 : w2.cell? ⟨q, 0, none⟩ = some (.string x.f0) := (zc Zw2.out 0).trans rfl; have cw2_1 : w2.cell? ⟨q, 1, none⟩ = some (.string x.f1) := (zc Zw2.out 1).trans rfl; have cw2_2 : w2.cell? ⟨q, 2, none⟩ = some (.int .i64 x.f2) := (zc Zw2.out 2).trans rfl; have cw2_3 : w2.cell? ⟨q, 3, none⟩ = some (.int .i64 x.f3.f0) := (zc Zw2.out 3).trans rfl; have cw2_4 : w2.cell? ⟨q, 4, none⟩ = some (.int .i64 x.f3.f1) := (zc Zw2.out 4).trans rfl; have cw2_5 : w2.cell? ⟨q, 5, none⟩ = some (.int .i64 x.f3.f2) := (zc Zw2.out 5).trans rfl; have cw2_6 : w2.cell? ⟨q, 6, none⟩ = some (.int .i64 x.f3.f3) := (zc Zw2.out 6).trans rfl; have cw2_7 : w2.cell? ⟨q, 7, none⟩ = some (.int .i64 x.f4.f0) := (zc Zw2.out 7).trans rfl; have cw2_8 : w2.cell? ⟨q, 8, none⟩ = some (.int .i64 x.f4.f1) := (zc Zw2.out 8).trans rfl; have cw2_9 : w2.cell? ⟨q, 9, none⟩ = some (.int .i64 x.f4.f2) := (zc Zw2.out 9).trans rfl; have cw2_10 : w2.cell? ⟨q, 10, none⟩ = some (.int .i64 x.f4.f3) := (zc Zw2.out 10).trans rfl; have cw2_11 : w2.cell? ⟨q, 11, none⟩ = some (.int .i64 x.f5) := (zc Zw2.out 11).trans rfl; clear hb) | (go_at_call 44; (with_reducible refine (label_Good.calls x.f1 true _ (HT.out.below HBw2.out) (hG2.out)).mono ?_); rintro e w3 ⟨rfl, hb⟩; have HBw3 := ak_ (below_step HBw2.out hb); have Zw3 := ak_ (blk_below Zw2.out hb); have cw3_0 : w3.cell? ⟨q, 0, none⟩ = some (.string x.f0) := (zc Zw3.out 0).trans rfl; have cw3_1 : w3.cell? ⟨q, 1, none⟩ = some (.string x.f1) := (zc Zw3.out 1).trans rfl; have cw3_2 : w3.cell? ⟨q, 2, none⟩ = some (.int .i64 x.f2) := (zc Zw3.out 2).trans rfl; have cw3_3 : w3.cell? ⟨q, 3, none⟩ = some (.int .i64 x.f3.f0) := (zc Zw3.out 3).trans rfl; have cw3_4 : w3.cell? ⟨q, 4, none⟩ = some (.int .i64 x.f3.f1) := (zc Zw3.out 4).trans rfl; have cw3_5 : w3.cell? ⟨q, 5, none⟩ = some (.int .i64 x.f3.f2) := (zc Zw3.out 5).trans rfl; have cw3_6 : w3.cell? ⟨q, 6, none⟩ = some (.int .i64 x.f3.f3) := (zc Zw3.out 6).trans rfl; have cw3_7 : w3.cell? ⟨q, 7, none⟩ = some (.int .i64 x.f4.f0) := (zc Zw3.out 7).trans rfl; have cw3_8 : w3.cell? ⟨q, 8, none⟩ = some (.int .i64 x.f4.f1) := (zc Zw3.out 8).trans rfl; have cw3_9 : w3.cell? ⟨q, 9, none⟩ = some (.int .i64 x.f4.f2) := (zc Zw3.out 9).trans rfl; have cw3_10 : w3.cell? ⟨q, 10, none⟩ = some (.int .i64 x.f4.f3) := (zc Zw3.out 10).trans rfl; have cw3_11 : w3.cell? ⟨q, 11, none⟩ = some (.int .i64 x.f5) := (zc Zw3.out 11).trans rfl; clear hb) | (go_at_call 77; refine (cC _ (Kd.C_below hRT.out HBw3.out) ((zc Zw3.out 0).trans rfl)).mono ?_; rw [hAN.out]; rintro e w4 ⟨rfl, hb⟩; have HBw4 := ak_ (below_step HBw3.out hb); have Zw4 := ak_ (blk_below Zw3.out hb); have cw4_0 : w4.cell? ⟨q, 0, none⟩ = some (.string x.f0) := (zc Zw4.out 0).trans rfl; have cw4_1 : w4.cell? ⟨q, 1, none⟩ = some (.string x.f1) := (zc Zw4.out 1).trans rfl; have cw4_2 : w4.cell? ⟨q, 2, none⟩ = some (.int .i64 x.f2) := (zc Zw4.out 2).trans rfl; have cw4_3 : w4.cell? ⟨q, 3, none⟩ = some (.int .i64 x.f3.f0) := (zc Zw4.out 3).trans rfl; have cw4_4 : w4.cell? ⟨q, 4, none⟩ = some (.int .i64 x.f3.f1) := (zc Zw4.out 4).trans rfl; have cw4_5 : w4.cell? ⟨q, 5, none⟩ = some (.int .i64 x.f3.f2) := (zc Zw4.out 5).trans rfl; have cw4_6 : w4.cell? ⟨q, 6, none⟩ = some (.int .i64 x.f3.f3) := (zc Zw4.out 6).trans rfl; have cw4_7 : w4.cell? ⟨q, 7, none⟩ = some (.int .i64 x.f4.f0) := (zc Zw4.out 7).trans rfl; have cw4_8 : w4.cell? ⟨q, 8, none⟩ = some (.int .i64 x.f4.f1) := (zc Zw4.out 8).trans rfl; have cw4_9 : w4.cell? ⟨q, 9, none⟩ = some (.int .i64 x.f4.f2) := (zc Zw4.out 9).trans rfl; have cw4_10 : w4.cell? ⟨q, 10, none⟩ = some (.int .i64 x.f4.f3) := (zc Zw4.out 10).trans rfl; have cw4_11 : w4.cell? ⟨q, 11, none⟩ = some (.int .i64 x.f5) := (zc Zw4.out 11).trans rfl; clear hb))
      go_ret
      exact ⟨by rw [HE.out]; rfl, HBw4.out⟩
     | false =>
      by_cases t1 : x.f2 < 1
      · have d1 : decide (x.f2 < 1) = true := dt_ t1
        rw [show numB x = true from dt_ (.inl t1)] at hR
        have HE := ak_ (show R = 1 from hR.symm)
        go_wp2_with (first | (go_at_call 44; (with_reducible refine (label_Good.calls x.f0 true _ (HT.out.below HB1.out) (hG1.out)).mono ?_); rintro e w2 ⟨rfl, hb⟩; have HBw2 := ak_ (below_step HB1.out hb); have Zw2 := ak_ (blk_below Z1.out hb); have cw2_0 : w2.cell? ⟨q, 0, none⟩ = some (.string x.f0) := (zc Zw2.out 0).trans rfl; have cw2_1 : w2.cell? ⟨q, 1, none⟩ = some (.string x.f1) := (zc Zw2.out 1).trans rfl; have cw2_2 : w2.cell? ⟨q, 2, none⟩ = some (.int .i64 x.f2) := (zc Zw2.out 2).trans rfl; have cw2_3 : w2.cell? ⟨q, 3, none⟩ = some (.int .i64 x.f3.f0) := (zc Zw2.out 3).trans rfl; have cw2_4 : w2.cell? ⟨q, 4, none⟩ = some (.int .i64 x.f3.f1) := (zc Zw2.out 4).trans rfl; have cw2_5 : w2.cell? ⟨q, 5, none⟩ = some (.int .i64 x.f3.f2) := (zc Zw2.out 5).trans rfl; have cw2_6 : w2.cell? ⟨q, 6, none⟩ = some (.int .i64 x.f3.f3) := (zc Zw2.out 6).trans rfl; have cw2_7 : w2.cell? ⟨q, 7, none⟩ = some (.int .i64 x.f4.f0) := (zc Zw2.out 7).trans rfl; have cw2_8 : w2.cell? ⟨q, 8, none⟩ = some (.int .i64 x.f4.f1) := (zc Zw2.out 8).trans rfl; have cw2_9 : w2.cell? ⟨q, 9, none⟩ = some (.int .i64 x.f4.f2) := (zc Zw2.out 9).trans rfl; have cw2_10 : w2.cell? ⟨q, 10, none⟩ = some (.int .i64 x.f4.f3) := (zc Zw2.out 10).trans rfl; have cw2_11 : w2.cell? ⟨q, 11, none⟩ = some (.int .i64 x.f5) := (zc Zw2.out 11).trans rfl; clear hb) | (go_at_call 44; (with_reducible refine (label_Good.calls x.f1 true _ (HT.out.below HBw2.out) (hG2.out)).mono ?_); rintro e w3 ⟨rfl, hb⟩; have HBw3 := ak_ (below_step HBw2.out hb); have Zw3 := ak_ (blk_below Zw2.out hb); have cw3_0 : w3.cell? ⟨q, 0, none⟩ = some (.string x.f0) := (zc Zw3.out 0).trans rfl; have cw3_1 : w3.cell? ⟨q, 1, none⟩ = some (.string x.f1) := (zc Zw3.out 1).trans rfl; have cw3_2 : w3.cell? ⟨q, 2, none⟩ = some (.int .i64 x.f2) := (zc Zw3.out 2).trans rfl; have cw3_3 : w3.cell? ⟨q, 3, none⟩ = some (.int .i64 x.f3.f0) := (zc Zw3.out 3).trans rfl; have cw3_4 : w3.cell? ⟨q, 4, none⟩ = some (.int .i64 x.f3.f1) := (zc Zw3.out 4).trans rfl; have cw3_5 : w3.cell? ⟨q, 5, none⟩ = some (.int .i64 x.f3.f2) := (zc Zw3.out 5).trans rfl; have cw3_6 : w3.cell? ⟨q, 6, none⟩ = some (.int .i64 x.f3.f3) := (zc Zw3.out 6).trans rfl; have cw3_7 : w3.cell? ⟨q, 7, none⟩ = some (.int .i64 x.f4.f0) := (zc Zw3.out 7).trans rfl; have cw3_8 : w3.cell? ⟨q, 8, none⟩ = some (.int .i64 x.f4.f1) := (zc Zw3.out 8).trans rfl; have cw3_9 : w3.cell? ⟨q, 9, none⟩ = some (.int .i64 x.f4.f2) := (zc Zw3.out 9).trans rfl; have cw3_10 : w3.cell? ⟨q, 10, none⟩ = some (.int .i64 x.f4.f3) := (zc Zw3.out 10).trans rfl; have cw3_11 : w3.cell? ⟨q, 11, none⟩ = some (.int .i64 x.f5) := (zc Zw3.out 11).trans rfl; clear hb) | (go_at_call 77; refine (cC _ (Kd.C_below hRT.out HBw3.out) ((zc Zw3.out 0).trans rfl)).mono ?_; rw [hAN.out]; rintro e w4 ⟨rfl, hb⟩; have HBw4 := ak_ (below_step HBw3.out hb); have Zw4 := ak_ (blk_below Zw3.out hb); have cw4_0 : w4.cell? ⟨q, 0, none⟩ = some (.string x.f0) := (zc Zw4.out 0).trans rfl; have cw4_1 : w4.cell? ⟨q, 1, none⟩ = some (.string x.f1) := (zc Zw4.out 1).trans rfl; have cw4_2 : w4.cell? ⟨q, 2, none⟩ = some (.int .i64 x.f2) := (zc Zw4.out 2).trans rfl; have cw4_3 : w4.cell? ⟨q, 3, none⟩ = some (.int .i64 x.f3.f0) := (zc Zw4.out 3).trans rfl; have cw4_4 : w4.cell? ⟨q, 4, none⟩ = some (.int .i64 x.f3.f1) := (zc Zw4.out 4).trans rfl; have cw4_5 : w4.cell? ⟨q, 5, none⟩ = some (.int .i64 x.f3.f2) := (zc Zw4.out 5).trans rfl; have cw4_6 : w4.cell? ⟨q, 6, none⟩ = some (.int .i64 x.f3.f3) := (zc Zw4.out 6).trans rfl; have cw4_7 : w4.cell? ⟨q, 7, none⟩ = some (.int .i64 x.f4.f0) := (zc Zw4.out 7).trans rfl; have cw4_8 : w4.cell? ⟨q, 8, none⟩ = some (.int .i64 x.f4.f1) := (zc Zw4.out 8).trans rfl; have cw4_9 : w4.cell? ⟨q, 9, none⟩ = some (.int .i64 x.f4.f2) := (zc Zw4.out 9).trans rfl; have cw4_10 : w4.cell? ⟨q, 10, none⟩ = some (.int .i64 x.f4.f3) := (zc Zw4.out 10).trans rfl; have cw4_11 : w4.cell? ⟨q, 11, none⟩ = some (.int .i64 x.f5) := (zc Zw4.out 11).trans rfl; clear hb))
        go_ret
        exact ⟨by rw [HE.out]; rfl, HBw4.out⟩
      · have d1 : decide (x.f2 < 1) = false := df_ t1
        by_cases t2 : x.f2 > 1099511627776
        · have hTG := ak_ (show tick_Good.f x.f2 = some false by rw [tick_Good_f, df_ (by omega)])
          rw [show numB x = true from dt_ (.inr (.inl t2))] at hR
          have HE := ak_ (show R = 1 from hR.symm)
          go_wp2_with (first | (go_at_call 44; (with_reducible refine (label_Good.calls x.f0 true _ (HT.out.below HB1.out) (hG1.out)).mono ?_); rintro e w2 ⟨rfl, hb⟩; have HBw2 := ak_ (below_step HB1.out hb); have Zw2 := ak_ (blk_below Z1.out hb); have cw2_0 : w2.cell? ⟨q, 0, none⟩ = some (.string x.f0) := (zc Zw2.out 0).trans rfl; have cw2_1 : w2.cell? ⟨q, 1, none⟩ = some (.string x.f1) := (zc Zw2.out 1).trans rfl; have cw2_2 : w2.cell? ⟨q, 2, none⟩ = some (.int .i64 x.f2) := (zc Zw2.out 2).trans rfl; have cw2_3 : w2.cell? ⟨q, 3, none⟩ = some (.int .i64 x.f3.f0) := (zc Zw2.out 3).trans rfl; have cw2_4 : w2.cell? ⟨q, 4, none⟩ = some (.int .i64 x.f3.f1) := (zc Zw2.out 4).trans rfl; have cw2_5 : w2.cell? ⟨q, 5, none⟩ = some (.int .i64 x.f3.f2) := (zc Zw2.out 5).trans rfl; have cw2_6 : w2.cell? ⟨q, 6, none⟩ = some (.int .i64 x.f3.f3) := (zc Zw2.out 6).trans rfl; have cw2_7 : w2.cell? ⟨q, 7, none⟩ = some (.int .i64 x.f4.f0) := (zc Zw2.out 7).trans rfl; have cw2_8 : w2.cell? ⟨q, 8, none⟩ = some (.int .i64 x.f4.f1) := (zc Zw2.out 8).trans rfl; have cw2_9 : w2.cell? ⟨q, 9, none⟩ = some (.int .i64 x.f4.f2) := (zc Zw2.out 9).trans rfl; have cw2_10 : w2.cell? ⟨q, 10, none⟩ = some (.int .i64 x.f4.f3) := (zc Zw2.out 10).trans rfl; have cw2_11 : w2.cell? ⟨q, 11, none⟩ = some (.int .i64 x.f5) := (zc Zw2.out 11).trans rfl; clear hb) | (go_at_call 44; (with_reducible refine (label_Good.calls x.f1 true _ (HT.out.below HBw2.out) (hG2.out)).mono ?_); rintro e w3 ⟨rfl, hb⟩; have HBw3 := ak_ (below_step HBw2.out hb); have Zw3 := ak_ (blk_below Zw2.out hb); have cw3_0 : w3.cell? ⟨q, 0, none⟩ = some (.string x.f0) := (zc Zw3.out 0).trans rfl; have cw3_1 : w3.cell? ⟨q, 1, none⟩ = some (.string x.f1) := (zc Zw3.out 1).trans rfl; have cw3_2 : w3.cell? ⟨q, 2, none⟩ = some (.int .i64 x.f2) := (zc Zw3.out 2).trans rfl; have cw3_3 : w3.cell? ⟨q, 3, none⟩ = some (.int .i64 x.f3.f0) := (zc Zw3.out 3).trans rfl; have cw3_4 : w3.cell? ⟨q, 4, none⟩ = some (.int .i64 x.f3.f1) := (zc Zw3.out 4).trans rfl; have cw3_5 : w3.cell? ⟨q, 5, none⟩ = some (.int .i64 x.f3.f2) := (zc Zw3.out 5).trans rfl; have cw3_6 : w3.cell? ⟨q, 6, none⟩ = some (.int .i64 x.f3.f3) := (zc Zw3.out 6).trans rfl; have cw3_7 : w3.cell? ⟨q, 7, none⟩ = some (.int .i64 x.f4.f0) := (zc Zw3.out 7).trans rfl; have cw3_8 : w3.cell? ⟨q, 8, none⟩ = some (.int .i64 x.f4.f1) := (zc Zw3.out 8).trans rfl; have cw3_9 : w3.cell? ⟨q, 9, none⟩ = some (.int .i64 x.f4.f2) := (zc Zw3.out 9).trans rfl; have cw3_10 : w3.cell? ⟨q, 10, none⟩ = some (.int .i64 x.f4.f3) := (zc Zw3.out 10).trans rfl; have cw3_11 : w3.cell? ⟨q, 11, none⟩ = some (.int .i64 x.f5) := (zc Zw3.out 11).trans rfl; clear hb) | (go_at_call 77; refine (cC _ (Kd.C_below hRT.out HBw3.out) ((zc Zw3.out 0).trans rfl)).mono ?_; rw [hAN.out]; rintro e w4 ⟨rfl, hb⟩; have HBw4 := ak_ (below_step HBw3.out hb); have Zw4 := ak_ (blk_below Zw3.out hb); have cw4_0 : w4.cell? ⟨q, 0, none⟩ = some (.string x.f0) := (zc Zw4.out 0).trans rfl; have cw4_1 : w4.cell? ⟨q, 1, none⟩ = some (.string x.f1) := (zc Zw4.out 1).trans rfl; have cw4_2 : w4.cell? ⟨q, 2, none⟩ = some (.int .i64 x.f2) := (zc Zw4.out 2).trans rfl; have cw4_3 : w4.cell? ⟨q, 3, none⟩ = some (.int .i64 x.f3.f0) := (zc Zw4.out 3).trans rfl; have cw4_4 : w4.cell? ⟨q, 4, none⟩ = some (.int .i64 x.f3.f1) := (zc Zw4.out 4).trans rfl; have cw4_5 : w4.cell? ⟨q, 5, none⟩ = some (.int .i64 x.f3.f2) := (zc Zw4.out 5).trans rfl; have cw4_6 : w4.cell? ⟨q, 6, none⟩ = some (.int .i64 x.f3.f3) := (zc Zw4.out 6).trans rfl; have cw4_7 : w4.cell? ⟨q, 7, none⟩ = some (.int .i64 x.f4.f0) := (zc Zw4.out 7).trans rfl; have cw4_8 : w4.cell? ⟨q, 8, none⟩ = some (.int .i64 x.f4.f1) := (zc Zw4.out 8).trans rfl; have cw4_9 : w4.cell? ⟨q, 9, none⟩ = some (.int .i64 x.f4.f2) := (zc Zw4.out 9).trans rfl; have cw4_10 : w4.cell? ⟨q, 10, none⟩ = some (.int .i64 x.f4.f3) := (zc Zw4.out 10).trans rfl; have cw4_11 : w4.cell? ⟨q, 11, none⟩ = some (.int .i64 x.f5) := (zc Zw4.out 11).trans rfl; clear hb) | (go_at_call 42; refine (tick_Good.calls x.f2 false _ hTG.out).mono ?_; rintro e w' ⟨rfl, ⟨nd, rfl⟩⟩))
          go_ret
          exact ⟨by rw [HE.out]; rfl, pw_below_drewN HBw4.out _⟩
        · have hTG := ak_ (show tick_Good.f x.f2 = some true by rw [tick_Good_f, dt_ (by omega)])
          by_cases t3 : x.f5 < 0
          · have d3 : decide (x.f5 < 0) = true := dt_ t3
            rw [show numB x = true from dt_ (.inr (.inr (.inl t3)))] at hR
            have HE := ak_ (show R = 1 from hR.symm)
            go_wp2_with (first | (go_at_call 44; (with_reducible refine (label_Good.calls x.f0 true _ (HT.out.below HB1.out) (hG1.out)).mono ?_); rintro e w2 ⟨rfl, hb⟩; have HBw2 := ak_ (below_step HB1.out hb); have Zw2 := ak_ (blk_below Z1.out hb); have cw2_0 : w2.cell? ⟨q, 0, none⟩ = some (.string x.f0) := (zc Zw2.out 0).trans rfl; have cw2_1 : w2.cell? ⟨q, 1, none⟩ = some (.string x.f1) := (zc Zw2.out 1).trans rfl; have cw2_2 : w2.cell? ⟨q, 2, none⟩ = some (.int .i64 x.f2) := (zc Zw2.out 2).trans rfl; have cw2_3 : w2.cell? ⟨q, 3, none⟩ = some (.int .i64 x.f3.f0) := (zc Zw2.out 3).trans rfl; have cw2_4 : w2.cell? ⟨q, 4, none⟩ = some (.int .i64 x.f3.f1) := (zc Zw2.out 4).trans rfl; have cw2_5 : w2.cell? ⟨q, 5, none⟩ = some (.int .i64 x.f3.f2) := (zc Zw2.out 5).trans rfl; have cw2_6 : w2.cell? ⟨q, 6, none⟩ = some (.int .i64 x.f3.f3) := (zc Zw2.out 6).trans rfl; have cw2_7 : w2.cell? ⟨q, 7, none⟩ = some (.int .i64 x.f4.f0) := (zc Zw2.out 7).trans rfl; have cw2_8 : w2.cell? ⟨q, 8, none⟩ = some (.int .i64 x.f4.f1) := (zc Zw2.out 8).trans rfl; have cw2_9 : w2.cell? ⟨q, 9, none⟩ = some (.int .i64 x.f4.f2) := (zc Zw2.out 9).trans rfl; have cw2_10 : w2.cell? ⟨q, 10, none⟩ = some (.int .i64 x.f4.f3) := (zc Zw2.out 10).trans rfl; have cw2_11 : w2.cell? ⟨q, 11, none⟩ = some (.int .i64 x.f5) := (zc Zw2.out 11).trans rfl; clear hb) | (go_at_call 44; (with_reducible refine (label_Good.calls x.f1 true _ (HT.out.below HBw2.out) (hG2.out)).mono ?_); rintro e w3 ⟨rfl, hb⟩; have HBw3 := ak_ (below_step HBw2.out hb); have Zw3 := ak_ (blk_below Zw2.out hb); have cw3_0 : w3.cell? ⟨q, 0, none⟩ = some (.string x.f0) := (zc Zw3.out 0).trans rfl; have cw3_1 : w3.cell? ⟨q, 1, none⟩ = some (.string x.f1) := (zc Zw3.out 1).trans rfl; have cw3_2 : w3.cell? ⟨q, 2, none⟩ = some (.int .i64 x.f2) := (zc Zw3.out 2).trans rfl; have cw3_3 : w3.cell? ⟨q, 3, none⟩ = some (.int .i64 x.f3.f0) := (zc Zw3.out 3).trans rfl; have cw3_4 : w3.cell? ⟨q, 4, none⟩ = some (.int .i64 x.f3.f1) := (zc Zw3.out 4).trans rfl; have cw3_5 : w3.cell? ⟨q, 5, none⟩ = some (.int .i64 x.f3.f2) := (zc Zw3.out 5).trans rfl; have cw3_6 : w3.cell? ⟨q, 6, none⟩ = some (.int .i64 x.f3.f3) := (zc Zw3.out 6).trans rfl; have cw3_7 : w3.cell? ⟨q, 7, none⟩ = some (.int .i64 x.f4.f0) := (zc Zw3.out 7).trans rfl; have cw3_8 : w3.cell? ⟨q, 8, none⟩ = some (.int .i64 x.f4.f1) := (zc Zw3.out 8).trans rfl; have cw3_9 : w3.cell? ⟨q, 9, none⟩ = some (.int .i64 x.f4.f2) := (zc Zw3.out 9).trans rfl; have cw3_10 : w3.cell? ⟨q, 10, none⟩ = some (.int .i64 x.f4.f3) := (zc Zw3.out 10).trans rfl; have cw3_11 : w3.cell? ⟨q, 11, none⟩ = some (.int .i64 x.f5) := (zc Zw3.out 11).trans rfl; clear hb) | (go_at_call 77; refine (cC _ (Kd.C_below hRT.out HBw3.out) ((zc Zw3.out 0).trans rfl)).mono ?_; rw [hAN.out]; rintro e w4 ⟨rfl, hb⟩; have HBw4 := ak_ (below_step HBw3.out hb); have Zw4 := ak_ (blk_below Zw3.out hb); have cw4_0 : w4.cell? ⟨q, 0, none⟩ = some (.string x.f0) := (zc Zw4.out 0).trans rfl; have cw4_1 : w4.cell? ⟨q, 1, none⟩ = some (.string x.f1) := (zc Zw4.out 1).trans rfl; have cw4_2 : w4.cell? ⟨q, 2, none⟩ = some (.int .i64 x.f2) := (zc Zw4.out 2).trans rfl; have cw4_3 : w4.cell? ⟨q, 3, none⟩ = some (.int .i64 x.f3.f0) := (zc Zw4.out 3).trans rfl; have cw4_4 : w4.cell? ⟨q, 4, none⟩ = some (.int .i64 x.f3.f1) := (zc Zw4.out 4).trans rfl; have cw4_5 : w4.cell? ⟨q, 5, none⟩ = some (.int .i64 x.f3.f2) := (zc Zw4.out 5).trans rfl; have cw4_6 : w4.cell? ⟨q, 6, none⟩ = some (.int .i64 x.f3.f3) := (zc Zw4.out 6).trans rfl; have cw4_7 : w4.cell? ⟨q, 7, none⟩ = some (.int .i64 x.f4.f0) := (zc Zw4.out 7).trans rfl; have cw4_8 : w4.cell? ⟨q, 8, none⟩ = some (.int .i64 x.f4.f1) := (zc Zw4.out 8).trans rfl; have cw4_9 : w4.cell? ⟨q, 9, none⟩ = some (.int .i64 x.f4.f2) := (zc Zw4.out 9).trans rfl; have cw4_10 : w4.cell? ⟨q, 10, none⟩ = some (.int .i64 x.f4.f3) := (zc Zw4.out 10).trans rfl; have cw4_11 : w4.cell? ⟨q, 11, none⟩ = some (.int .i64 x.f5) := (zc Zw4.out 11).trans rfl; clear hb) | (go_at_call 42; refine (tick_Good.calls x.f2 true _ hTG.out).mono ?_; rintro e w' ⟨rfl, ⟨nd, rfl⟩⟩))
            go_ret
            exact ⟨by rw [HE.out]; rfl, pw_below_drewN HBw4.out _⟩
          · have d3 : decide (x.f5 < 0) = false := df_ t3
            by_cases t4 : x.f5 > 255
            · have d4 : decide (255 < x.f5) = true := dt_ t4
              rw [show numB x = true from dt_ (.inr (.inr (.inr t4)))] at hR
              have HE := ak_ (show R = 1 from hR.symm)
              go_wp2_with (first | (go_at_call 44; (with_reducible refine (label_Good.calls x.f0 true _ (HT.out.below HB1.out) (hG1.out)).mono ?_); rintro e w2 ⟨rfl, hb⟩; have HBw2 := ak_ (below_step HB1.out hb); have Zw2 := ak_ (blk_below Z1.out hb); have cw2_0 : w2.cell? ⟨q, 0, none⟩ = some (.string x.f0) := (zc Zw2.out 0).trans rfl; have cw2_1 : w2.cell? ⟨q, 1, none⟩ = some (.string x.f1) := (zc Zw2.out 1).trans rfl; have cw2_2 : w2.cell? ⟨q, 2, none⟩ = some (.int .i64 x.f2) := (zc Zw2.out 2).trans rfl; have cw2_3 : w2.cell? ⟨q, 3, none⟩ = some (.int .i64 x.f3.f0) := (zc Zw2.out 3).trans rfl; have cw2_4 : w2.cell? ⟨q, 4, none⟩ = some (.int .i64 x.f3.f1) := (zc Zw2.out 4).trans rfl; have cw2_5 : w2.cell? ⟨q, 5, none⟩ = some (.int .i64 x.f3.f2) := (zc Zw2.out 5).trans rfl; have cw2_6 : w2.cell? ⟨q, 6, none⟩ = some (.int .i64 x.f3.f3) := (zc Zw2.out 6).trans rfl; have cw2_7 : w2.cell? ⟨q, 7, none⟩ = some (.int .i64 x.f4.f0) := (zc Zw2.out 7).trans rfl; have cw2_8 : w2.cell? ⟨q, 8, none⟩ = some (.int .i64 x.f4.f1) := (zc Zw2.out 8).trans rfl; have cw2_9 : w2.cell? ⟨q, 9, none⟩ = some (.int .i64 x.f4.f2) := (zc Zw2.out 9).trans rfl; have cw2_10 : w2.cell? ⟨q, 10, none⟩ = some (.int .i64 x.f4.f3) := (zc Zw2.out 10).trans rfl; have cw2_11 : w2.cell? ⟨q, 11, none⟩ = some (.int .i64 x.f5) := (zc Zw2.out 11).trans rfl; clear hb) | (go_at_call 44; (with_reducible refine (label_Good.calls x.f1 true _ (HT.out.below HBw2.out) (hG2.out)).mono ?_); rintro e w3 ⟨rfl, hb⟩; have HBw3 := ak_ (below_step HBw2.out hb); have Zw3 := ak_ (blk_below Zw2.out hb); have cw3_0 : w3.cell? ⟨q, 0, none⟩ = some (.string x.f0) := (zc Zw3.out 0).trans rfl; have cw3_1 : w3.cell? ⟨q, 1, none⟩ = some (.string x.f1) := (zc Zw3.out 1).trans rfl; have cw3_2 : w3.cell? ⟨q, 2, none⟩ = some (.int .i64 x.f2) := (zc Zw3.out 2).trans rfl; have cw3_3 : w3.cell? ⟨q, 3, none⟩ = some (.int .i64 x.f3.f0) := (zc Zw3.out 3).trans rfl; have cw3_4 : w3.cell? ⟨q, 4, none⟩ = some (.int .i64 x.f3.f1) := (zc Zw3.out 4).trans rfl; have cw3_5 : w3.cell? ⟨q, 5, none⟩ = some (.int .i64 x.f3.f2) := (zc Zw3.out 5).trans rfl; have cw3_6 : w3.cell? ⟨q, 6, none⟩ = some (.int .i64 x.f3.f3) := (zc Zw3.out 6).trans rfl; have cw3_7 : w3.cell? ⟨q, 7, none⟩ = some (.int .i64 x.f4.f0) := (zc Zw3.out 7).trans rfl; have cw3_8 : w3.cell? ⟨q, 8, none⟩ = some (.int .i64 x.f4.f1) := (zc Zw3.out 8).trans rfl; have cw3_9 : w3.cell? ⟨q, 9, none⟩ = some (.int .i64 x.f4.f2) := (zc Zw3.out 9).trans rfl; have cw3_10 : w3.cell? ⟨q, 10, none⟩ = some (.int .i64 x.f4.f3) := (zc Zw3.out 10).trans rfl; have cw3_11 : w3.cell? ⟨q, 11, none⟩ = some (.int .i64 x.f5) := (zc Zw3.out 11).trans rfl; clear hb) | (go_at_call 77; refine (cC _ (Kd.C_below hRT.out HBw3.out) ((zc Zw3.out 0).trans rfl)).mono ?_; rw [hAN.out]; rintro e w4 ⟨rfl, hb⟩; have HBw4 := ak_ (below_step HBw3.out hb); have Zw4 := ak_ (blk_below Zw3.out hb); have cw4_0 : w4.cell? ⟨q, 0, none⟩ = some (.string x.f0) := (zc Zw4.out 0).trans rfl; have cw4_1 : w4.cell? ⟨q, 1, none⟩ = some (.string x.f1) := (zc Zw4.out 1).trans rfl; have cw4_2 : w4.cell? ⟨q, 2, none⟩ = some (.int .i64 x.f2) := (zc Zw4.out 2).trans rfl; have cw4_3 : w4.cell? ⟨q, 3, none⟩ = some (.int .i64 x.f3.f0) := (zc Zw4.out 3).trans rfl; have cw4_4 : w4.cell? ⟨q, 4, none⟩ = some (.int .i64 x.f3.f1) := (zc Zw4.out 4).trans rfl; have cw4_5 : w4.cell? ⟨q, 5, none⟩ = some (.int .i64 x.f3.f2) := (zc Zw4.out 5).trans rfl; have cw4_6 : w4.cell? ⟨q, 6, none⟩ = some (.int .i64 x.f3.f3) := (zc Zw4.out 6).trans rfl; have cw4_7 : w4.cell? ⟨q, 7, none⟩ = some (.int .i64 x.f4.f0) := (zc Zw4.out 7).trans rfl; have cw4_8 : w4.cell? ⟨q, 8, none⟩ = some (.int .i64 x.f4.f1) := (zc Zw4.out 8).trans rfl; have cw4_9 : w4.cell? ⟨q, 9, none⟩ = some (.int .i64 x.f4.f2) := (zc Zw4.out 9).trans rfl; have cw4_10 : w4.cell? ⟨q, 10, none⟩ = some (.int .i64 x.f4.f3) := (zc Zw4.out 10).trans rfl; have cw4_11 : w4.cell? ⟨q, 11, none⟩ = some (.int .i64 x.f5) := (zc Zw4.out 11).trans rfl; clear hb) | (go_at_call 42; refine (tick_Good.calls x.f2 true _ hTG.out).mono ?_; rintro e w' ⟨rfl, ⟨nd, rfl⟩⟩))
              go_ret
              exact ⟨by rw [HE.out]; rfl, pw_below_drewN HBw4.out _⟩
            · have d4 : decide (255 < x.f5) = false := df_ t4
              rw [show numB x = false from df_ (by omega)] at hR
              clear t1 t2 t3 t4
              cases p3 with
              | false =>
               have HE := ak_ (show R = 3 from hR.symm)
               go_wp2_with (first | (go_at_call 44; (with_reducible refine (label_Good.calls x.f0 true _ (HT.out.below HB1.out) (hG1.out)).mono ?_); rintro e w2 ⟨rfl, hb⟩; have HBw2 := ak_ (below_step HB1.out hb); have Zw2 := ak_ (blk_below Z1.out hb); have cw2_0 : w2.cell? ⟨q, 0, none⟩ = some (.string x.f0) := (zc Zw2.out 0).trans rfl; have cw2_1 : w2.cell? ⟨q, 1, none⟩ = some (.string x.f1) := (zc Zw2.out 1).trans rfl; have cw2_2 : w2.cell? ⟨q, 2, none⟩ = some (.int .i64 x.f2) := (zc Zw2.out 2).trans rfl; have cw2_3 : w2.cell? ⟨q, 3, none⟩ = some (.int .i64 x.f3.f0) := (zc Zw2.out 3).trans rfl; have cw2_4 : w2.cell? ⟨q, 4, none⟩ = some (.int .i64 x.f3.f1) := (zc Zw2.out 4).trans rfl; have cw2_5 : w2.cell? ⟨q, 5, none⟩ = some (.int .i64 x.f3.f2) := (zc Zw2.out 5).trans rfl; have cw2_6 : w2.cell? ⟨q, 6, none⟩ = some (.int .i64 x.f3.f3) := (zc Zw2.out 6).trans rfl; have cw2_7 : w2.cell? ⟨q, 7, none⟩ = some (.int .i64 x.f4.f0) := (zc Zw2.out 7).trans rfl; have cw2_8 : w2.cell? ⟨q, 8, none⟩ = some (.int .i64 x.f4.f1) := (zc Zw2.out 8).trans rfl; have cw2_9 : w2.cell? ⟨q, 9, none⟩ = some (.int .i64 x.f4.f2) := (zc Zw2.out 9).trans rfl; have cw2_10 : w2.cell? ⟨q, 10, none⟩ = some (.int .i64 x.f4.f3) := (zc Zw2.out 10).trans rfl; have cw2_11 : w2.cell? ⟨q, 11, none⟩ = some (.int .i64 x.f5) := (zc Zw2.out 11).trans rfl; clear hb) | (go_at_call 44; (with_reducible refine (label_Good.calls x.f1 true _ (HT.out.below HBw2.out) (hG2.out)).mono ?_); rintro e w3 ⟨rfl, hb⟩; have HBw3 := ak_ (below_step HBw2.out hb); have Zw3 := ak_ (blk_below Zw2.out hb); have cw3_0 : w3.cell? ⟨q, 0, none⟩ = some (.string x.f0) := (zc Zw3.out 0).trans rfl; have cw3_1 : w3.cell? ⟨q, 1, none⟩ = some (.string x.f1) := (zc Zw3.out 1).trans rfl; have cw3_2 : w3.cell? ⟨q, 2, none⟩ = some (.int .i64 x.f2) := (zc Zw3.out 2).trans rfl; have cw3_3 : w3.cell? ⟨q, 3, none⟩ = some (.int .i64 x.f3.f0) := (zc Zw3.out 3).trans rfl; have cw3_4 : w3.cell? ⟨q, 4, none⟩ = some (.int .i64 x.f3.f1) := (zc Zw3.out 4).trans rfl; have cw3_5 : w3.cell? ⟨q, 5, none⟩ = some (.int .i64 x.f3.f2) := (zc Zw3.out 5).trans rfl; have cw3_6 : w3.cell? ⟨q, 6, none⟩ = some (.int .i64 x.f3.f3) := (zc Zw3.out 6).trans rfl; have cw3_7 : w3.cell? ⟨q, 7, none⟩ = some (.int .i64 x.f4.f0) := (zc Zw3.out 7).trans rfl; have cw3_8 : w3.cell? ⟨q, 8, none⟩ = some (.int .i64 x.f4.f1) := (zc Zw3.out 8).trans rfl; have cw3_9 : w3.cell? ⟨q, 9, none⟩ = some (.int .i64 x.f4.f2) := (zc Zw3.out 9).trans rfl; have cw3_10 : w3.cell? ⟨q, 10, none⟩ = some (.int .i64 x.f4.f3) := (zc Zw3.out 10).trans rfl; have cw3_11 : w3.cell? ⟨q, 11, none⟩ = some (.int .i64 x.f5) := (zc Zw3.out 11).trans rfl; clear hb) | (go_at_call 77; refine (cC _ (Kd.C_below hRT.out HBw3.out) ((zc Zw3.out 0).trans rfl)).mono ?_; rw [hAN.out]; rintro e w4 ⟨rfl, hb⟩; have HBw4 := ak_ (below_step HBw3.out hb); have Zw4 := ak_ (blk_below Zw3.out hb); have cw4_0 : w4.cell? ⟨q, 0, none⟩ = some (.string x.f0) := (zc Zw4.out 0).trans rfl; have cw4_1 : w4.cell? ⟨q, 1, none⟩ = some (.string x.f1) := (zc Zw4.out 1).trans rfl; have cw4_2 : w4.cell? ⟨q, 2, none⟩ = some (.int .i64 x.f2) := (zc Zw4.out 2).trans rfl; have cw4_3 : w4.cell? ⟨q, 3, none⟩ = some (.int .i64 x.f3.f0) := (zc Zw4.out 3).trans rfl; have cw4_4 : w4.cell? ⟨q, 4, none⟩ = some (.int .i64 x.f3.f1) := (zc Zw4.out 4).trans rfl; have cw4_5 : w4.cell? ⟨q, 5, none⟩ = some (.int .i64 x.f3.f2) := (zc Zw4.out 5).trans rfl; have cw4_6 : w4.cell? ⟨q, 6, none⟩ = some (.int .i64 x.f3.f3) := (zc Zw4.out 6).trans rfl; have cw4_7 : w4.cell? ⟨q, 7, none⟩ = some (.int .i64 x.f4.f0) := (zc Zw4.out 7).trans rfl; have cw4_8 : w4.cell? ⟨q, 8, none⟩ = some (.int .i64 x.f4.f1) := (zc Zw4.out 8).trans rfl; have cw4_9 : w4.cell? ⟨q, 9, none⟩ = some (.int .i64 x.f4.f2) := (zc Zw4.out 9).trans rfl; have cw4_10 : w4.cell? ⟨q, 10, none⟩ = some (.int .i64 x.f4.f3) := (zc Zw4.out 10).trans rfl; have cw4_11 : w4.cell? ⟨q, 11, none⟩ = some (.int .i64 x.f5) := (zc Zw4.out 11).trans rfl; clear hb) | (go_at_call 42; refine (tick_Good.calls x.f2 true _ hTG.out).mono ?_; rintro e w' ⟨rfl, ⟨nd, rfl⟩⟩) | (go_at_call 79; (with_reducible refine (backoff_Good.calls x.f3.f0 x.f3.f1 x.f3.f2 x.f3.f3 false _ hP3.out).mono ?_); rintro e w5 ⟨rfl, hb⟩; have HBw5 := ak_ (below_step (pw_below_drewN HBw4.out _) hb); have Zw5 := ak_ (blk_below (blk_drewN Zw4.out _) hb); have cw5_0 : w5.cell? ⟨q, 0, none⟩ = some (.string x.f0) := (zc Zw5.out 0).trans rfl; have cw5_1 : w5.cell? ⟨q, 1, none⟩ = some (.string x.f1) := (zc Zw5.out 1).trans rfl; have cw5_2 : w5.cell? ⟨q, 2, none⟩ = some (.int .i64 x.f2) := (zc Zw5.out 2).trans rfl; have cw5_3 : w5.cell? ⟨q, 3, none⟩ = some (.int .i64 x.f3.f0) := (zc Zw5.out 3).trans rfl; have cw5_4 : w5.cell? ⟨q, 4, none⟩ = some (.int .i64 x.f3.f1) := (zc Zw5.out 4).trans rfl; have cw5_5 : w5.cell? ⟨q, 5, none⟩ = some (.int .i64 x.f3.f2) := (zc Zw5.out 5).trans rfl; have cw5_6 : w5.cell? ⟨q, 6, none⟩ = some (.int .i64 x.f3.f3) := (zc Zw5.out 6).trans rfl; have cw5_7 : w5.cell? ⟨q, 7, none⟩ = some (.int .i64 x.f4.f0) := (zc Zw5.out 7).trans rfl; have cw5_8 : w5.cell? ⟨q, 8, none⟩ = some (.int .i64 x.f4.f1) := (zc Zw5.out 8).trans rfl; have cw5_9 : w5.cell? ⟨q, 9, none⟩ = some (.int .i64 x.f4.f2) := (zc Zw5.out 9).trans rfl; have cw5_10 : w5.cell? ⟨q, 10, none⟩ = some (.int .i64 x.f4.f3) := (zc Zw5.out 10).trans rfl; have cw5_11 : w5.cell? ⟨q, 11, none⟩ = some (.int .i64 x.f5) := (zc Zw5.out 11).trans rfl; clear hb))
               go_ret
               exact ⟨by rw [HE.out]; rfl, HBw5.out⟩
              | true =>
               cases p4 with
               | false =>
                have HE := ak_ (show R = 3 from hR.symm)
                go_wp2_with (first | (go_at_call 44; (with_reducible refine (label_Good.calls x.f0 true _ (HT.out.below HB1.out) (hG1.out)).mono ?_); rintro e w2 ⟨rfl, hb⟩; have HBw2 := ak_ (below_step HB1.out hb); have Zw2 := ak_ (blk_below Z1.out hb); have cw2_0 : w2.cell? ⟨q, 0, none⟩ = some (.string x.f0) := (zc Zw2.out 0).trans rfl; have cw2_1 : w2.cell? ⟨q, 1, none⟩ = some (.string x.f1) := (zc Zw2.out 1).trans rfl; have cw2_2 : w2.cell? ⟨q, 2, none⟩ = some (.int .i64 x.f2) := (zc Zw2.out 2).trans rfl; have cw2_3 : w2.cell? ⟨q, 3, none⟩ = some (.int .i64 x.f3.f0) := (zc Zw2.out 3).trans rfl; have cw2_4 : w2.cell? ⟨q, 4, none⟩ = some (.int .i64 x.f3.f1) := (zc Zw2.out 4).trans rfl; have cw2_5 : w2.cell? ⟨q, 5, none⟩ = some (.int .i64 x.f3.f2) := (zc Zw2.out 5).trans rfl; have cw2_6 : w2.cell? ⟨q, 6, none⟩ = some (.int .i64 x.f3.f3) := (zc Zw2.out 6).trans rfl; have cw2_7 : w2.cell? ⟨q, 7, none⟩ = some (.int .i64 x.f4.f0) := (zc Zw2.out 7).trans rfl; have cw2_8 : w2.cell? ⟨q, 8, none⟩ = some (.int .i64 x.f4.f1) := (zc Zw2.out 8).trans rfl; have cw2_9 : w2.cell? ⟨q, 9, none⟩ = some (.int .i64 x.f4.f2) := (zc Zw2.out 9).trans rfl; have cw2_10 : w2.cell? ⟨q, 10, none⟩ = some (.int .i64 x.f4.f3) := (zc Zw2.out 10).trans rfl; have cw2_11 : w2.cell? ⟨q, 11, none⟩ = some (.int .i64 x.f5) := (zc Zw2.out 11).trans rfl; clear hb) | (go_at_call 44; (with_reducible refine (label_Good.calls x.f1 true _ (HT.out.below HBw2.out) (hG2.out)).mono ?_); rintro e w3 ⟨rfl, hb⟩; have HBw3 := ak_ (below_step HBw2.out hb); have Zw3 := ak_ (blk_below Zw2.out hb); have cw3_0 : w3.cell? ⟨q, 0, none⟩ = some (.string x.f0) := (zc Zw3.out 0).trans rfl; have cw3_1 : w3.cell? ⟨q, 1, none⟩ = some (.string x.f1) := (zc Zw3.out 1).trans rfl; have cw3_2 : w3.cell? ⟨q, 2, none⟩ = some (.int .i64 x.f2) := (zc Zw3.out 2).trans rfl; have cw3_3 : w3.cell? ⟨q, 3, none⟩ = some (.int .i64 x.f3.f0) := (zc Zw3.out 3).trans rfl; have cw3_4 : w3.cell? ⟨q, 4, none⟩ = some (.int .i64 x.f3.f1) := (zc Zw3.out 4).trans rfl; have cw3_5 : w3.cell? ⟨q, 5, none⟩ = some (.int .i64 x.f3.f2) := (zc Zw3.out 5).trans rfl; have cw3_6 : w3.cell? ⟨q, 6, none⟩ = some (.int .i64 x.f3.f3) := (zc Zw3.out 6).trans rfl; have cw3_7 : w3.cell? ⟨q, 7, none⟩ = some (.int .i64 x.f4.f0) := (zc Zw3.out 7).trans rfl; have cw3_8 : w3.cell? ⟨q, 8, none⟩ = some (.int .i64 x.f4.f1) := (zc Zw3.out 8).trans rfl; have cw3_9 : w3.cell? ⟨q, 9, none⟩ = some (.int .i64 x.f4.f2) := (zc Zw3.out 9).trans rfl; have cw3_10 : w3.cell? ⟨q, 10, none⟩ = some (.int .i64 x.f4.f3) := (zc Zw3.out 10).trans rfl; have cw3_11 : w3.cell? ⟨q, 11, none⟩ = some (.int .i64 x.f5) := (zc Zw3.out 11).trans rfl; clear hb) | (go_at_call 77; refine (cC _ (Kd.C_below hRT.out HBw3.out) ((zc Zw3.out 0).trans rfl)).mono ?_; rw [hAN.out]; rintro e w4 ⟨rfl, hb⟩; have HBw4 := ak_ (below_step HBw3.out hb); have Zw4 := ak_ (blk_below Zw3.out hb); have cw4_0 : w4.cell? ⟨q, 0, none⟩ = some (.string x.f0) := (zc Zw4.out 0).trans rfl; have cw4_1 : w4.cell? ⟨q, 1, none⟩ = some (.string x.f1) := (zc Zw4.out 1).trans rfl; have cw4_2 : w4.cell? ⟨q, 2, none⟩ = some (.int .i64 x.f2) := (zc Zw4.out 2).trans rfl; have cw4_3 : w4.cell? ⟨q, 3, none⟩ = some (.int .i64 x.f3.f0) := (zc Zw4.out 3).trans rfl; have cw4_4 : w4.cell? ⟨q, 4, none⟩ = some (.int .i64 x.f3.f1) := (zc Zw4.out 4).trans rfl; have cw4_5 : w4.cell? ⟨q, 5, none⟩ = some (.int .i64 x.f3.f2) := (zc Zw4.out 5).trans rfl; have cw4_6 : w4.cell? ⟨q, 6, none⟩ = some (.int .i64 x.f3.f3) := (zc Zw4.out 6).trans rfl; have cw4_7 : w4.cell? ⟨q, 7, none⟩ = some (.int .i64 x.f4.f0) := (zc Zw4.out 7).trans rfl; have cw4_8 : w4.cell? ⟨q, 8, none⟩ = some (.int .i64 x.f4.f1) := (zc Zw4.out 8).trans rfl; have cw4_9 : w4.cell? ⟨q, 9, none⟩ = some (.int .i64 x.f4.f2) := (zc Zw4.out 9).trans rfl; have cw4_10 : w4.cell? ⟨q, 10, none⟩ = some (.int .i64 x.f4.f3) := (zc Zw4.out 10).trans rfl; have cw4_11 : w4.cell? ⟨q, 11, none⟩ = some (.int .i64 x.f5) := (zc Zw4.out 11).trans rfl; clear hb) | (go_at_call 42; refine (tick_Good.calls x.f2 true _ hTG.out).mono ?_; rintro e w' ⟨rfl, ⟨nd, rfl⟩⟩) | (go_at_call 79; (with_reducible refine (backoff_Good.calls x.f3.f0 x.f3.f1 x.f3.f2 x.f3.f3 true _ hP3.out).mono ?_); rintro e w5 ⟨rfl, hb⟩; have HBw5 := ak_ (below_step (pw_below_drewN HBw4.out _) hb); have Zw5 := ak_ (blk_below (blk_drewN Zw4.out _) hb); have cw5_0 : w5.cell? ⟨q, 0, none⟩ = some (.string x.f0) := (zc Zw5.out 0).trans rfl; have cw5_1 : w5.cell? ⟨q, 1, none⟩ = some (.string x.f1) := (zc Zw5.out 1).trans rfl; have cw5_2 : w5.cell? ⟨q, 2, none⟩ = some (.int .i64 x.f2) := (zc Zw5.out 2).trans rfl; have cw5_3 : w5.cell? ⟨q, 3, none⟩ = some (.int .i64 x.f3.f0) := (zc Zw5.out 3).trans rfl; have cw5_4 : w5.cell? ⟨q, 4, none⟩ = some (.int .i64 x.f3.f1) := (zc Zw5.out 4).trans rfl; have cw5_5 : w5.cell? ⟨q, 5, none⟩ = some (.int .i64 x.f3.f2) := (zc Zw5.out 5).trans rfl; have cw5_6 : w5.cell? ⟨q, 6, none⟩ = some (.int .i64 x.f3.f3) := (zc Zw5.out 6).trans rfl; have cw5_7 : w5.cell? ⟨q, 7, none⟩ = some (.int .i64 x.f4.f0) := (zc Zw5.out 7).trans rfl; have cw5_8 : w5.cell? ⟨q, 8, none⟩ = some (.int .i64 x.f4.f1) := (zc Zw5.out 8).trans rfl; have cw5_9 : w5.cell? ⟨q, 9, none⟩ = some (.int .i64 x.f4.f2) := (zc Zw5.out 9).trans rfl; have cw5_10 : w5.cell? ⟨q, 10, none⟩ = some (.int .i64 x.f4.f3) := (zc Zw5.out 10).trans rfl; have cw5_11 : w5.cell? ⟨q, 11, none⟩ = some (.int .i64 x.f5) := (zc Zw5.out 11).trans rfl; clear hb) | (go_at_call 79; (with_reducible refine (backoff_Good.calls x.f4.f0 x.f4.f1 x.f4.f2 x.f4.f3 false _ hP4.out).mono ?_); rintro e w6 ⟨rfl, hb⟩; have HBw6 := ak_ (below_step HBw5.out hb); have Zw6 := ak_ (blk_below Zw5.out hb); have cw6_0 : w6.cell? ⟨q, 0, none⟩ = some (.string x.f0) := (zc Zw6.out 0).trans rfl; have cw6_1 : w6.cell? ⟨q, 1, none⟩ = some (.string x.f1) := (zc Zw6.out 1).trans rfl; have cw6_2 : w6.cell? ⟨q, 2, none⟩ = some (.int .i64 x.f2) := (zc Zw6.out 2).trans rfl; have cw6_3 : w6.cell? ⟨q, 3, none⟩ = some (.int .i64 x.f3.f0) := (zc Zw6.out 3).trans rfl; have cw6_4 : w6.cell? ⟨q, 4, none⟩ = some (.int .i64 x.f3.f1) := (zc Zw6.out 4).trans rfl; have cw6_5 : w6.cell? ⟨q, 5, none⟩ = some (.int .i64 x.f3.f2) := (zc Zw6.out 5).trans rfl; have cw6_6 : w6.cell? ⟨q, 6, none⟩ = some (.int .i64 x.f3.f3) := (zc Zw6.out 6).trans rfl; have cw6_7 : w6.cell? ⟨q, 7, none⟩ = some (.int .i64 x.f4.f0) := (zc Zw6.out 7).trans rfl; have cw6_8 : w6.cell? ⟨q, 8, none⟩ = some (.int .i64 x.f4.f1) := (zc Zw6.out 8).trans rfl; have cw6_9 : w6.cell? ⟨q, 9, none⟩ = some (.int .i64 x.f4.f2) := (zc Zw6.out 9).trans rfl; have cw6_10 : w6.cell? ⟨q, 10, none⟩ = some (.int .i64 x.f4.f3) := (zc Zw6.out 10).trans rfl; have cw6_11 : w6.cell? ⟨q, 11, none⟩ = some (.int .i64 x.f5) := (zc Zw6.out 11).trans rfl; clear hb))
                go_ret
                exact ⟨by rw [HE.out]; rfl, HBw6.out⟩
               | true =>
                have HE := ak_ (show R = 0 from hR.symm)
                go_wp2_with (first | (go_at_call 44; (with_reducible refine (label_Good.calls x.f0 true _ (HT.out.below HB1.out) (hG1.out)).mono ?_); rintro e w2 ⟨rfl, hb⟩; have HBw2 := ak_ (below_step HB1.out hb); have Zw2 := ak_ (blk_below Z1.out hb); have cw2_0 : w2.cell? ⟨q, 0, none⟩ = some (.string x.f0) := (zc Zw2.out 0).trans rfl; have cw2_1 : w2.cell? ⟨q, 1, none⟩ = some (.string x.f1) := (zc Zw2.out 1).trans rfl; have cw2_2 : w2.cell? ⟨q, 2, none⟩ = some (.int .i64 x.f2) := (zc Zw2.out 2).trans rfl; have cw2_3 : w2.cell? ⟨q, 3, none⟩ = some (.int .i64 x.f3.f0) := (zc Zw2.out 3).trans rfl; have cw2_4 : w2.cell? ⟨q, 4, none⟩ = some (.int .i64 x.f3.f1) := (zc Zw2.out 4).trans rfl; have cw2_5 : w2.cell? ⟨q, 5, none⟩ = some (.int .i64 x.f3.f2) := (zc Zw2.out 5).trans rfl; have cw2_6 : w2.cell? ⟨q, 6, none⟩ = some (.int .i64 x.f3.f3) := (zc Zw2.out 6).trans rfl; have cw2_7 : w2.cell? ⟨q, 7, none⟩ = some (.int .i64 x.f4.f0) := (zc Zw2.out 7).trans rfl; have cw2_8 : w2.cell? ⟨q, 8, none⟩ = some (.int .i64 x.f4.f1) := (zc Zw2.out 8).trans rfl; have cw2_9 : w2.cell? ⟨q, 9, none⟩ = some (.int .i64 x.f4.f2) := (zc Zw2.out 9).trans rfl; have cw2_10 : w2.cell? ⟨q, 10, none⟩ = some (.int .i64 x.f4.f3) := (zc Zw2.out 10).trans rfl; have cw2_11 : w2.cell? ⟨q, 11, none⟩ = some (.int .i64 x.f5) := (zc Zw2.out 11).trans rfl; clear hb) | (go_at_call 44; (with_reducible refine (label_Good.calls x.f1 true _ (HT.out.below HBw2.out) (hG2.out)).mono ?_); rintro e w3 ⟨rfl, hb⟩; have HBw3 := ak_ (below_step HBw2.out hb); have Zw3 := ak_ (blk_below Zw2.out hb); have cw3_0 : w3.cell? ⟨q, 0, none⟩ = some (.string x.f0) := (zc Zw3.out 0).trans rfl; have cw3_1 : w3.cell? ⟨q, 1, none⟩ = some (.string x.f1) := (zc Zw3.out 1).trans rfl; have cw3_2 : w3.cell? ⟨q, 2, none⟩ = some (.int .i64 x.f2) := (zc Zw3.out 2).trans rfl; have cw3_3 : w3.cell? ⟨q, 3, none⟩ = some (.int .i64 x.f3.f0) := (zc Zw3.out 3).trans rfl; have cw3_4 : w3.cell? ⟨q, 4, none⟩ = some (.int .i64 x.f3.f1) := (zc Zw3.out 4).trans rfl; have cw3_5 : w3.cell? ⟨q, 5, none⟩ = some (.int .i64 x.f3.f2) := (zc Zw3.out 5).trans rfl; have cw3_6 : w3.cell? ⟨q, 6, none⟩ = some (.int .i64 x.f3.f3) := (zc Zw3.out 6).trans rfl; have cw3_7 : w3.cell? ⟨q, 7, none⟩ = some (.int .i64 x.f4.f0) := (zc Zw3.out 7).trans rfl; have cw3_8 : w3.cell? ⟨q, 8, none⟩ = some (.int .i64 x.f4.f1) := (zc Zw3.out 8).trans rfl; have cw3_9 : w3.cell? ⟨q, 9, none⟩ = some (.int .i64 x.f4.f2) := (zc Zw3.out 9).trans rfl; have cw3_10 : w3.cell? ⟨q, 10, none⟩ = some (.int .i64 x.f4.f3) := (zc Zw3.out 10).trans rfl; have cw3_11 : w3.cell? ⟨q, 11, none⟩ = some (.int .i64 x.f5) := (zc Zw3.out 11).trans rfl; clear hb) | (go_at_call 77; refine (cC _ (Kd.C_below hRT.out HBw3.out) ((zc Zw3.out 0).trans rfl)).mono ?_; rw [hAN.out]; rintro e w4 ⟨rfl, hb⟩; have HBw4 := ak_ (below_step HBw3.out hb); have Zw4 := ak_ (blk_below Zw3.out hb); have cw4_0 : w4.cell? ⟨q, 0, none⟩ = some (.string x.f0) := (zc Zw4.out 0).trans rfl; have cw4_1 : w4.cell? ⟨q, 1, none⟩ = some (.string x.f1) := (zc Zw4.out 1).trans rfl; have cw4_2 : w4.cell? ⟨q, 2, none⟩ = some (.int .i64 x.f2) := (zc Zw4.out 2).trans rfl; have cw4_3 : w4.cell? ⟨q, 3, none⟩ = some (.int .i64 x.f3.f0) := (zc Zw4.out 3).trans rfl; have cw4_4 : w4.cell? ⟨q, 4, none⟩ = some (.int .i64 x.f3.f1) := (zc Zw4.out 4).trans rfl; have cw4_5 : w4.cell? ⟨q, 5, none⟩ = some (.int .i64 x.f3.f2) := (zc Zw4.out 5).trans rfl; have cw4_6 : w4.cell? ⟨q, 6, none⟩ = some (.int .i64 x.f3.f3) := (zc Zw4.out 6).trans rfl; have cw4_7 : w4.cell? ⟨q, 7, none⟩ = some (.int .i64 x.f4.f0) := (zc Zw4.out 7).trans rfl; have cw4_8 : w4.cell? ⟨q, 8, none⟩ = some (.int .i64 x.f4.f1) := (zc Zw4.out 8).trans rfl; have cw4_9 : w4.cell? ⟨q, 9, none⟩ = some (.int .i64 x.f4.f2) := (zc Zw4.out 9).trans rfl; have cw4_10 : w4.cell? ⟨q, 10, none⟩ = some (.int .i64 x.f4.f3) := (zc Zw4.out 10).trans rfl; have cw4_11 : w4.cell? ⟨q, 11, none⟩ = some (.int .i64 x.f5) := (zc Zw4.out 11).trans rfl; clear hb) | (go_at_call 42; refine (tick_Good.calls x.f2 true _ hTG.out).mono ?_; rintro e w' ⟨rfl, ⟨nd, rfl⟩⟩) | (go_at_call 79; (with_reducible refine (backoff_Good.calls x.f3.f0 x.f3.f1 x.f3.f2 x.f3.f3 true _ hP3.out).mono ?_); rintro e w5 ⟨rfl, hb⟩; have HBw5 := ak_ (below_step (pw_below_drewN HBw4.out _) hb); have Zw5 := ak_ (blk_below (blk_drewN Zw4.out _) hb); have cw5_0 : w5.cell? ⟨q, 0, none⟩ = some (.string x.f0) := (zc Zw5.out 0).trans rfl; have cw5_1 : w5.cell? ⟨q, 1, none⟩ = some (.string x.f1) := (zc Zw5.out 1).trans rfl; have cw5_2 : w5.cell? ⟨q, 2, none⟩ = some (.int .i64 x.f2) := (zc Zw5.out 2).trans rfl; have cw5_3 : w5.cell? ⟨q, 3, none⟩ = some (.int .i64 x.f3.f0) := (zc Zw5.out 3).trans rfl; have cw5_4 : w5.cell? ⟨q, 4, none⟩ = some (.int .i64 x.f3.f1) := (zc Zw5.out 4).trans rfl; have cw5_5 : w5.cell? ⟨q, 5, none⟩ = some (.int .i64 x.f3.f2) := (zc Zw5.out 5).trans rfl; have cw5_6 : w5.cell? ⟨q, 6, none⟩ = some (.int .i64 x.f3.f3) := (zc Zw5.out 6).trans rfl; have cw5_7 : w5.cell? ⟨q, 7, none⟩ = some (.int .i64 x.f4.f0) := (zc Zw5.out 7).trans rfl; have cw5_8 : w5.cell? ⟨q, 8, none⟩ = some (.int .i64 x.f4.f1) := (zc Zw5.out 8).trans rfl; have cw5_9 : w5.cell? ⟨q, 9, none⟩ = some (.int .i64 x.f4.f2) := (zc Zw5.out 9).trans rfl; have cw5_10 : w5.cell? ⟨q, 10, none⟩ = some (.int .i64 x.f4.f3) := (zc Zw5.out 10).trans rfl; have cw5_11 : w5.cell? ⟨q, 11, none⟩ = some (.int .i64 x.f5) := (zc Zw5.out 11).trans rfl; clear hb) | (go_at_call 79; (with_reducible refine (backoff_Good.calls x.f4.f0 x.f4.f1 x.f4.f2 x.f4.f3 true _ hP4.out).mono ?_); rintro e w6 ⟨rfl, hb⟩; have HBw6 := ak_ (below_step HBw5.out hb); have Zw6 := ak_ (blk_below Zw5.out hb); have cw6_0 : w6.cell? ⟨q, 0, none⟩ = some (.string x.f0) := (zc Zw6.out 0).trans rfl; have cw6_1 : w6.cell? ⟨q, 1, none⟩ = some (.string x.f1) := (zc Zw6.out 1).trans rfl; have cw6_2 : w6.cell? ⟨q, 2, none⟩ = some (.int .i64 x.f2) := (zc Zw6.out 2).trans rfl; have cw6_3 : w6.cell? ⟨q, 3, none⟩ = some (.int .i64 x.f3.f0) := (zc Zw6.out 3).trans rfl; have cw6_4 : w6.cell? ⟨q, 4, none⟩ = some (.int .i64 x.f3.f1) := (zc Zw6.out 4).trans rfl; have cw6_5 : w6.cell? ⟨q, 5, none⟩ = some (.int .i64 x.f3.f2) := (zc Zw6.out 5).trans rfl; have cw6_6 : w6.cell? ⟨q, 6, none⟩ = some (.int .i64 x.f3.f3) := (zc Zw6.out 6).trans rfl; have cw6_7 : w6.cell? ⟨q, 7, none⟩ = some (.int .i64 x.f4.f0) := (zc Zw6.out 7).trans rfl; have cw6_8 : w6.cell? ⟨q, 8, none⟩ = some (.int .i64 x.f4.f1) := (zc Zw6.out 8).trans rfl; have cw6_9 : w6.cell? ⟨q, 9, none⟩ = some (.int .i64 x.f4.f2) := (zc Zw6.out 9).trans rfl; have cw6_10 : w6.cell? ⟨q, 10, none⟩ = some (.int .i64 x.f4.f3) := (zc Zw6.out 10).trans rfl; have cw6_11 : w6.cell? ⟨q, 11, none⟩ = some (.int .i64 x.f5) := (zc Zw6.out 11).trans rfl; clear hb))
                go_ret
                exact ⟨by rw [HE.out]; rfl, HBw6.out⟩
 · rw [if_neg hh] at h
   cases h
mutual
def uR02_At.j0 : Nat → ByteArray → Int → Int → Int → Int → Int → Bool → Option (Int × Int)
 | 0, _, _, _, _, _, _, _ => none
 | k + 1, x0, x1, x6, x7, x8, x9, x24 => if x24 = true then (uR02_At.j1 k x0 x1 x6 2 (wrap32 ((wrap32 (x6)) - 192)) 128) else (uR02_At.j1 k x0 x1 x6 x7 x8 x9)
def uR02_At.j1 : Nat → ByteArray → Int → Int → Int → Int → Int → Option (Int × Int)
 | 0, _, _, _, _, _, _ => none
 | k + 1, x0, x1, x6, x7, x8, x9 => if x6 ≥ 224 then (uR02_At.j2 k x0 x1 x6 x7 x8 x9 (decide (x6 ≤ 239))) else (uR02_At.j2 k x0 x1 x6 x7 x8 x9 false)
def uR02_At.j2 : Nat → ByteArray → Int → Int → Int → Int → Int → Bool → Option (Int × Int)
 | 0, _, _, _, _, _, _, _ => none
 | k + 1, x0, x1, x6, x7, x8, x9, x33 => if x33 = true then (uR02_At.j3 k x0 x1 x6 3 (wrap32 ((wrap32 (x6)) - 224)) 2048) else (uR02_At.j3 k x0 x1 x6 x7 x8 x9)
def uR02_At.j3 : Nat → ByteArray → Int → Int → Int → Int → Int → Option (Int × Int)
 | 0, _, _, _, _, _, _ => none
 | k + 1, x0, x1, x6, x7, x8, x9 => if x6 ≥ 240 then (uR02_At.j4 k x0 x1 x6 x7 x8 x9 (decide (x6 ≤ 244))) else (uR02_At.j4 k x0 x1 x6 x7 x8 x9 false)
def uR02_At.j4 : Nat → ByteArray → Int → Int → Int → Int → Int → Bool → Option (Int × Int)
 | 0, _, _, _, _, _, _, _ => none
 | k + 1, x0, x1, x6, x7, x8, x9, x42 => if x42 = true then (uR02_At.j5 k x0 x1 4 (wrap32 ((wrap32 (x6)) - 240)) 65536) else (uR02_At.j5 k x0 x1 x7 x8 x9)
def uR02_At.j5 : Nat → ByteArray → Int → Int → Int → Int → Option (Int × Int)
 | 0, _, _, _, _, _ => none
 | k + 1, x0, x1, x7, x8, x9 => if x7 = 0 then (uR02_At.j6 k x0 x1 x7 x8 x9 true) else (uR02_At.j6 k x0 x1 x7 x8 x9 (decide ((wrap64 (x1 + x7)) > (x0.size : Int))))
def uR02_At.j6 : Nat → ByteArray → Int → Int → Int → Int → Bool → Option (Int × Int)
 | 0, _, _, _, _, _, _ => none
 | k + 1, x0, x1, x7, x8, x9, x55 => if x55 = true then (some (0, 0)) else (uR02_At.l0 k x0 x1 x7 x8 x9 1)
def uR02_At.l0 : Nat → ByteArray → Int → Int → Int → Int → Int → Option (Int × Int)
 | 0, _, _, _, _, _, _ => none
 | k + 1, x0, x1, x7, x8, x9, x10 => if x10 < x7 then (if 0 ≤ (wrap64 (x1 + x10)) then (if (wrap64 (x1 + x10)) < (x0.size : Int) then (if (bt x0 (wrap64 (x1 + x10))) < 128 then (some (0, 0)) else (if (bt x0 (wrap64 (x1 + x10))) > 191 then (some (0, 0)) else (uR02_At.l0 k x0 x1 x7 (wrap32 ((wrap32 ((wrap32 (64 * x8)) + (wrap32 (bt x0 (wrap64 (x1 + x10)))))) - 128)) x9 (wrap64 (x10 + 1))))) else (none)) else (none)) else (if x8 < x9 then (some (0, 0)) else (if x8 > 1114111 then (some (0, 0)) else (if x8 ≥ 55296 then (if x8 ≤ 57343 then (some (0, 0)) else (some (x8, x7))) else (some (x8, x7)))))
end
def uR02_At.f (k : Nat) (a0 : ByteArray) (a1 : Int) : Option (Int × Int) := if 0 ≤ a1 then (if a1 < (a0.size : Int) then (if (bt a0 a1) < 128 then (some (wrap32 (bt a0 a1), 1)) else (if (bt a0 a1) ≥ 194 then (uR02_At.j0 k a0 a1 (bt a0 a1) 0 0 0 (decide ((bt a0 a1) ≤ 223))) else (uR02_At.j0 k a0 a1 (bt a0 a1) 0 0 0 false))) else (none)) else (none)
theorem uR02_At.calls (k : Nat) (a0 : ByteArray) (a1 : Int) (r1 : Int) (r2 : Int) (w : World) (h : uR02_At.f k a0 a1 = some (r1, r2)) :
 Calls Tryd.prog 63 #[.string a0, .int .i64 a1] w fun e w' => e = .returned (.tuple #[.int .i32 r1, .int .i64 r2]) ∧ Drawn0 w w' := by
 have H : (if 0 ≤ a1 then (if a1 < (a0.size : Int) then (if (bt a0 a1) < 128 then (some (wrap32 (bt a0 a1), 1)) else (if (bt a0 a1) ≥ 194 then (uR02_At.j0 k a0 a1 (bt a0 a1) 0 0 0 (decide ((bt a0 a1) ≤ 223))) else (uR02_At.j0 k a0 a1 (bt a0 a1) 0 0 0 false))) else (none)) else (none)) = some (r1, r2) := h
 clear h
 by_cases c3 : 0 ≤ a1
 · rw [if_pos c3] at H
   have c3b0 : decide (0 ≤ a1) = true := dt_ c3
   clear c3
   by_cases c4 : a1 < (a0.size : Int)
   · rw [if_pos c4] at H
     have c4b0 : decide (a1 < (a0.size : Int)) = true := dt_ c4
     clear c4
     have HF6 := ak_ H
     clear H
     have p5 : 0 ≤ (a1 : Int) := of_decide_eq_true (by assumption)
     have q5 : a1 < (a0.size : Int) := of_decide_eq_true (by assumption)
     have hx5 := bt_at a0 a1
     replace p5 := eq_true p5
     replace q5 := eq_true q5
     go_enter Tryd.func63, Tryd.ntmps63
     go_upto_if 16 with (fail)
     have H := HF6.out
     clear HF6
     by_cases c7 : (bt a0 a1) < 128
     · rw [if_pos c7] at H
       have c7b0 : decide ((bt a0 a1) < 128) = true := dt_ c7
       clear c7
       (first | rw [c7b0] | (simp only [i64_w, i32_w]; rw [c7b0]) | skip)
       simp only [Option.some.injEq, Prod.mk.injEq] at H
       obtain ⟨rfl, rfl⟩ := H
       go_wp2
       go_ret2
       exact ⟨by first | rfl | simp [*], by repeat (first | exact Drawn0.refl _ | apply Drawn0.step)⟩
     rw [if_neg c7] at H
     have c7b0 : decide ((bt a0 a1) < 128) = false := df_ c7
     clear c7
     (first | rw [c7b0] | (simp only [i64_w, i32_w]; rw [c7b0]) | skip)
     have HC8 := ak_ H
     clear H
     go_upto_region 7 with (fail)
     go_cut [24] (fun v24 wc => ∃ (kq : Nat) (x24_7 : Bool), v24 = .bool x24_7 ∧ Aside0 (uR02_At.j0 kq a0 a1 (bt a0 a1) 0 0 0 x24_7 = some (r1, r2)) ∧ Aside0 (kq ≤ k) ∧ Drawn0 w wc)
     case first =>
      have H := HC8.out
      clear HC8
      by_cases c9 : (bt a0 a1) ≥ 194
      · rw [if_pos c9] at H
        have c9b0 : decide (194 ≤ (bt a0 a1)) = true := dt_ c9
        clear c9
        (first | rw [c9b0] | (simp only [i64_w, i32_w]; rw [c9b0]) | skip)
        have H' := ak_ H
        clear H
        go_wp2
        go_meet
        case rel => exact ⟨_, (decide ((bt a0 a1) ≤ 223)), (by first | rfl | simp [*]), H', ⟨by first | omega | exact Nat.le_refl _⟩, by repeat (first | exact Drawn0.refl _ | apply Drawn0.step)⟩
      rw [if_neg c9] at H
      have c9b0 : decide (194 ≤ (bt a0 a1)) = false := df_ c9
      clear c9
      (first | rw [c9b0] | (simp only [i64_w, i32_w]; rw [c9b0]) | skip)
      have H' := ak_ H
      clear H
      go_wp2
      go_meet
      case rel => exact ⟨_, (false), (by first | rfl | simp [*]), H', ⟨by first | omega | exact Nat.le_refl _⟩, by repeat (first | exact Drawn0.refl _ | apply Drawn0.step)⟩
     case rest =>
      clear HC8
      try clear p2
      try clear c3
      try clear c3b0
      try clear p3
      try clear c4
      try clear c4b0
      try clear p5
      try clear q5
      try clear hx5
      try clear c6
      try clear c7
      try clear c7b0
      try clear c9
      try clear c9b0
      try clear p5
      try clear q5
      obtain ⟨kq, x24_7, rfl, HA, HJ7, ⟨mc7, rfl⟩⟩ := hcut
      cases kq with
      | zero => exact absurd HA.out (by simp [uR02_At.j0])
      | succ kj7 =>
       have H := HA.out
       clear HA
       simp only [uR02_At.j0] at H
       have HC10 := ak_ H
       clear H
       go_upto_if 24 with (fail)
       go_cut [7, 8, 9] (fun v7 v8 v9 wc => ∃ (kq : Nat) (x7_9 : Int) (x8_9 : Int) (x9_9 : Int), v7 = .int .i64 x7_9 ∧ v8 = .int .i32 x8_9 ∧ v9 = .int .i32 x9_9 ∧ Aside0 (uR02_At.j1 kq a0 a1 (bt a0 a1) x7_9 x8_9 x9_9 = some (r1, r2)) ∧ Aside0 (kq ≤ kj7) ∧ Drawn0 w wc)
       case first =>
        have H := HC10.out
        clear HC10
        by_cases c11 : x24_7 = true
        · subst c11
          have H1 : (uR02_At.j1 kj7 a0 a1 (bt a0 a1) 2 (wrap32 ((wrap32 ((bt a0 a1))) - 192)) 128) = some (r1, r2) := by rw [if_pos rfl] at H; exact H
          clear H
          have H := H1
          clear H1
          have H' := ak_ H
          clear H
          go_wp2
          go_meet
          case rel => exact ⟨_, (2), (wrap32 ((wrap32 ((bt a0 a1))) - 192)), (128), (by first | rfl | simp [*]), (by first | rfl | simp [*]), (by first | rfl | simp [*]), H', ⟨by have := HJ7.out; first | omega | exact Nat.le_refl _⟩, by repeat (first | exact Drawn0.refl _ | apply Drawn0.step)⟩
        replace c11 := Bool.eq_false_iff.mpr c11
        subst c11
        have H1 : (uR02_At.j1 kj7 a0 a1 (bt a0 a1) 0 0 0) = some (r1, r2) := by rw [if_neg (show ¬ (false = true) by decide)] at H; exact H
        clear H
        have H := H1
        clear H1
        have H' := ak_ H
        clear H
        go_wp2
        go_meet
        case rel => exact ⟨_, (0), (0), (0), (by first | rfl | simp [*]), (by first | rfl | simp [*]), (by first | rfl | simp [*]), H', ⟨by have := HJ7.out; first | omega | exact Nat.le_refl _⟩, by repeat (first | exact Drawn0.refl _ | apply Drawn0.step)⟩
       case rest =>
        clear HC10
        try clear c1
        try clear p2
        try clear c3
        try clear c3b0
        try clear p3
        try clear c4
        try clear c4b0
        try clear p5
        try clear q5
        try clear hx5
        try clear c6
        try clear c7
        try clear c7b0
        try clear c9
        try clear c9b0
        try clear c11
        try clear p2
        try clear p3
        try clear p5
        try clear q5
        obtain ⟨kq, x7_9, x8_9, x9_9, rfl, rfl, rfl, HA, HJ9, ⟨mc9, rfl⟩⟩ := hcut
        cases kq with
        | zero => exact absurd HA.out (by simp [uR02_At.j1])
        | succ kj9 =>
         have H := HA.out
         clear HA
         simp only [uR02_At.j1] at H
         have HC12 := ak_ H
         clear H
         go_upto_region 11 with (fail)
         go_cut [33] (fun v33 wc => ∃ (kq : Nat) (x33_11 : Bool), v33 = .bool x33_11 ∧ Aside0 (uR02_At.j2 kq a0 a1 (bt a0 a1) x7_9 x8_9 x9_9 x33_11 = some (r1, r2)) ∧ Aside0 (kq ≤ kj9) ∧ Drawn0 w wc)
         case first =>
          have H := HC12.out
          clear HC12
          by_cases c13 : (bt a0 a1) ≥ 224
          · rw [if_pos c13] at H
            have c13b0 : decide (224 ≤ (bt a0 a1)) = true := dt_ c13
            clear c13
            (first | rw [c13b0] | (simp only [i64_w, i32_w]; rw [c13b0]) | skip)
            have H' := ak_ H
            clear H
            go_wp2
            go_meet
            case rel => exact ⟨_, (decide ((bt a0 a1) ≤ 239)), (by first | rfl | simp [*]), H', ⟨by have := HJ7.out; have := HJ9.out; first | omega | exact Nat.le_refl _⟩, by repeat (first | exact Drawn0.refl _ | apply Drawn0.step)⟩
          rw [if_neg c13] at H
          have c13b0 : decide (224 ≤ (bt a0 a1)) = false := df_ c13
          clear c13
          (first | rw [c13b0] | (simp only [i64_w, i32_w]; rw [c13b0]) | skip)
          have H' := ak_ H
          clear H
          go_wp2
          go_meet
          case rel => exact ⟨_, (false), (by first | rfl | simp [*]), H', ⟨by have := HJ7.out; have := HJ9.out; first | omega | exact Nat.le_refl _⟩, by repeat (first | exact Drawn0.refl _ | apply Drawn0.step)⟩
         case rest =>
          clear HC12
          try clear c1
          try clear p2
          try clear c3
          try clear c3b0
          try clear p3
          try clear c4
          try clear c4b0
          try clear p5
          try clear q5
          try clear hx5
          try clear c6
          try clear c7
          try clear c7b0
          try clear c9
          try clear c9b0
          try clear c11
          try clear c13
          try clear c13b0
          try clear p2
          try clear p3
          try clear p5
          try clear q5
          obtain ⟨kq, x33_11, rfl, HA, HJ11, ⟨mc11, rfl⟩⟩ := hcut
          cases kq with
          | zero => exact absurd HA.out (by simp [uR02_At.j2])
          | succ kj11 =>
           have H := HA.out
           clear HA
           simp only [uR02_At.j2] at H
           have HC14 := ak_ H
           clear H
           go_upto_if 33 with (fail)
           go_cut [7, 8, 9] (fun v7 v8 v9 wc => ∃ (kq : Nat) (x7_13 : Int) (x8_13 : Int) (x9_13 : Int), v7 = .int .i64 x7_13 ∧ v8 = .int .i32 x8_13 ∧ v9 = .int .i32 x9_13 ∧ Aside0 (uR02_At.j3 kq a0 a1 (bt a0 a1) x7_13 x8_13 x9_13 = some (r1, r2)) ∧ Aside0 (kq ≤ kj11) ∧ Drawn0 w wc)
           case first =>
            have H := HC14.out
            clear HC14
            by_cases c15 : x33_11 = true
            · subst c15
              have H1 : (uR02_At.j3 kj11 a0 a1 (bt a0 a1) 3 (wrap32 ((wrap32 ((bt a0 a1))) - 224)) 2048) = some (r1, r2) := by rw [if_pos rfl] at H; exact H
              clear H
              have H := H1
              clear H1
              have H' := ak_ H
              clear H
              go_wp2
              go_meet
              case rel => exact ⟨_, (3), (wrap32 ((wrap32 ((bt a0 a1))) - 224)), (2048), (by first | rfl | simp [*]), (by first | rfl | simp [*]), (by first | rfl | simp [*]), H', ⟨by have := HJ7.out; have := HJ9.out; have := HJ11.out; first | omega | exact Nat.le_refl _⟩, by repeat (first | exact Drawn0.refl _ | apply Drawn0.step)⟩
            replace c15 := Bool.eq_false_iff.mpr c15
            subst c15
            have H1 : (uR02_At.j3 kj11 a0 a1 (bt a0 a1) x7_9 x8_9 x9_9) = some (r1, r2) := by rw [if_neg (show ¬ (false = true) by decide)] at H; exact H
            clear H
            have H := H1
            clear H1
            have H' := ak_ H
            clear H
            go_wp2
            go_meet
            case rel => exact ⟨_, (x7_9), (x8_9), (x9_9), (by first | rfl | simp [*]), (by first | rfl | simp [*]), (by first | rfl | simp [*]), H', ⟨by have := HJ7.out; have := HJ9.out; have := HJ11.out; first | omega | exact Nat.le_refl _⟩, by repeat (first | exact Drawn0.refl _ | apply Drawn0.step)⟩
           case rest =>
            clear HC14
            try clear c1
            try clear p2
            try clear c3
            try clear c3b0
            try clear p3
            try clear c4
            try clear c4b0
            try clear p5
            try clear q5
            try clear hx5
            try clear c6
            try clear c7
            try clear c7b0
            try clear c9
            try clear c9b0
            try clear c11
            try clear c13
            try clear c13b0
            try clear c15
            try clear p2
            try clear p3
            try clear p5
            try clear q5
            obtain ⟨kq, x7_13, x8_13, x9_13, rfl, rfl, rfl, HA, HJ13, ⟨mc13, rfl⟩⟩ := hcut
            cases kq with
            | zero => exact absurd HA.out (by simp [uR02_At.j3])
            | succ kj13 =>
             have H := HA.out
             clear HA
             simp only [uR02_At.j3] at H
             have HC16 := ak_ H
             clear H
             go_upto_region 15 with (fail)
             go_cut [42] (fun v42 wc => ∃ (kq : Nat) (x42_15 : Bool), v42 = .bool x42_15 ∧ Aside0 (uR02_At.j4 kq a0 a1 (bt a0 a1) x7_13 x8_13 x9_13 x42_15 = some (r1, r2)) ∧ Aside0 (kq ≤ kj13) ∧ Drawn0 w wc)
             case first =>
              have H := HC16.out
              clear HC16
              by_cases c17 : (bt a0 a1) ≥ 240
              · rw [if_pos c17] at H
                have c17b0 : decide (240 ≤ (bt a0 a1)) = true := dt_ c17
                clear c17
                (first | rw [c17b0] | (simp only [i64_w, i32_w]; rw [c17b0]) | skip)
                have H' := ak_ H
                clear H
                go_wp2
                go_meet
                case rel => exact ⟨_, (decide ((bt a0 a1) ≤ 244)), (by first | rfl | simp [*]), H', ⟨by have := HJ7.out; have := HJ9.out; have := HJ11.out; have := HJ13.out; first | omega | exact Nat.le_refl _⟩, by repeat (first | exact Drawn0.refl _ | apply Drawn0.step)⟩
              rw [if_neg c17] at H
              have c17b0 : decide (240 ≤ (bt a0 a1)) = false := df_ c17
              clear c17
              (first | rw [c17b0] | (simp only [i64_w, i32_w]; rw [c17b0]) | skip)
              have H' := ak_ H
              clear H
              go_wp2
              go_meet
              case rel => exact ⟨_, (false), (by first | rfl | simp [*]), H', ⟨by have := HJ7.out; have := HJ9.out; have := HJ11.out; have := HJ13.out; first | omega | exact Nat.le_refl _⟩, by repeat (first | exact Drawn0.refl _ | apply Drawn0.step)⟩
             case rest =>
              clear HC16
              try clear c1
              try clear p2
              try clear c3
              try clear c3b0
              try clear p3
              try clear c4
              try clear c4b0
              try clear p5
              try clear q5
              try clear hx5
              try clear c6
              try clear c7
              try clear c7b0
              try clear c9
              try clear c9b0
              try clear c11
              try clear c13
              try clear c13b0
              try clear c15
              try clear c17
              try clear c17b0
              try clear p2
              try clear p3
              try clear p5
              try clear q5
              obtain ⟨kq, x42_15, rfl, HA, HJ15, ⟨mc15, rfl⟩⟩ := hcut
              cases kq with
              | zero => exact absurd HA.out (by simp [uR02_At.j4])
              | succ kj15 =>
               have H := HA.out
               clear HA
               simp only [uR02_At.j4] at H
               have HC18 := ak_ H
               clear H
               go_upto_if 42 with (fail)
               go_cut [7, 8, 9] (fun v7 v8 v9 wc => ∃ (kq : Nat) (x7_17 : Int) (x8_17 : Int) (x9_17 : Int), v7 = .int .i64 x7_17 ∧ v8 = .int .i32 x8_17 ∧ v9 = .int .i32 x9_17 ∧ Aside0 (uR02_At.j5 kq a0 a1 x7_17 x8_17 x9_17 = some (r1, r2)) ∧ Aside0 (kq ≤ kj15) ∧ Drawn0 w wc)
               case first =>
                have H := HC18.out
                clear HC18
                by_cases c19 : x42_15 = true
                · subst c19
                  have H1 : (uR02_At.j5 kj15 a0 a1 4 (wrap32 ((wrap32 ((bt a0 a1))) - 240)) 65536) = some (r1, r2) := by rw [if_pos rfl] at H; exact H
                  clear H
                  have H := H1
                  clear H1
                  have H' := ak_ H
                  clear H
                  go_wp2
                  go_meet
                  case rel => exact ⟨_, (4), (wrap32 ((wrap32 ((bt a0 a1))) - 240)), (65536), (by first | rfl | simp [*]), (by first | rfl | simp [*]), (by first | rfl | simp [*]), H', ⟨by have := HJ7.out; have := HJ9.out; have := HJ11.out; have := HJ13.out; have := HJ15.out; first | omega | exact Nat.le_refl _⟩, by repeat (first | exact Drawn0.refl _ | apply Drawn0.step)⟩
                replace c19 := Bool.eq_false_iff.mpr c19
                subst c19
                have H1 : (uR02_At.j5 kj15 a0 a1 x7_13 x8_13 x9_13) = some (r1, r2) := by rw [if_neg (show ¬ (false = true) by decide)] at H; exact H
                clear H
                have H := H1
                clear H1
                have H' := ak_ H
                clear H
                go_wp2
                go_meet
                case rel => exact ⟨_, (x7_13), (x8_13), (x9_13), (by first | rfl | simp [*]), (by first | rfl | simp [*]), (by first | rfl | simp [*]), H', ⟨by have := HJ7.out; have := HJ9.out; have := HJ11.out; have := HJ13.out; have := HJ15.out; first | omega | exact Nat.le_refl _⟩, by repeat (first | exact Drawn0.refl _ | apply Drawn0.step)⟩
               case rest =>
                clear HC18
                try clear c1
                try clear p2
                try clear c3
                try clear c3b0
                try clear p3
                try clear c4
                try clear c4b0
                try clear p5
                try clear q5
                try clear hx5
                try clear c6
                try clear c7
                try clear c7b0
                try clear c9
                try clear c9b0
                try clear c11
                try clear c13
                try clear c13b0
                try clear c15
                try clear c17
                try clear c17b0
                try clear c19
                try clear p2
                try clear p3
                try clear p5
                try clear q5
                obtain ⟨kq, x7_17, x8_17, x9_17, rfl, rfl, rfl, HA, HJ17, ⟨mc17, rfl⟩⟩ := hcut
                cases kq with
                | zero => exact absurd HA.out (by simp [uR02_At.j5])
                | succ kj17 =>
                 have H := HA.out
                 clear HA
                 simp only [uR02_At.j5] at H
                 have HC20 := ak_ H
                 clear H
                 go_upto_region 19 with (fail)
                 go_cut [55] (fun v55 wc => ∃ (kq : Nat) (x55_19 : Bool), v55 = .bool x55_19 ∧ Aside0 (uR02_At.j6 kq a0 a1 x7_17 x8_17 x9_17 x55_19 = some (r1, r2)) ∧ Aside0 (kq ≤ kj17) ∧ Drawn0 w wc)
                 case first =>
                  have H := HC20.out
                  clear HC20
                  by_cases c21 : x7_17 = 0
                  · rw [if_pos c21] at H
                    have c21b0 : (x7_17 == 0) = true := beq_iff_eq.mpr c21
                    have c21b1 : (x7_17 != 0) = false := bne_eq_false_iff_eq.mpr c21
                    clear c21
                    (first | rw [c21b0] | (simp only [i64_w, i32_w]; rw [c21b0]) | skip)
                    have H' := ak_ H
                    clear H
                    go_wp2
                    go_meet
                    case rel => exact ⟨_, (true), (by first | rfl | simp [*]), H', ⟨by have := HJ7.out; have := HJ9.out; have := HJ11.out; have := HJ13.out; have := HJ15.out; have := HJ17.out; first | omega | exact Nat.le_refl _⟩, by repeat (first | exact Drawn0.refl _ | apply Drawn0.step)⟩
                  rw [if_neg c21] at H
                  have c21b0 : (x7_17 == 0) = false := beq_eq_false_iff_ne.mpr c21
                  have c21b1 : (x7_17 != 0) = true := bne_iff_ne.mpr c21
                  (first | rw [c21b0] | (simp only [i64_w, i32_w]; rw [c21b0]) | skip)
                  have H' := ak_ H
                  clear H
                  go_wp2
                  go_meet
                  case rel => exact ⟨_, (decide ((wrap64 (a1 + x7_17)) > (a0.size : Int))), (by first | rfl | simp [*]), H', ⟨by have := HJ7.out; have := HJ9.out; have := HJ11.out; have := HJ13.out; have := HJ15.out; have := HJ17.out; first | omega | exact Nat.le_refl _⟩, by repeat (first | exact Drawn0.refl _ | apply Drawn0.step)⟩
                 case rest =>
                  clear HC20
                  try clear c1
                  try clear c2
                  try clear p2
                  try clear c3
                  try clear c3b0
                  try clear p3
                  try clear c4
                  try clear c4b0
                  try clear p5
                  try clear q5
                  try clear hx5
                  try clear c6
                  try clear p6
                  try clear c7
                  try clear c7b0
                  try clear c9
                  try clear c9b0
                  try clear c11
                  try clear c13
                  try clear c13b0
                  try clear c15
                  try clear c17
                  try clear c17b0
                  try clear c19
                  try clear c21
                  try clear c21b0
                  try clear c21b1
                  try clear p2
                  try clear p3
                  try clear p5
                  try clear q5
                  obtain ⟨kq, x55_19, rfl, HA, HJ19, ⟨mc19, rfl⟩⟩ := hcut
                  cases kq with
                  | zero => exact absurd HA.out (by simp [uR02_At.j6])
                  | succ kj19 =>
                   have H := HA.out
                   clear HA
                   simp only [uR02_At.j6] at H
                   have HF22 := ak_ H
                   clear H
                   go_upto_if 55 with (fail)
                   have H := HF22.out
                   clear HF22
                   by_cases c23 : x55_19 = true
                   · subst c23
                     have H1 : (some (0, 0)) = some (r1, r2) := by rw [if_pos rfl] at H; exact H
                     clear H
                     have H := H1
                     clear H1
                     simp only [Option.some.injEq, Prod.mk.injEq] at H
                     obtain ⟨rfl, rfl⟩ := H
                     go_wp2
                     go_ret2
                     exact ⟨by first | rfl | simp [*], by repeat (first | exact Drawn0.refl _ | apply Drawn0.step)⟩
                   replace c23 := Bool.eq_false_iff.mpr c23
                   subst c23
                   have H1 : (uR02_At.l0 kj19 a0 a1 x7_17 x8_17 x9_17 1) = some (r1, r2) := by rw [if_neg (show ¬ (false = true) by decide)] at H; exact H
                   clear H
                   have H := H1
                   clear H1
                   have H' := ak_ H
                   clear H
                   go_wp2
                   go_loopg [8, 10] kj19 (fun kq v8 v10 w' => ∃ (x8_8 : Int) (x10_8 : Int), v8 = .int .i32 x8_8 ∧ v10 = .int .i64 x10_8 ∧ Aside0 (uR02_At.l0 kq a0 a1 x7_17 x8_8 x9_17 x10_8 = some (r1, r2)) ∧ Aside0 (kq ≤ kj19) ∧ Drawn0 w w')
                   case atStart => exact ⟨(x8_17), (1), (by first | rfl | simp [*]), (by first | rfl | simp [*]), H', ⟨Nat.le_refl _⟩, by repeat (first | exact Drawn0.refl _ | apply Drawn0.step)⟩
                   case round =>
                    clear H'
                    try clear c1
                    try clear c2
                    try clear p2
                    try clear c3
                    try clear c3b0
                    try clear p3
                    try clear c4
                    try clear c4b0
                    try clear p5
                    try clear q5
                    try clear hx5
                    try clear c6
                    try clear p6
                    try clear c7
                    try clear c7b0
                    try clear c9
                    try clear c9b0
                    try clear c11
                    try clear c13
                    try clear c13b0
                    try clear c15
                    try clear c17
                    try clear c17b0
                    try clear c19
                    try clear c21
                    try clear c21b0
                    try clear c21b1
                    try clear c23
                    try clear p2
                    try clear p3
                    try clear p5
                    try clear p6
                    try clear q5
                    obtain ⟨x8_8, x10_8, rfl, rfl, HA, HK8, ⟨m8, rfl⟩⟩ := hrel
                    cases gk with
                    | zero => exact absurd HA.out (by simp [uR02_At.l0])
                    | succ k8 =>
                     have H := HA.out
                     clear HA
                     simp only [uR02_At.l0] at H
                     have HF24 := ak_ H
                     clear H
                     go_upto_if 58 with (fail)
                     have H := HF24.out
                     clear HF24
                     by_cases c25 : x10_8 < x7_17
                     · rw [if_pos c25] at H
                       have c25b0 : decide (x10_8 < x7_17) = true := dt_ c25
                       clear c25
                       (first | rw [c25b0] | (simp only [i64_w, i32_w]; rw [c25b0]) | skip)
                       obtain ⟨ji26, hji26⟩ : ∃ j_ : Int, (wrap64 (a1 + x10_8)) = j_ := ⟨_, rfl⟩
                       replace H : (if 0 ≤ (ji26) then (if (ji26) < (a0.size : Int) then (if (bt a0 (ji26)) < 128 then (some (0, 0)) else (if (bt a0 (ji26)) > 191 then (some (0, 0)) else (uR02_At.l0 k8 a0 a1 x7_17 (wrap32 ((wrap32 ((wrap32 (64 * x8_8)) + (wrap32 (bt a0 (ji26))))) - 128)) x9_17 (wrap64 (x10_8 + 1))))) else (none)) else (none)) = some (r1, r2) := by first | (rw [hji26] at H; exact H) | (simp only [hji26] at H ⊢; exact H)
                       have hji26w : (IntKind.i64.wrap (a1 + x10_8)) = ji26 := (i64_w _).trans hji26
                       by_cases c27 : 0 ≤ (ji26)
                       · rw [if_pos c27] at H
                         have c27b0 : decide (0 ≤ (ji26)) = true := dt_ c27
                         clear c27
                         by_cases c28 : (ji26) < (a0.size : Int)
                         · rw [if_pos c28] at H
                           have c28b0 : decide ((ji26) < (a0.size : Int)) = true := dt_ c28
                           clear c28
                           by_cases c30 : (bt a0 (ji26)) < 128
                           · rw [if_pos c30] at H
                             have c30b0 : decide ((bt a0 (ji26)) < 128) = true := dt_ c30
                             clear c30
                             simp only [Option.some.injEq, Prod.mk.injEq] at H
                             obtain ⟨rfl, rfl⟩ := H
                             have p29 : 0 ≤ ((ji26) : Int) := of_decide_eq_true (by assumption)
                             have q29 : (ji26) < (a0.size : Int) := of_decide_eq_true (by assumption)
                             have hx29 := bt_at a0 (ji26)
                             replace p29 := eq_true p29
                             replace q29 := eq_true q29
                             go_wp2
                             go_ret2
                             exact ⟨by first | rfl | (simp; done) | (simp only [← hji26] <;> (first | rfl | simp)) | (simp [*]; done), by repeat (first | exact Drawn0.refl _ | apply Drawn0.step)⟩
                           rw [if_neg c30] at H
                           have c30b0 : decide ((bt a0 (ji26)) < 128) = false := df_ c30
                           clear c30
                           have HF31 := ak_ H
                           clear H
                           have p29 : 0 ≤ ((ji26) : Int) := of_decide_eq_true (by assumption)
                           have q29 : (ji26) < (a0.size : Int) := of_decide_eq_true (by assumption)
                           have hx29 := bt_at a0 (ji26)
                           replace p29 := eq_true p29
                           replace q29 := eq_true q29
                           go_upto_if 71 with (fail)
                           have H := HF31.out
                           clear HF31
                           by_cases c32 : (bt a0 (ji26)) > 191
                           · rw [if_pos c32] at H
                             have c32b0 : decide (191 < (bt a0 (ji26))) = true := dt_ c32
                             clear c32
                             (first | rw [c32b0] | (simp only [i64_w, i32_w]; rw [c32b0]) | skip)
                             simp only [Option.some.injEq, Prod.mk.injEq] at H
                             obtain ⟨rfl, rfl⟩ := H
                             go_wp2
                             go_ret2
                             exact ⟨by first | rfl | (simp; done) | (simp only [← hji26] <;> (first | rfl | simp)) | (simp [*]; done), by repeat (first | exact Drawn0.refl _ | apply Drawn0.step)⟩
                           rw [if_neg c32] at H
                           have c32b0 : decide (191 < (bt a0 (ji26))) = false := df_ c32
                           clear c32
                           (first | rw [c32b0] | (simp only [i64_w, i32_w]; rw [c32b0]) | skip)
                           have H' := ak_ H
                           clear H
                           go_wp2
                           go_roundg k8
                           case measure => have := HJ7.out; have := HJ9.out; have := HJ11.out; have := HJ13.out; have := HJ15.out; have := HJ17.out; have := HJ19.out; have := HK8.out; omega
                           case rel => exact ⟨(wrap32 ((wrap32 ((wrap32 (64 * x8_8)) + (wrap32 (bt a0 (ji26))))) - 128)), (wrap64 (x10_8 + 1)), (by first | rfl | (simp; done) | (simp only [← hji26] <;> (first | rfl | simp)) | (simp [*]; done)), (by first | rfl | simp [*]), H', ⟨by have := HJ7.out; have := HJ9.out; have := HJ11.out; have := HJ13.out; have := HJ15.out; have := HJ17.out; have := HJ19.out; have := HK8.out; omega⟩, by repeat (first | exact Drawn0.refl _ | apply Drawn0.step)⟩
                         rw [if_neg c28] at H
                         exact absurd H (by simp)
                       rw [if_neg c27] at H
                       exact absurd H (by simp)
                     rw [if_neg c25] at H
                     have c25b0 : decide (x10_8 < x7_17) = false := df_ c25
                     clear c25
                     (first | rw [c25b0] | (simp only [i64_w, i32_w]; rw [c25b0]) | skip)
                     by_cases c33 : x8_8 < x9_17
                     · rw [if_pos c33] at H
                       have c33b0 : decide (x8_8 < x9_17) = true := dt_ c33
                       clear c33
                       simp only [Option.some.injEq, Prod.mk.injEq] at H
                       obtain ⟨rfl, rfl⟩ := H
                       go_wp2
                       go_ret2
                       exact ⟨by first | rfl | simp [*], by repeat (first | exact Drawn0.refl _ | apply Drawn0.step)⟩
                     rw [if_neg c33] at H
                     have c33b0 : decide (x8_8 < x9_17) = false := df_ c33
                     clear c33
                     by_cases c34 : x8_8 > 1114111
                     · rw [if_pos c34] at H
                       have c34b0 : decide (1114111 < x8_8) = true := dt_ c34
                       clear c34
                       simp only [Option.some.injEq, Prod.mk.injEq] at H
                       obtain ⟨rfl, rfl⟩ := H
                       go_wp2
                       go_ret2
                       exact ⟨by first | rfl | simp [*], by repeat (first | exact Drawn0.refl _ | apply Drawn0.step)⟩
                     rw [if_neg c34] at H
                     have c34b0 : decide (1114111 < x8_8) = false := df_ c34
                     clear c34
                     by_cases c35 : x8_8 ≥ 55296
                     · rw [if_pos c35] at H
                       have c35b0 : decide (55296 ≤ x8_8) = true := dt_ c35
                       clear c35
                       have HF36 := ak_ H
                       clear H
                       go_upto_if 92 with (fail)
                       have H := HF36.out
                       clear HF36
                       by_cases c37 : x8_8 ≤ 57343
                       · rw [if_pos c37] at H
                         have c37b0 : decide (x8_8 ≤ 57343) = true := dt_ c37
                         clear c37
                         (first | rw [c37b0] | (simp only [i64_w, i32_w]; rw [c37b0]) | skip)
                         simp only [Option.some.injEq, Prod.mk.injEq] at H
                         obtain ⟨rfl, rfl⟩ := H
                         go_wp2
                         go_ret2
                         exact ⟨by first | rfl | simp [*], by repeat (first | exact Drawn0.refl _ | apply Drawn0.step)⟩
                       rw [if_neg c37] at H
                       have c37b0 : decide (x8_8 ≤ 57343) = false := df_ c37
                       clear c37
                       (first | rw [c37b0] | (simp only [i64_w, i32_w]; rw [c37b0]) | skip)
                       simp only [Option.some.injEq, Prod.mk.injEq] at H
                       obtain ⟨rfl, rfl⟩ := H
                       go_wp2
                       go_ret2
                       exact ⟨by first | rfl | simp [*], by repeat (first | exact Drawn0.refl _ | apply Drawn0.step)⟩
                     rw [if_neg c35] at H
                     have c35b0 : decide (55296 ≤ x8_8) = false := df_ c35
                     clear c35
                     simp only [Option.some.injEq, Prod.mk.injEq] at H
                     obtain ⟨rfl, rfl⟩ := H
                     go_wp2
                     go_ret2
                     exact ⟨by first | rfl | simp [*], by repeat (first | exact Drawn0.refl _ | apply Drawn0.step)⟩
   rw [if_neg c4] at H
   exact absurd H (by simp)
 rw [if_neg c3] at H
 exact absurd H (by simp)
theorem atwr64 {a : Int} (h : -9223372036854775808 ≤ a) (h' : a ≤ 9223372036854775807) : wrap64 a = a := by unfold wrap64; omega
theorem atwr32 {a : Int} (h : -2147483648 ≤ a) (h' : a ≤ 2147483647) : wrap32 a = a := by unfold wrap32; omega
theorem bt_getD (s : ByteArray) (i : Int) (h : i.toNat < s.size) : bt s i = ((s.data.toList.getD i.toNat 0).toNat : Int) := by
  unfold bt
  rw [dif_pos h]
  have hl : i.toNat < s.data.toList.length := by rw [← Lib.size_eq]; exact h
  rw [List.getD_eq_getElem?_getD, List.getElem?_eq_getElem hl, Option.getD_some]
  rfl
def atFin (v least n : Int) : Option (Int × Int) := if v < least ∨ v > 1114111 ∨ (55296 ≤ v ∧ v ≤ 57343) then some (0, 0) else some (v, n)
theorem at_end (k : Nat) (s : ByteArray) (i n v least : Int) : uR02_At.l0 (k + 1) s i n v least n = atFin v least n := by
  rw [uR02_At.l0, if_neg (by omega)]
  unfold atFin
  repeat' split
  all_goals first | rfl | (exfalso; omega)
theorem at_step (k : Nat) (s : ByteArray) (i n v least j : Int) (h0 : 0 ≤ i) (hs : s.size ≤ 140737488351232) (hj : 1 ≤ j) (hjn : j < n) (hn : n ≤ 4) (hi : i + j < (s.size : Int)) (hv : 0 ≤ v) (hv1 : v ≤ 1000000) :
    uR02_At.l0 (k + 1) s i n v least j = if bt s (i + j) < 128 ∨ bt s (i + j) > 191 then some (0, 0) else uR02_At.l0 k s i n (64 * v + bt s (i + j) - 128) least (j + 1) := by
  have hb := bt_range s (i + j)
  rw [uR02_At.l0, if_pos hjn, atwr64 (a := i + j) (by omega) (by omega), if_pos (by omega), if_pos hi, atwr64 (a := j + 1) (by omega) (by omega), atwr32 (a := bt s (i + j)) (by omega) (by omega), atwr32 (a := 64 * v) (by omega) (by omega), atwr32 (a := 64 * v + bt s (i + j)) (by omega) (by omega), atwr32 (a := 64 * v + bt s (i + j) - 128) (by omega) (by omega)]
  repeat' split
  all_goals first | rfl | (exfalso; omega)
theorem at_tail (k : Nat) (s : ByteArray) (i n v least : Int) (h0 : 0 ≤ i) (hs : s.size ≤ 140737488351232) (hi : i < (s.size : Int)) (hn : 0 < n) (hn4 : n ≤ 4) :
    uR02_At.j5 (k + 2) s i n v least = if i + n > (s.size : Int) then some (0, 0) else uR02_At.l0 k s i n v least 1 := by
  rw [uR02_At.j5, if_neg (by omega), atwr64 (a := i + n) (by omega) (by omega), uR02_At.j6]
  by_cases h : i + n > (s.size : Int)
  · rw [dt_ h, if_pos rfl, if_pos h]
  · rw [df_ h, if_neg (by decide), if_neg h]
theorem at_none (k : Nat) (s : ByteArray) (i v least : Int) : uR02_At.j5 (k + 2) s i 0 v least = some (0, 0) := by
  rw [uR02_At.j5, if_pos rfl, uR02_At.j6, if_pos rfl]
def rB (b : Nat) : Prop := 128 ≤ b ∧ b ≤ 191
instance (b : Nat) : Decidable (rB b) := inferInstanceAs (Decidable (_ ∧ _))
theorem dec2 (n b0 b1 b2 b3 : Nat) (h : 194 ≤ b0) (h' : b0 ≤ 223) (h1 : b1 < 256) : Lib.decodeN n b0 b1 b2 b3 = if 1 < n ∧ (128 ≤ b1 ∧ b1 ≤ 191) then (64 * (b0 - 192) + b1 - 128, 2) else (65533, 1) := by
  unfold Lib.decodeN
  repeat' split
  all_goals first | rfl | (exfalso; omega) | (apply Prod.ext <;> simp only <;> omega)
theorem dec3 (n b0 b1 b2 b3 : Nat) (h : 224 ≤ b0) (h' : b0 ≤ 239) (h1 : b1 < 256) (h2 : b2 < 256) : Lib.decodeN n b0 b1 b2 b3 = if 2 < n ∧ (128 ≤ b1 ∧ b1 ≤ 191) ∧ (128 ≤ b2 ∧ b2 ≤ 191) ∧ 2048 ≤ 64 * (64 * (b0 - 224) + b1 - 128) + b2 - 128 ∧ ¬ (55296 ≤ 64 * (64 * (b0 - 224) + b1 - 128) + b2 - 128 ∧ 64 * (64 * (b0 - 224) + b1 - 128) + b2 - 128 ≤ 57343) then (64 * (64 * (b0 - 224) + b1 - 128) + b2 - 128, 3) else (65533, 1) := by
  unfold Lib.decodeN
  repeat' split
  all_goals first | rfl | (exfalso; omega) | (apply Prod.ext <;> simp only <;> omega)
theorem dec4 (n b0 b1 b2 b3 : Nat) (h : 240 ≤ b0) (h' : b0 ≤ 244) (h1 : b1 < 256) (h2 : b2 < 256) (h3 : b3 < 256) : Lib.decodeN n b0 b1 b2 b3 = if 3 < n ∧ (128 ≤ b1 ∧ b1 ≤ 191) ∧ (128 ≤ b2 ∧ b2 ≤ 191) ∧ (128 ≤ b3 ∧ b3 ≤ 191) ∧ 65536 ≤ 64 * (64 * (64 * (b0 - 240) + b1 - 128) + b2 - 128) + b3 - 128 ∧ 64 * (64 * (64 * (b0 - 240) + b1 - 128) + b2 - 128) + b3 - 128 ≤ 1114111 then (64 * (64 * (64 * (b0 - 240) + b1 - 128) + b2 - 128) + b3 - 128, 4) else (65533, 1) := by
  unfold Lib.decodeN
  repeat' split
  all_goals first | rfl | (exfalso; omega) | (apply Prod.ext <;> simp only <;> omega)
def atD (x : Nat × Nat) : Int × Int := if x.1 = 65533 ∧ x.2 = 1 then (0, 0) else ((x.1 : Int), (x.2 : Int))
theorem atD_bad : atD (65533, 1) = (0, 0) := rfl
theorem atD_two (v n : Nat) (h : 2 ≤ n) : atD (v, n) = ((v : Int), (n : Int)) := by
  unfold atD
  rw [if_neg (by simp only; omega)]
theorem at_spec (s : ByteArray) (i : Int) (hs : s.size ≤ 140737488351232) (h0 : 0 ≤ i) (h1 : i < (s.size : Int)) (k : Nat) (hk : 20 ≤ k) : uR02_At.f k s i = some (atD (Utf8.decode s i.toNat)) := by
  obtain ⟨p, rfl⟩ : ∃ p : Nat, i = (p : Int) := ⟨i.toNat, by omega⟩
  rw [Int.toNat_natCast, Lib.decode_N s p, ← Lib.size_eq]
  have hp : p < s.size := by omega
  have hbt : ∀ j : Nat, p + j < s.size → bt s ((p : Int) + (j : Int)) = ((s.data.toList.getD (p + j) 0).toNat : Int) := fun j hj => by
    rw [show ((p : Int) + (j : Int)) = ((p + j : Nat) : Int) by omega, bt_getD s _ (by rw [Int.toNat_natCast]; exact hj), Int.toNat_natCast]
  have e0 : bt s (p : Int) = ((s.data.toList.getD p 0).toNat : Int) := by
    have := hbt 0 (by omega)
    rwa [show ((p : Int) + ((0 : Nat) : Int)) = (p : Int) by omega] at this
  have e1 : p + 1 < s.size → bt s ((p : Int) + 1) = ((s.data.toList.getD (p + 1) 0).toNat : Int) := hbt 1
  have e2 : p + 2 < s.size → bt s ((p : Int) + 2) = ((s.data.toList.getD (p + 2) 0).toNat : Int) := hbt 2
  have e3 : p + 3 < s.size → bt s ((p : Int) + 3) = ((s.data.toList.getD (p + 3) 0).toNat : Int) := hbt 3
  have l0 := (s.data.toList.getD p 0).toNat_lt
  have l1 := (s.data.toList.getD (p + 1) 0).toNat_lt
  have l2 := (s.data.toList.getD (p + 2) 0).toNat_lt
  have l3 := (s.data.toList.getD (p + 3) 0).toNat_lt
  generalize (s.data.toList.getD p 0).toNat = b0 at *
  generalize (s.data.toList.getD (p + 1) 0).toNat = b1 at *
  generalize (s.data.toList.getD (p + 2) 0).toNat = b2 at *
  generalize (s.data.toList.getD (p + 3) 0).toNat = b3 at *
  clear hbt
  obtain ⟨k, rfl⟩ : ∃ q, k = q + 20 := ⟨k - 20, by omega⟩
  unfold uR02_At.f
  rw [if_pos h0, if_pos h1, e0]
  by_cases c0 : b0 < 128
  · rw [if_pos (by omega), Lib.decodeN_ascii _ _ _ _ _ c0, atwr32 (by omega) (by omega)]
    unfold atD
    rw [if_neg (by simp only; omega)]
    rfl
  · rw [if_neg (by omega)]
    by_cases c1 : b0 < 194
    · rw [if_neg (by omega), uR02_At.j0, if_neg (by decide), uR02_At.j1, if_neg (by omega), uR02_At.j2, if_neg (by decide), uR02_At.j3, if_neg (by omega), uR02_At.j4, if_neg (by decide), at_none, Lib.decodeN_bad _ _ _ _ _ (.inl ⟨by omega, c1⟩), atD_bad]
    · rw [if_pos (by omega)]
      by_cases c2 : b0 ≤ 223
      · rw [dt_ (by omega), uR02_At.j0, if_pos rfl, uR02_At.j1, if_neg (by omega), uR02_At.j2, if_neg (by decide), uR02_At.j3, if_neg (by omega), uR02_At.j4, if_neg (by decide), at_tail _ _ _ _ _ _ h0 hs h1 (by omega) (by omega), atwr32 (a := (b0 : Int)) (by omega) (by omega), atwr32 (by omega) (by omega), dec2 _ _ _ _ _ (by omega) c2 l1]
        by_cases hn : 1 < s.size - p
        · rw [if_neg (by omega), at_step _ _ _ _ _ _ _ h0 hs (by omega) (by omega) (by omega) (by omega) (by omega) (by omega), e1 (by omega)]
          by_cases hb : 128 ≤ b1 ∧ b1 ≤ 191
          · rw [if_neg (by omega), if_pos ⟨hn, hb⟩, atD_two _ _ (by omega), show ((1 : Int) + 1) = 2 from rfl, at_end, atFin, if_neg (by omega)]
            exact congrArg some (Prod.ext (by simp only; omega) rfl)
          · rw [if_pos (by omega), if_neg (fun h => hb h.2), atD_bad]
        · rw [if_pos (by omega), if_neg (fun h => hn h.1), atD_bad]
      · rw [df_ (by omega), uR02_At.j0, if_neg (by decide), uR02_At.j1, if_pos (by omega)]
        by_cases c3 : b0 ≤ 239
        · rw [dt_ (by omega), uR02_At.j2, if_pos rfl, uR02_At.j3, if_neg (by omega), uR02_At.j4, if_neg (by decide), at_tail _ _ _ _ _ _ h0 hs h1 (by omega) (by omega), atwr32 (a := (b0 : Int)) (by omega) (by omega), atwr32 (by omega) (by omega), dec3 _ _ _ _ _ (by omega) c3 l1 l2]
          by_cases hn : 2 < s.size - p
          · rw [if_neg (by omega), at_step _ _ _ _ _ _ _ h0 hs (by omega) (by omega) (by omega) (by omega) (by omega) (by omega), e1 (by omega)]
            by_cases hb : 128 ≤ b1 ∧ b1 ≤ 191
            · rw [if_neg (by omega), show ((1 : Int) + 1) = 2 from rfl, at_step _ _ _ _ _ _ _ h0 hs (by omega) (by omega) (by omega) (by omega) (by omega) (by omega), e2 (by omega)]
              by_cases hb2 : 128 ≤ b2 ∧ b2 ≤ 191
              · rw [if_neg (by omega), show ((2 : Int) + 1) = 3 from rfl, at_end, atFin]
                split
                · rw [if_neg (by omega), atD_bad]
                · rw [if_pos ⟨hn, hb, hb2, by omega, by omega⟩, atD_two _ _ (by omega)]
                  exact congrArg some (Prod.ext (by simp only; omega) rfl)
              · rw [if_pos (by omega), if_neg (fun h => hb2 h.2.2.1), atD_bad]
            · rw [if_pos (by omega), if_neg (fun h => hb h.2.1), atD_bad]
          · rw [if_pos (by omega), if_neg (fun h => hn h.1), atD_bad]
        · rw [df_ (by omega), uR02_At.j2, if_neg (by decide), uR02_At.j3, if_pos (by omega)]
          by_cases c4 : b0 ≤ 244
          · rw [dt_ (by omega), uR02_At.j4, if_pos rfl, at_tail _ _ _ _ _ _ h0 hs h1 (by omega) (by omega), atwr32 (a := (b0 : Int)) (by omega) (by omega), atwr32 (by omega) (by omega), dec4 _ _ _ _ _ (by omega) c4 l1 l2 l3]
            by_cases hn : 3 < s.size - p
            · rw [if_neg (by omega), at_step _ _ _ _ _ _ _ h0 hs (by omega) (by omega) (by omega) (by omega) (by omega) (by omega), e1 (by omega)]
              by_cases hb : 128 ≤ b1 ∧ b1 ≤ 191
              · rw [if_neg (by omega), show ((1 : Int) + 1) = 2 from rfl, at_step _ _ _ _ _ _ _ h0 hs (by omega) (by omega) (by omega) (by omega) (by omega) (by omega), e2 (by omega)]
                by_cases hb2 : 128 ≤ b2 ∧ b2 ≤ 191
                · rw [if_neg (by omega), show ((2 : Int) + 1) = 3 from rfl, at_step _ _ _ _ _ _ _ h0 hs (by omega) (by omega) (by omega) (by omega) (by omega) (by omega), e3 (by omega)]
                  by_cases hb3 : 128 ≤ b3 ∧ b3 ≤ 191
                  · rw [if_neg (by omega), show ((3 : Int) + 1) = 4 from rfl, at_end, atFin]
                    split
                    · rw [if_neg (by omega), atD_bad]
                    · rw [if_pos ⟨hn, hb, hb2, hb3, by omega, by omega⟩, atD_two _ _ (by omega)]
                      exact congrArg some (Prod.ext (by simp only; omega) rfl)
                  · rw [if_pos (by omega), if_neg (fun h => hb3 h.2.2.2.1), atD_bad]
                · rw [if_pos (by omega), if_neg (fun h => hb2 h.2.2.1), atD_bad]
              · rw [if_pos (by omega), if_neg (fun h => hb h.2.1), atD_bad]
            · rw [if_pos (by omega), if_neg (fun h => hn h.1), atD_bad]
          · rw [df_ (by omega), uR02_At.j4, if_neg (by decide), at_none, Lib.decodeN_bad _ _ _ _ _ (.inr ⟨by omega, l0⟩), atD_bad]
def uR02_letter.f (a0 : Int) : Option (Bool) := if a0 ≥ 65 then (if a0 ≤ 90 then (some true) else (if a0 ≥ 97 then (if a0 ≤ 122 then (some true) else (some (decide (a0 ≥ 128)))) else (some (decide (a0 ≥ 128))))) else (if a0 ≥ 97 then (if a0 ≤ 122 then (some true) else (some (decide (a0 ≥ 128)))) else (some (decide (a0 ≥ 128))))
theorem uR02_letter.calls (a0 : Int) (r : Bool) (w : World) (h : uR02_letter.f a0 = some r) :
 Calls Tryd.prog 65 #[.int .i32 a0] w fun e w' => e = .returned (.bool r) ∧ Drawn0 w w' := by
 have H : (if a0 ≥ 65 then (if a0 ≤ 90 then (some true) else (if a0 ≥ 97 then (if a0 ≤ 122 then (some true) else (some (decide (a0 ≥ 128)))) else (some (decide (a0 ≥ 128))))) else (if a0 ≥ 97 then (if a0 ≤ 122 then (some true) else (some (decide (a0 ≥ 128)))) else (some (decide (a0 ≥ 128))))) = some r := h
 clear h
 by_cases c2 : a0 ≥ 65
 · rw [if_pos c2] at H
   have c2b0 : decide (65 ≤ a0) = true := dt_ c2
   clear c2
   by_cases c3 : a0 ≤ 90
   · rw [if_pos c3] at H
     have c3b0 : decide (a0 ≤ 90) = true := dt_ c3
     clear c3
     obtain rfl := Option.some.inj H
     go_enter Tryd.func65, Tryd.ntmps65
     go_wp2
     go_ret
     exact ⟨by first | rfl | simp [*], by repeat (first | exact Drawn0.refl _ | apply Drawn0.step)⟩
   · rw [if_neg c3] at H
     have c3b0 : decide (a0 ≤ 90) = false := df_ c3
     clear c3
     by_cases c4 : a0 ≥ 97
     · rw [if_pos c4] at H
       have c4b0 : decide (97 ≤ a0) = true := dt_ c4
       clear c4
       by_cases c5 : a0 ≤ 122
       · rw [if_pos c5] at H
         have c5b0 : decide (a0 ≤ 122) = true := dt_ c5
         clear c5
         obtain rfl := Option.some.inj H
         go_enter Tryd.func65, Tryd.ntmps65
         go_wp2
         go_ret
         exact ⟨by first | rfl | simp [*], by repeat (first | exact Drawn0.refl _ | apply Drawn0.step)⟩
       · rw [if_neg c5] at H
         have c5b0 : decide (a0 ≤ 122) = false := df_ c5
         clear c5
         obtain rfl := Option.some.inj H
         go_enter Tryd.func65, Tryd.ntmps65
         go_wp2
         go_ret
         exact ⟨by first | rfl | simp [*], by repeat (first | exact Drawn0.refl _ | apply Drawn0.step)⟩
     · rw [if_neg c4] at H
       have c4b0 : decide (97 ≤ a0) = false := df_ c4
       clear c4
       obtain rfl := Option.some.inj H
       go_enter Tryd.func65, Tryd.ntmps65
       go_wp2
       go_ret
       exact ⟨by first | rfl | simp [*], by repeat (first | exact Drawn0.refl _ | apply Drawn0.step)⟩
 · rw [if_neg c2] at H
   have c2b0 : decide (65 ≤ a0) = false := df_ c2
   clear c2
   by_cases c6 : a0 ≥ 97
   · rw [if_pos c6] at H
     have c6b0 : decide (97 ≤ a0) = true := dt_ c6
     clear c6
     by_cases c7 : a0 ≤ 122
     · rw [if_pos c7] at H
       have c7b0 : decide (a0 ≤ 122) = true := dt_ c7
       clear c7
       obtain rfl := Option.some.inj H
       go_enter Tryd.func65, Tryd.ntmps65
       go_wp2
       go_ret
       exact ⟨by first | rfl | simp [*], by repeat (first | exact Drawn0.refl _ | apply Drawn0.step)⟩
     · rw [if_neg c7] at H
       have c7b0 : decide (a0 ≤ 122) = false := df_ c7
       clear c7
       obtain rfl := Option.some.inj H
       go_enter Tryd.func65, Tryd.ntmps65
       go_wp2
       go_ret
       exact ⟨by first | rfl | simp [*], by repeat (first | exact Drawn0.refl _ | apply Drawn0.step)⟩
   · rw [if_neg c6] at H
     have c6b0 : decide (97 ≤ a0) = false := df_ c6
     clear c6
     obtain rfl := Option.some.inj H
     go_enter Tryd.func65, Tryd.ntmps65
     go_wp2
     go_ret
     exact ⟨by first | rfl | simp [*], by repeat (first | exact Drawn0.refl _ | apply Drawn0.step)⟩
def uR02_may.f (a0 : Int) : Option (Bool) := (uR02_letter.f a0).bind fun t149 => (if t149 = true then (some true) else (if a0 ≥ 48 then (if a0 ≤ 57 then (some true) else (if a0 = 45 then (some true) else (some (a0 == 95)))) else (if a0 = 45 then (some true) else (some (a0 == 95)))))
theorem uR02_may.calls (a0 : Int) (r : Bool) (w : World) (h : uR02_may.f a0 = some r) :
 Calls Tryd.prog 64 #[.int .i32 a0] w fun e w' => e = .returned (.bool r) ∧ Drawn0 w w' := by
 have H : ((uR02_letter.f a0).bind fun t149 => (if t149 = true then (some true) else (if a0 ≥ 48 then (if a0 ≤ 57 then (some true) else (if a0 = 45 then (some true) else (some (a0 == 95)))) else (if a0 = 45 then (some true) else (some (a0 == 95)))))) = some r := h
 clear h
 replace H := ob_ H
 obtain ⟨t149, A20, H⟩ := H
 replace H : (if t149 = true then (some true) else (if a0 ≥ 48 then (if a0 ≤ 57 then (some true) else (if a0 = 45 then (some true) else (some (a0 == 95)))) else (if a0 = 45 then (some true) else (some (a0 == 95))))) = some r := H
 have A2 := ak_ A20
 clear A20
 by_cases c3 : t149 = true
 · subst c3
   have H1 : (some true) = some r := by rw [if_pos rfl] at H; exact H
   clear H
   have H := H1
   clear H1
   obtain rfl := Option.some.inj H
   go_enter Tryd.func64, Tryd.ntmps64
   go_wp2_with (first | ((with_reducible refine gate_callee (f := 65) rfl ?_); refine goesL_ (some 4) rfl rfl Tryd.func65 (by kernel_rfl) rfl #[.int .i32 a0] rfl (by (try simp only [mt_, mc_, mn_]); first | done | rfl) ?_; (with_reducible refine (uR02_letter.calls a0 true _ A2.out).mono ?_); rintro e w' ⟨rfl, ⟨nd, rfl⟩⟩; refine ⟨_, rfl, ?_⟩))
   go_ret
   exact ⟨by first | rfl | simp [*], by repeat (first | exact Drawn0.refl _ | apply Drawn0.step)⟩
 · replace c3 := Bool.eq_false_iff.mpr c3
   subst c3
   have H1 : (if a0 ≥ 48 then (if a0 ≤ 57 then (some true) else (if a0 = 45 then (some true) else (some (a0 == 95)))) else (if a0 = 45 then (some true) else (some (a0 == 95)))) = some r := by rw [if_neg (show ¬ (false = true) by decide)] at H; exact H
   clear H
   have H := H1
   clear H1
   by_cases c4 : a0 ≥ 48
   · rw [if_pos c4] at H
     have c4b0 : decide (48 ≤ a0) = true := dt_ c4
     clear c4
     by_cases c5 : a0 ≤ 57
     · rw [if_pos c5] at H
       have c5b0 : decide (a0 ≤ 57) = true := dt_ c5
       clear c5
       obtain rfl := Option.some.inj H
       go_enter Tryd.func64, Tryd.ntmps64
       go_wp2_with (first | ((with_reducible refine gate_callee (f := 65) rfl ?_); refine goesL_ (some 4) rfl rfl Tryd.func65 (by kernel_rfl) rfl #[.int .i32 a0] rfl (by (try simp only [mt_, mc_, mn_]); first | done | rfl) ?_; (with_reducible refine (uR02_letter.calls a0 false _ A2.out).mono ?_); rintro e w' ⟨rfl, ⟨nd, rfl⟩⟩; refine ⟨_, rfl, ?_⟩))
       go_ret
       exact ⟨by first | rfl | simp [*], by repeat (first | exact Drawn0.refl _ | apply Drawn0.step)⟩
     · rw [if_neg c5] at H
       have c5b0 : decide (a0 ≤ 57) = false := df_ c5
       clear c5
       by_cases c6 : a0 = 45
       · rw [if_pos c6] at H
         have c6b0 : (a0 == 45) = true := beq_iff_eq.mpr c6
         have c6b1 : (a0 != 45) = false := bne_eq_false_iff_eq.mpr c6
         clear c6
         obtain rfl := Option.some.inj H
         go_enter Tryd.func64, Tryd.ntmps64
         go_wp2_with (first | ((with_reducible refine gate_callee (f := 65) rfl ?_); refine goesL_ (some 4) rfl rfl Tryd.func65 (by kernel_rfl) rfl #[.int .i32 a0] rfl (by (try simp only [mt_, mc_, mn_]); first | done | rfl) ?_; (with_reducible refine (uR02_letter.calls a0 false _ A2.out).mono ?_); rintro e w' ⟨rfl, ⟨nd, rfl⟩⟩; refine ⟨_, rfl, ?_⟩))
         go_ret
         exact ⟨by first | rfl | simp [*], by repeat (first | exact Drawn0.refl _ | apply Drawn0.step)⟩
       · rw [if_neg c6] at H
         have c6b0 : (a0 == 45) = false := beq_eq_false_iff_ne.mpr c6
         have c6b1 : (a0 != 45) = true := bne_iff_ne.mpr c6
         obtain rfl := Option.some.inj H
         go_enter Tryd.func64, Tryd.ntmps64
         go_wp2_with (first | ((with_reducible refine gate_callee (f := 65) rfl ?_); refine goesL_ (some 4) rfl rfl Tryd.func65 (by kernel_rfl) rfl #[.int .i32 a0] rfl (by (try simp only [mt_, mc_, mn_]); first | done | rfl) ?_; (with_reducible refine (uR02_letter.calls a0 false _ A2.out).mono ?_); rintro e w' ⟨rfl, ⟨nd, rfl⟩⟩; refine ⟨_, rfl, ?_⟩))
         go_ret
         exact ⟨by first | rfl | simp [*], by repeat (first | exact Drawn0.refl _ | apply Drawn0.step)⟩
   · rw [if_neg c4] at H
     have c4b0 : decide (48 ≤ a0) = false := df_ c4
     clear c4
     by_cases c7 : a0 = 45
     · rw [if_pos c7] at H
       have c7b0 : (a0 == 45) = true := beq_iff_eq.mpr c7
       have c7b1 : (a0 != 45) = false := bne_eq_false_iff_eq.mpr c7
       clear c7
       obtain rfl := Option.some.inj H
       go_enter Tryd.func64, Tryd.ntmps64
       go_wp2_with (first | ((with_reducible refine gate_callee (f := 65) rfl ?_); refine goesL_ (some 4) rfl rfl Tryd.func65 (by kernel_rfl) rfl #[.int .i32 a0] rfl (by (try simp only [mt_, mc_, mn_]); first | done | rfl) ?_; (with_reducible refine (uR02_letter.calls a0 false _ A2.out).mono ?_); rintro e w' ⟨rfl, ⟨nd, rfl⟩⟩; refine ⟨_, rfl, ?_⟩))
       go_ret
       exact ⟨by first | rfl | simp [*], by repeat (first | exact Drawn0.refl _ | apply Drawn0.step)⟩
     · rw [if_neg c7] at H
       have c7b0 : (a0 == 45) = false := beq_eq_false_iff_ne.mpr c7
       have c7b1 : (a0 != 45) = true := bne_iff_ne.mpr c7
       obtain rfl := Option.some.inj H
       go_enter Tryd.func64, Tryd.ntmps64
       go_wp2_with (first | ((with_reducible refine gate_callee (f := 65) rfl ?_); refine goesL_ (some 4) rfl rfl Tryd.func65 (by kernel_rfl) rfl #[.int .i32 a0] rfl (by (try simp only [mt_, mc_, mn_]); first | done | rfl) ?_; (with_reducible refine (uR02_letter.calls a0 false _ A2.out).mono ?_); rintro e w' ⟨rfl, ⟨nd, rfl⟩⟩; refine ⟨_, rfl, ?_⟩))
       go_ret
       exact ⟨by first | rfl | simp [*], by repeat (first | exact Drawn0.refl _ | apply Drawn0.step)⟩
def uR02_Runes.l0 : Nat → ByteArray → Int → Int → Option (Int)
 | 0, _, _, _ => none
 | k + 1, x0, x3, x4 => if x4 < (x0.size : Int) then ((uR02_At.f k x0 x4).bind fun bt150 => (if bt150.2 = 0 then (uR02_Runes.l0 k x0 (wrap64 (x3 + 1)) (wrap64 (x4 + 1))) else (uR02_Runes.l0 k x0 (wrap64 (x3 + 1)) (wrap64 (x4 + bt150.2))))) else (some x3)
def uR02_Runes.f (k : Nat) (a0 : ByteArray) : Option (Int) := uR02_Runes.l0 k a0 0 0
theorem uR02_Runes.calls (k : Nat) (a0 : ByteArray) (r : Int) (w : World) (h : uR02_Runes.f k a0 = some r) :
 Calls Tryd.prog 66 #[.string a0] w fun e w' => e = .returned (.int .i64 r) ∧ Drawn0 w w' := by
 have H : (uR02_Runes.l0 k a0 0 0) = some r := h
 clear h
 have H' := ak_ H
 clear H
 go_enter Tryd.func66, Tryd.ntmps66
 go_wp2
 go_loopg [3, 4] k (fun kq v3 v4 w' => ∃ (x3_1 : Int) (x4_1 : Int), v3 = .int .i64 x3_1 ∧ v4 = .int .i64 x4_1 ∧ Aside0 (uR02_Runes.l0 kq a0 x3_1 x4_1 = some r) ∧ Aside0 (kq ≤ k) ∧ Drawn0 w w')
 case atStart => exact ⟨(0), (0), (by first | rfl | simp [*]), (by first | rfl | simp [*]), H', ⟨Nat.le_refl _⟩, by repeat (first | exact Drawn0.refl _ | apply Drawn0.step)⟩
 case round =>
  clear H'
  obtain ⟨x3_1, x4_1, rfl, rfl, HA, HK1, ⟨m1, rfl⟩⟩ := hrel
  cases gk with
  | zero => exact absurd HA.out (by simp [uR02_Runes.l0])
  | succ k1 =>
   have H := HA.out
   clear HA
   simp only [uR02_Runes.l0] at H
   have HF2 := ak_ H
   clear H
   go_upto_if 10 with (fail)
   have H := HF2.out
   clear HF2
   by_cases c3 : x4_1 < (a0.size : Int)
   · rw [if_pos c3] at H
     have c3b0 : decide (x4_1 < (a0.size : Int)) = true := dt_ c3
     clear c3
     (first | rw [c3b0] | (simp only [i64_w, i32_w]; rw [c3b0]) | skip)
     replace H := ob_ H
     obtain ⟨⟨t150, t151⟩, A40, H⟩ := H
     replace H : (if t151 = 0 then (uR02_Runes.l0 k1 a0 (wrap64 (x3_1 + 1)) (wrap64 (x4_1 + 1))) else (uR02_Runes.l0 k1 a0 (wrap64 (x3_1 + 1)) (wrap64 (x4_1 + t151)))) = some r := H
     have A4 := ak_ A40
     clear A40
     have HF5 := ak_ H
     clear H
     go_upto_if 18 with (first | ((with_reducible refine gate_callee (f := 63) rfl ?_); refine goesL_ (some 14) rfl rfl Tryd.func63 (by kernel_rfl) rfl #[.string a0, .int .i64 x4_1] rfl (by (try simp only [mt_, mc_, mn_]); first | done | rfl) ?_; (with_reducible refine (uR02_At.calls k1 a0 x4_1 t150 t151 _ A4.out).mono ?_); rintro e w' ⟨rfl, ⟨nd, rfl⟩⟩; refine ⟨_, rfl, ?_⟩))
     (try simp only [Act.put, sa_, sz_, ss_])
     have H := HF5.out
     clear HF5
     by_cases c6 : t151 = 0
     · rw [if_pos c6] at H
       have c6b0 : (t151 == 0) = true := beq_iff_eq.mpr c6
       have c6b1 : (t151 != 0) = false := bne_eq_false_iff_eq.mpr c6
       clear c6
       (first | rw [c6b0] | (simp only [i64_w, i32_w]; rw [c6b0]) | skip)
       have H' := ak_ H
       clear H
       go_wp2
       go_roundg k1
       case measure => have := HK1.out; omega
       case rel => exact ⟨(wrap64 (x3_1 + 1)), (wrap64 (x4_1 + 1)), (by first | rfl | simp [*]), (by first | rfl | simp [*]), H', ⟨by have := HK1.out; omega⟩, by repeat (first | exact Drawn0.refl _ | apply Drawn0.step)⟩
     · rw [if_neg c6] at H
       have c6b0 : (t151 == 0) = false := beq_eq_false_iff_ne.mpr c6
       have c6b1 : (t151 != 0) = true := bne_iff_ne.mpr c6
       (first | rw [c6b0] | (simp only [i64_w, i32_w]; rw [c6b0]) | skip)
       have H' := ak_ H
       clear H
       go_wp2
       go_roundg k1
       case measure => have := HK1.out; omega
       case rel => exact ⟨(wrap64 (x3_1 + 1)), (wrap64 (x4_1 + t151)), (by first | rfl | simp [*]), (by first | rfl | simp [*]), H', ⟨by have := HK1.out; omega⟩, by repeat (first | exact Drawn0.refl _ | apply Drawn0.step)⟩
   · rw [if_neg c3] at H
     have c3b0 : decide (x4_1 < (a0.size : Int)) = false := df_ c3
     clear c3
     (first | rw [c3b0] | (simp only [i64_w, i32_w]; rw [c3b0]) | skip)
     obtain rfl := Option.some.inj H
     go_wp2
     go_ret
     exact ⟨by first | rfl | simp [*], by repeat (first | exact Drawn0.refl _ | apply Drawn0.step)⟩
def uR02_Good.l0 : Nat → ByteArray → Int → Option (Bool)
 | 0, _, _ => none
 | k + 1, x0, x3 => if x3 < (x0.size : Int) then ((uR02_At.f k x0 x3).bind fun bt153 => (if bt153.2 = 0 then (some false) else ((uR02_may.f bt153.1).bind fun t155 => (if t155 = true then (if x3 = 0 then ((uR02_letter.f bt153.1).bind fun t156 => (if t156 = true then (uR02_Good.l0 k x0 (wrap64 (x3 + bt153.2))) else (some false))) else (uR02_Good.l0 k x0 (wrap64 (x3 + bt153.2)))) else (some false))))) else (if x0.toList = ([] : List UInt8) then (some false) else ((uR02_Runes.f k x0).bind fun t152 => (some (decide (t152 ≤ 64)))))
def uR02_Good.f (k : Nat) (a0 : ByteArray) : Option (Bool) := uR02_Good.l0 k a0 0
theorem uR02_Good.calls (k : Nat) (a0 : ByteArray) (r : Bool) (w : World) (h : uR02_Good.f k a0 = some r) :
 Calls Tryd.prog 34 #[.string a0] w fun e w' => e = .returned (.bool r) ∧ Drawn0 w w' := by
 have H : (uR02_Good.l0 k a0 0) = some r := h
 clear h
 have H' := ak_ H
 clear H
 go_enter Tryd.func34, Tryd.ntmps34
 go_wp2
 go_loopg [3] k (fun kq v3 w' => ∃ (x3_1 : Int), v3 = .int .i64 x3_1 ∧ Aside0 (uR02_Good.l0 kq a0 x3_1 = some r) ∧ Aside0 (kq ≤ k) ∧ Drawn0 w w')
 case atStart => exact ⟨(0), (by first | rfl | simp [*]), H', ⟨Nat.le_refl _⟩, by repeat (first | exact Drawn0.refl _ | apply Drawn0.step)⟩
 case round =>
  clear H'
  obtain ⟨x3_1, rfl, HA, HK1, ⟨m1, rfl⟩⟩ := hrel
  cases gk with
  | zero => exact absurd HA.out (by simp [uR02_Good.l0])
  | succ k1 =>
   have H := HA.out
   clear HA
   simp only [uR02_Good.l0] at H
   have HF2 := ak_ H
   clear H
   go_upto_if 9 with (fail)
   have H := HF2.out
   clear HF2
   by_cases c3 : x3_1 < (a0.size : Int)
   · rw [if_pos c3] at H
     have c3b0 : decide (x3_1 < (a0.size : Int)) = true := dt_ c3
     clear c3
     (first | rw [c3b0] | (simp only [i64_w, i32_w]; rw [c3b0]) | skip)
     replace H := ob_ H
     obtain ⟨⟨t153, t154⟩, A40, H⟩ := H
     replace H : (if t154 = 0 then (some false) else ((uR02_may.f t153).bind fun t155 => (if t155 = true then (if x3_1 = 0 then ((uR02_letter.f t153).bind fun t156 => (if t156 = true then (uR02_Good.l0 k1 a0 (wrap64 (x3_1 + t154))) else (some false))) else (uR02_Good.l0 k1 a0 (wrap64 (x3_1 + t154)))) else (some false)))) = some r := H
     have A4 := ak_ A40
     clear A40
     by_cases c5 : t154 = 0
     · rw [if_pos c5] at H
       have c5b0 : (t154 == 0) = true := beq_iff_eq.mpr c5
       have c5b1 : (t154 != 0) = false := bne_eq_false_iff_eq.mpr c5
       clear c5
       obtain rfl := Option.some.inj H
       go_wp2_with (first | ((with_reducible refine gate_callee (f := 63) rfl ?_); refine goesL_ (some 13) rfl rfl Tryd.func63 (by kernel_rfl) rfl #[.string a0, .int .i64 x3_1] rfl (by simp only [mt_, mc_, mn_] <;> rfl) ?_; (with_reducible refine (uR02_At.calls k1 a0 x3_1 t153 t154 _ A4.out).mono ?_); rintro e w' ⟨rfl, ⟨nd, rfl⟩⟩; refine ⟨_, rfl, ?_⟩))
       go_ret
       exact ⟨by first | rfl | simp [*], by repeat (first | exact Drawn0.refl _ | apply Drawn0.step)⟩
     rw [if_neg c5] at H
     have c5b0 : (t154 == 0) = false := beq_eq_false_iff_ne.mpr c5
     have c5b1 : (t154 != 0) = true := bne_iff_ne.mpr c5
     replace H := ob_ H
     obtain ⟨t155, A60, H⟩ := H
     replace H : (if t155 = true then (if x3_1 = 0 then ((uR02_letter.f t153).bind fun t156 => (if t156 = true then (uR02_Good.l0 k1 a0 (wrap64 (x3_1 + t154))) else (some false))) else (uR02_Good.l0 k1 a0 (wrap64 (x3_1 + t154)))) else (some false)) = some r := H
     have A6 := ak_ A60
     clear A60
     by_cases c7 : t155 = true
     · subst c7
       have H1 : (if x3_1 = 0 then ((uR02_letter.f t153).bind fun t156 => (if t156 = true then (uR02_Good.l0 k1 a0 (wrap64 (x3_1 + t154))) else (some false))) else (uR02_Good.l0 k1 a0 (wrap64 (x3_1 + t154)))) = some r := by rw [if_pos rfl] at H; exact H
       clear H
       have H := H1
       clear H1
       by_cases c8 : x3_1 = 0
       · rw [if_pos c8] at H
         have c8b0 : (x3_1 == 0) = true := beq_iff_eq.mpr c8
         have c8b1 : (x3_1 != 0) = false := bne_eq_false_iff_eq.mpr c8
         clear c8
         replace H := ob_ H
         obtain ⟨t156, A90, H⟩ := H
         replace H : (if t156 = true then (uR02_Good.l0 k1 a0 (wrap64 (x3_1 + t154))) else (some false)) = some r := H
         have A9 := ak_ A90
         clear A90
         have HF10 := ak_ H
         clear H
         go_upto_if 31 with (first | ((with_reducible refine gate_callee (f := 63) rfl ?_); refine goesL_ (some 13) rfl rfl Tryd.func63 (by kernel_rfl) rfl #[.string a0, .int .i64 x3_1] rfl (by simp only [mt_, mc_, mn_] <;> rfl) ?_; (with_reducible refine (uR02_At.calls k1 a0 x3_1 t153 t154 _ A4.out).mono ?_); rintro e w' ⟨rfl, ⟨nd, rfl⟩⟩; refine ⟨_, rfl, ?_⟩) | (go_at_call 64; (with_reducible refine (uR02_may.calls t153 true _ A6.out).mono ?_); rintro e w' ⟨rfl, ⟨nd, rfl⟩⟩) | (go_at_call 65; (with_reducible refine (uR02_letter.calls t153 t156 _ A9.out).mono ?_); rintro e w' ⟨rfl, ⟨nd, rfl⟩⟩))
         (try simp only [Act.put, sa_, sz_, ss_])
         have H := HF10.out
         clear HF10
         by_cases c11 : t156 = true
         · subst c11
           have H1 : (uR02_Good.l0 k1 a0 (wrap64 (x3_1 + t154))) = some r := by rw [if_pos rfl] at H; exact H
           clear H
           have H := H1
           clear H1
           have H' := ak_ H
           clear H
           go_wp2
           go_roundg k1
           case measure => have := HK1.out; omega
           case rel => exact ⟨(wrap64 (x3_1 + t154)), (by first | rfl | simp [*]), H', ⟨by have := HK1.out; omega⟩, by repeat (first | exact Drawn0.refl _ | apply Drawn0.step)⟩
         replace c11 := Bool.eq_false_iff.mpr c11
         subst c11
         have H1 : (some false) = some r := by rw [if_neg (show ¬ (false = true) by decide)] at H; exact H
         clear H
         have H := H1
         clear H1
         obtain rfl := Option.some.inj H
         go_wp2
         go_ret
         exact ⟨by first | rfl | simp [*], by repeat (first | exact Drawn0.refl _ | apply Drawn0.step)⟩
       rw [if_neg c8] at H
       have c8b0 : (x3_1 == 0) = false := beq_eq_false_iff_ne.mpr c8
       have c8b1 : (x3_1 != 0) = true := bne_iff_ne.mpr c8
       have H' := ak_ H
       clear H
       go_wp2_with (first | ((with_reducible refine gate_callee (f := 63) rfl ?_); refine goesL_ (some 13) rfl rfl Tryd.func63 (by kernel_rfl) rfl #[.string a0, .int .i64 x3_1] rfl (by simp only [mt_, mc_, mn_] <;> rfl) ?_; (with_reducible refine (uR02_At.calls k1 a0 x3_1 t153 t154 _ A4.out).mono ?_); rintro e w' ⟨rfl, ⟨nd, rfl⟩⟩; refine ⟨_, rfl, ?_⟩) | (go_at_call 64; (with_reducible refine (uR02_may.calls t153 true _ A6.out).mono ?_); rintro e w' ⟨rfl, ⟨nd, rfl⟩⟩))
       go_roundg k1
       case measure => have := HK1.out; omega
       case rel => exact ⟨(wrap64 (x3_1 + t154)), (by first | rfl | simp [*]), H', ⟨by have := HK1.out; omega⟩, by repeat (first | exact Drawn0.refl _ | apply Drawn0.step)⟩
     replace c7 := Bool.eq_false_iff.mpr c7
     subst c7
     have H1 : (some false) = some r := by rw [if_neg (show ¬ (false = true) by decide)] at H; exact H
     clear H
     have H := H1
     clear H1
     obtain rfl := Option.some.inj H
     go_wp2_with (first | ((with_reducible refine gate_callee (f := 63) rfl ?_); refine goesL_ (some 13) rfl rfl Tryd.func63 (by kernel_rfl) rfl #[.string a0, .int .i64 x3_1] rfl (by simp only [mt_, mc_, mn_] <;> rfl) ?_; (with_reducible refine (uR02_At.calls k1 a0 x3_1 t153 t154 _ A4.out).mono ?_); rintro e w' ⟨rfl, ⟨nd, rfl⟩⟩; refine ⟨_, rfl, ?_⟩) | (go_at_call 64; (with_reducible refine (uR02_may.calls t153 false _ A6.out).mono ?_); rintro e w' ⟨rfl, ⟨nd, rfl⟩⟩))
     go_ret
     exact ⟨by first | rfl | simp [*], by repeat (first | exact Drawn0.refl _ | apply Drawn0.step)⟩
   rw [if_neg c3] at H
   have c3b0 : decide (x3_1 < (a0.size : Int)) = false := df_ c3
   clear c3
   (first | rw [c3b0] | (simp only [i64_w, i32_w]; rw [c3b0]) | skip)
   by_cases c12 : a0.toList = ([] : List UInt8)
   · rw [if_pos c12] at H
     have c12b0 : (a0.toList == ([] : List UInt8)) = true := beq_iff_eq.mpr c12
     have c12b1 : (a0.toList != ([] : List UInt8)) = false := bne_eq_false_iff_eq.mpr c12
     clear c12
     obtain rfl := Option.some.inj H
     go_wp2
     go_ret
     exact ⟨by first | rfl | simp [*], by repeat (first | exact Drawn0.refl _ | apply Drawn0.step)⟩
   rw [if_neg c12] at H
   have c12b0 : (a0.toList == ([] : List UInt8)) = false := beq_eq_false_iff_ne.mpr c12
   have c12b1 : (a0.toList != ([] : List UInt8)) = true := bne_iff_ne.mpr c12
   replace H := ob_ H
   obtain ⟨t152, A130, H⟩ := H
   replace H : (some (decide (t152 ≤ 64))) = some r := H
   have A13 := ak_ A130
   clear A130
   obtain rfl := Option.some.inj H
   go_wp2_with (first | (go_at_call 66; (with_reducible refine (uR02_Runes.calls k1 a0 t152 _ A13.out).mono ?_); rintro e w' ⟨rfl, ⟨nd, rfl⟩⟩))
   go_ret
   exact ⟨by first | rfl | simp [*], by repeat (first | exact Drawn0.refl _ | apply Drawn0.step)⟩
theorem ref_letter_f (c : Int) : uR02_letter.f c = some (Utf.letterP c) := by
  unfold uR02_letter.f Utf.letterP
  repeat' split
  all_goals (refine congrArg some ?_; rw [Bool.eq_iff_iff]; simp only [decide_eq_true_eq, true_iff, false_iff]; omega)
theorem ref_may_f (c : Int) : uR02_may.f c = some (Utf.mayP c) := by
  unfold uR02_may.f
  rw [ref_letter_f, bs_]
  unfold Utf.letterP Utf.mayP
  repeat' split
  all_goals (refine congrArg some ?_; rw [Bool.eq_iff_iff]; simp only [decide_eq_true_eq, beq_iff_eq, true_iff, false_iff] at *; omega)
inductive StepAt (s : ByteArray) (p : Nat) : Int × Int → Prop
  | bad : Utf.first (s.data.toList.drop p) = none → (Utf8.decode s p).2 = 1 → StepAt s p (0, 0)
  | rune (c w : Nat) : Utf.first (s.data.toList.drop p) = some c → (Utf8.decode s p).1 = c → (Utf8.decode s p).2 = w → 1 ≤ w → w ≤ 4 → p + w ≤ s.size → StepAt s p ((c : Int), (w : Int))
theorem decode_w4 (s : ByteArray) (p : Nat) : (Utf8.decode s p).2 ≤ 4 := by
  rw [Lib.decode_N]
  unfold Lib.decodeN
  repeat' split
  all_goals simp
theorem step_at (s : ByteArray) (p : Nat) (hp : p < s.size) : StepAt s p (atD (Utf8.decode s p)) := by
  have hf := first_at s p
  unfold atD
  by_cases hb : (Utf8.decode s p).1 = 65533 ∧ (Utf8.decode s p).2 = 1
  · rw [if_pos hb] at hf ⊢
    exact .bad hf hb.2
  · rw [if_neg hb] at hf ⊢
    have hne : s.data.toList.drop p ≠ [] := by
      intro e
      have := congrArg List.length e
      rw [List.length_drop, drop_size] at this
      simp at this
      omega
    have hle := Lib.decodeL_le _ hne
    rw [Lib.decodeL_drop, List.length_drop, drop_size] at hle
    exact .rune _ _ hf rfl rfl (Lib.width_pos s p) (decode_w4 s p) (by omega)
theorem at_step_f (s : ByteArray) (p : Nat) (hs : s.size ≤ 140737488351232) (hp : p < s.size) (k : Nat) (hk : 20 ≤ k) : ∃ x, uR02_At.f k s (p : Int) = some x ∧ StepAt s p x := by
  have h := at_spec s (p : Int) hs (by omega) (by omega) k hk
  rw [Int.toNat_natCast] at h
  exact ⟨_, h, step_at s p hp⟩
theorem ref_runes_l (s : ByteArray) (hs : s.size ≤ 140737488351232) : ∀ (d : Nat) (k p n : Nat), s.size - p ≤ d → n ≤ p → p ≤ s.size + 4 → d + 25 ≤ k →
    uR02_Runes.l0 k s (n : Int) (p : Int) = some (((n + (Utf.runes (s.data.toList.drop p)).length : Nat) : Int)) := by
  intro d
  induction d with
  | zero =>
    intro k p n hd hn hp hk
    obtain ⟨k, rfl⟩ : ∃ q, k = q + 1 := ⟨k - 1, by omega⟩
    rw [uR02_Runes.l0, if_neg (by omega), runes_end s p (by omega)]
    rfl
  | succ d ih =>
    intro k p n hd hn hp hk
    obtain ⟨k, rfl⟩ : ∃ q, k = q + 1 := ⟨k - 1, by omega⟩
    by_cases hlt : p < s.size
    · obtain ⟨x, hx, hst⟩ := at_step_f s p hs hlt k (by omega)
      rw [uR02_Runes.l0, if_pos (by omega), hx, bs_, runes_at s p hlt]
      have e1 : wrap64 ((n : Int) + 1) = ((n + 1 : Nat) : Int) := by unfold wrap64; omega
      cases hst with
      | bad hf hw =>
        dsimp only
        rw [if_pos rfl, e1, show wrap64 ((p : Int) + 1) = ((p + 1 : Nat) : Int) by unfold wrap64; omega, ih k (p + 1) (n + 1) (by omega) (by omega) (by omega) (by omega), hw]
        simp only [List.length_cons]
        congr 2
        omega
      | rune c w hf hc hw w1 w4 hle =>
        dsimp only
        rw [if_neg (by omega), e1, show wrap64 ((p : Int) + (w : Int)) = ((p + w : Nat) : Int) by unfold wrap64; omega, ih k (p + w) (n + 1) (by omega) (by omega) (by omega) (by omega), hw]
        simp only [List.length_cons]
        congr 2
        omega
    · rw [uR02_Runes.l0, if_neg (by omega), runes_end s p hlt]
      rfl
theorem ref_runes (s : ByteArray) (hs : s.size ≤ 140737488351232) (k : Nat) (hk : s.size + 25 ≤ k) : uR02_Runes.f k s = some ((Utf.runes s.data.toList).length : Int) := by
  unfold uR02_Runes.f
  have := ref_runes_l s hs s.size k 0 0 (by omega) (by omega) (by omega) hk
  rw [List.drop_zero, Nat.zero_add] at this
  exact this
theorem ref_good_l (s : ByteArray) (hs : s.size ≤ 140737488351232) (h0 : 0 < s.size) : ∀ (d : Nat) (k p : Nat), 0 < p → s.size - p ≤ d → d + s.size + 30 ≤ k →
    uR02_Good.l0 k s (p : Int) = some ((Utf.runes (s.data.toList.drop p)).all Utf.okRune && decide ((Utf.runes s.data.toList).length ≤ 64)) := by
  have hend : ∀ k p : Nat, ¬ p < s.size → s.size + 30 ≤ k → uR02_Good.l0 k s (p : Int) = some ((Utf.runes (s.data.toList.drop p)).all Utf.okRune && decide ((Utf.runes s.data.toList).length ≤ 64)) := by
    intro k p hp hk
    obtain ⟨k, rfl⟩ : ∃ q, k = q + 1 := ⟨k - 1, by omega⟩
    have hne : ¬ s.toList = ([] : List UInt8) := by
      rw [Lib.toList_data]
      intro e
      have := congrArg List.length e
      rw [drop_size, List.length_nil] at this
      omega
    rw [uR02_Good.l0, if_neg (by omega), if_neg hne, ref_runes s hs k (by omega), bs_, runes_end s p hp, List.all_nil, Bool.true_and]
    refine congrArg some (decide_eq_decide.2 ⟨fun h => by omega, fun h => by omega⟩)
  intro d
  induction d with
  | zero =>
    intro k p hp hd hk
    exact hend k p (by omega) (by omega)
  | succ d ih =>
    intro k p hp hd hk
    by_cases hlt : p < s.size
    · obtain ⟨k, rfl⟩ : ∃ q, k = q + 1 := ⟨k - 1, by omega⟩
      obtain ⟨x, hx, hst⟩ := at_step_f s p hs hlt k (by omega)
      rw [uR02_Good.l0, if_pos (by omega), hx, bs_, runes_at s p hlt, List.all_cons]
      cases hst with
      | bad hf hw =>
        dsimp only
        rw [if_pos rfl, hf]
        rfl
      | rune c w hf hc hw w1 w4 hle =>
        dsimp only
        rw [if_neg (by omega), ref_may_f, bs_, hf, show Utf.okRune (some c) = Utf.mayP (c : Int) from rfl]
        cases hm : Utf.mayP (c : Int) with
        | false => rfl
        | true =>
          rw [if_pos rfl, if_neg (by omega), show wrap64 ((p : Int) + (w : Int)) = ((p + w : Nat) : Int) by unfold wrap64; omega, ih k (p + w) (by omega) (by omega) (by omega), hw, Bool.true_and]
    · exact hend k p hlt (by omega)
theorem ref_good (s : ByteArray) (hs : s.size ≤ 140737488351232) (k : Nat) (hk : 2 * s.size + 40 ≤ k) : uR02_Good.f k s = some (Utf.goodD s.data.toList) := by
  unfold uR02_Good.f
  obtain ⟨k, rfl⟩ : ∃ q, k = q + 1 := ⟨k - 1, by omega⟩
  by_cases h0 : 0 < s.size
  · obtain ⟨x, hx, hst⟩ := at_step_f s 0 hs h0 k (by omega)
    rw [uR02_Good.l0, if_pos (by omega), show (0 : Int) = ((0 : Nat) : Int) from rfl, hx, bs_]
    have e := runes_at s 0 h0
    rw [List.drop_zero] at e
    unfold Utf.goodD
    cases hst with
    | bad hf hw =>
      dsimp only
      rw [List.drop_zero] at hf
      rw [if_pos rfl, e, hf]
      rfl
    | rune c w hf hc hw w1 w4 hle =>
      dsimp only
      rw [List.drop_zero] at hf
      rw [if_neg (by omega), ref_may_f, bs_]
      have hall : (Utf.runes s.data.toList).all Utf.okRune = (Utf.mayP (c : Int) && (Utf.runes (s.data.toList.drop w)).all Utf.okRune) := by
        rw [e, List.all_cons, hf, hw, Nat.zero_add]
        rfl
      have hhead : (Utf.runes s.data.toList).head? = some (some c) := by rw [e, List.head?_cons, hf]
      rw [hall, hhead]
      cases hm : Utf.mayP (c : Int) with
      | false => rfl
      | true =>
        rw [if_pos rfl, if_pos rfl, ref_letter_f, bs_]
        cases hl : Utf.letterP (c : Int) with
        | false => simp [hl]
        | true =>
          rw [if_pos rfl, show wrap64 (((0 : Nat) : Int) + (w : Int)) = ((w : Nat) : Int) by unfold wrap64; omega, ref_good_l s hs h0 s.size k w (by omega) (by omega) (by omega)]
          simp [hl]
  · have hz : s.data.toList = [] := List.eq_nil_of_length_eq_zero (by rw [drop_size]; omega)
    rw [uR02_Good.l0, if_neg (by omega), if_pos (by rw [Lib.toList_data]; exact hz), hz]
    rfl
end Go.Proofs.YtcgpbakimkhdpaaDoor.Q
