/- quota: Left. -/
import Derived.Test.YtchfkkpghipeiaaDoorGQuotaWithin
import Derived.Deep.RegionWith
namespace Go.Proofs.YtchfkkpghipeiaaDoor.Q
open Go.RowKit Go.Shelf Go.Proofs.YtchfkkpghipeiaaDoorW.PrintWords Go.Proofs.YtchfkkpghipeiaaDoorW.PrintLast Go.Proofs.YtchfkkpghipeiaaDoorW.PrintMore
set_option linter.unusedVariables false
set_option linter.unusedSimpArgs false

def mayG (t now : Int) : Bool := decide (0 ≤ now) && decide (now ≤ 1099511627776) && decide (t ≤ now)
/-- The ticks of a row within the window of a tick. -/
def inW (x : S46) (now : Int) : List Int := withinL x.f1 (wrap64 (now - x.f0.f2))
def leftG (l : List S46) (t : Int) (nm : ByteArray) (now : Int) : Int :=
  if mayG t now = true then (if firstI (isNamed nm) l 0 < 0 then 1000 else wrap64 ((rd_T46 l (firstI (isNamed nm) l 0)).f0.f1 - ((inW (rd_T46 l (firstI (isNamed nm) l 0)) now).length : Int))) else 0
theorem firstI_range {α : Type} (p : α → Bool) : ∀ (l : List α) (j : Int), 0 ≤ j → firstI p l j = -1 ∨ (j ≤ firstI p l j ∧ firstI p l j < j + l.length)
  | [], _, _ => .inl rfl
  | a :: l, j, hj => by
    unfold firstI
    by_cases h : p a = true
    · rw [if_pos h]; exact .inr ⟨by omega, by simp only [List.length_cons]; omega⟩
    · rw [if_neg h]
      rcases firstI_range p l (j + 1) (by omega) with e | ⟨e1, e2⟩
      · exact .inl e
      · exact .inr ⟨by omega, by simp only [List.length_cons]; omega⟩

set_option maxRecDepth 100000 in
set_option maxHeartbeats 4000000 in
theorem quota_Left.calls (g : Nat) (nm : ByteArray) (now : Int) (l : List S46) (t : Int) (w : World) (hG : RdG w g l t) (hl : l.length < 1000000) (hts : ∀ x ∈ l, x.f1.length < 1000000) :
    Calls Tryd.prog 10 #[.pointer (some ⟨g, 0, none⟩), .string nm, .int .i64 now] w fun e w' => e = .returned (.int .i64 (leftG l t nm now)) ∧ Below w.heap.size w w' := by
  have HG := Aside0.mk hG
  have HB := Aside0.mk (Below.refl w.heap.size w)
  have HL := Aside0.mk hl
  have HTS := Aside0.mk hts
  obtain ⟨i, hi⟩ : ∃ i, firstI (isNamed nm) l 0 = i := ⟨_, rfl⟩
  have HI := Aside0.mk hi
  obtain ⟨m, hm⟩ : ∃ m, mayG t now = m := ⟨_, rfl⟩
  have HM := Aside0.mk hm
  have hr := firstI_range (isNamed nm) l 0 (Int.le_refl _)
  rw [hi] at hr
  clear hG hl hts hi hm
  rw [leftG, HI.out, HM.out]
  cases m with
  | false =>
    rw [if_neg (show ¬ false = true by decide)]
    clear hr
    go_enter Tryd.func10, Tryd.ntmps10
    go_wp2_with (first | (go_at_call 15; refine (quota_find.calls g nm l t _ HG.out HL.out).mono ?_; rw [HI.out]; rintro e w1 ⟨rfl, hb⟩; have HB1 := Aside0.mk hb; clear hb) | (go_at_call 16; refine (quota_may.calls g now l t _ (HG.out.below HB1.out)).mono ?_; rintro e w2 ⟨rfl, hb⟩; have HB2 := Aside0.mk (below_step HB1.out hb); have hmm : (decide (0 ≤ now) && decide (now ≤ 1099511627776) && decide (t ≤ now)) = false := HM.out; clear hb))
    go_ret
    exact ⟨rfl, HB2.out⟩
  | true =>
    rw [if_pos rfl]
    rcases hr with rfl | ⟨h0, h1⟩
    · rw [if_pos (by decide)]
      go_enter Tryd.func10, Tryd.ntmps10
      go_wp2_with (first | (go_at_call 15; refine (quota_find.calls g nm l t _ HG.out HL.out).mono ?_; rw [HI.out]; rintro e w1 ⟨rfl, hb⟩; have HB1 := Aside0.mk hb; clear hb) | (go_at_call 16; refine (quota_may.calls g now l t _ (HG.out.below HB1.out)).mono ?_; rintro e w2 ⟨rfl, hb⟩; have HB2 := Aside0.mk (below_step HB1.out hb); have hmm : (decide (0 ≤ now) && decide (now ≤ 1099511627776) && decide (t ≤ now)) = true := HM.out; clear hb))
      go_ret
      exact ⟨rfl, HB2.out⟩
    · rw [if_neg (by omega)]
      have hd0 : decide (i < 0) = false := decide_eq_false (by omega)
      have hp1 : (0 ≤ i) = True := eq_true h0
      have hq1 : (i < (l.length : Int)) = True := eq_true (by omega)
      obtain ⟨A, c, hbk, hC, hcap⟩ := HG.out
      obtain ⟨ad, A3, c3, e, x0, x1, x2, x3, hc3, hr3⟩ := at_T46 hC i h0 (by omega)
      cases e
      have hmem : rd_T46 l i ∈ l := by
        have hk : i.toNat < l.length := by omega
        unfold rd_T46
        rw [List.getD_eq_getElem?_getD, List.getElem?_eq_getElem hk]
        exact List.getElem_mem hk
      have HT := Aside0.mk (HTS.out _ hmem)
      have HC3 := Aside0.mk hc3
      have HR3 := Aside0.mk hr3
      have HBK := Aside0.mk hbk
      have HX := Aside0.mk (And.intro x0 (And.intro x1 (And.intro x2 x3)))
      clear hmem hC hcap h0 h1 x0 x1 x2 x3 hc3 hr3 hbk
      unfold inW
      generalize rd_T46 l i = x at *
      go_enter Tryd.func10, Tryd.ntmps10
      go_wp2_with (first | (go_at_call 15; refine (quota_find.calls g nm l t _ HG.out HL.out).mono ?_; rw [HI.out]; rintro e w1 ⟨rfl, hb⟩; have HB1 := Aside0.mk hb; clear hb) | (go_at_call 16; refine (quota_may.calls g now l t _ (HG.out.below HB1.out)).mono ?_; rintro e w2 ⟨rfl, hb⟩; have HB2 := Aside0.mk (below_step HB1.out hb); have hmm : (decide (0 ≤ now) && decide (now ≤ 1099511627776) && decide (t ≤ now)) = true := HM.out; clear hb))
      have hbc : Below w.heap.size w w2.drew := below_drew1 HB2.out
      have y0 : w2.drew.cell? ⟨g, 0, none⟩ = some (.slice (some ad) l.length c) := (hbc.cell (p := ⟨g, 0, none⟩) (blk_lt HBK.out)).trans ((blk_cell HBK.out 0).trans rfl)
      have z0 := (hbc.cell (World.block_lt_of_cell? w _ HX.out.1)).trans HX.out.1
      have z1 := (hbc.cell (World.block_lt_of_cell? w _ HX.out.2.1)).trans HX.out.2.1
      have z2 := (hbc.cell (World.block_lt_of_cell? w _ HX.out.2.2.1)).trans HX.out.2.2.1
      have z3 := (hbc.cell (World.block_lt_of_cell? w _ HX.out.2.2.2)).trans HX.out.2.2.2
      go_region_with (go_at_call 17; go_loud (refine (row_within.calls x.f0.f0 x.f0.f1 x.f0.f2 x.f1 A3 c3 now _ rfl _ (Kd.C_below HR3.out hbc) HC3.out HT.out).mono ?_; rintro e w3 ⟨A4, rfl, hC4, hb3⟩; replace hbc := below_step hbc hb3; clear hC4; replace y0 := (hb3.cell (World.block_lt_of_cell? _ _ y0)).trans y0; replace z1 := (hb3.cell (World.block_lt_of_cell? _ _ z1)).trans z1; replace z0 := (hb3.cell (World.block_lt_of_cell? _ _ z0)).trans z0; replace z2 := (hb3.cell (World.block_lt_of_cell? _ _ z2)).trans z2; replace z3 := (hb3.cell (World.block_lt_of_cell? _ _ z3)).trans z3; clear hb3))
      all_goals go_wp2
      all_goals go_ret
      all_goals exact ⟨by rw [← i64_w (x.f0.f1 - _)]; rfl, hbc⟩
end Go.Proofs.YtchfkkpghipeiaaDoor.Q
