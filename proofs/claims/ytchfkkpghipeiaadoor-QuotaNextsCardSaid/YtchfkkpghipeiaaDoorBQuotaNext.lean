/- quota, in plain numbers: the next tick. -/
import Derived.Test.YtchfkkpghipeiaaDoorBQuota
namespace Go.Proofs.YtchfkkpghipeiaaDoor.Q
open Go.RowKit Go.Shelf Go.Proofs.YtchfkkpghipeiaaDoorW.PrintWords Go.Proofs.YtchfkkpghipeiaaDoorW.PrintLast Go.Proofs.YtchfkkpghipeiaaDoorW.PrintMore
set_option linter.unusedVariables false

theorem Inv.left {q : S23} {x : S46} {t : Int} {L : List Int} (hr : rightB q = true) (hI : Inv q x t L) (hlen : L.length < 1000000) (now : Int) (hm : mayG t now = true) :
    ∃ e, e ≤ L.length ∧ inW x now = L.drop e ∧ (∀ j, j < e → aL L j ≤ now - q.f2) ∧ (e < L.length → now - q.f2 < aL L e) ∧ ((L.length - e : Nat) : Int) ≤ q.f1 ∧ leftG [x] t q.f0 now = q.f1 - ((L.length - e : Nat) : Int) := by
  obtain ⟨r1, r2, r3, r4⟩ := right_of hr
  obtain ⟨e, e1, e2, e3, e4, e5⟩ := hI.within hr now hm
  rw [List.length_drop] at e5
  refine ⟨e, e1, e2, e3, e4, e5, ?_⟩
  have h := leftG_one x t now hm
  rw [hI.quo, e2, List.length_drop] at h
  rw [h]
  unfold wrap64
  omega
theorem take_ok {x : S46} {t n : Int} (hm : mayG t n = true) (hl : leftG [x] t x.f0.f0 n ≠ 0) : takeE x t n = 0 := by
  unfold takeE
  rw [if_pos hm, if_neg hl]

theorem next_cases {q : S23} {x : S46} {t : Int} {L : List Int} (hr : rightB q = true) (hI : Inv q x t L) (hlen : L.length < 1000000) (now : Int) :
    (1099511627776 < nextG x t now ∧ (now < 0 ∨ 1099511627776 < now ∨ leftG [x] t q.f0 now = 0)) ∨
    (0 ≤ now ∧ now ≤ nextG x t now ∧ nextG x t now ≤ 1099511627776 ∧ (∀ k, now ≤ k → k < nextG x t now → leftG [x] t q.f0 k = 0) ∧ 0 < leftG [x] t q.f0 (nextG x t now) ∧ takeE x t (nextG x t now) = 0) := by
  obtain ⟨r1, r2, r3, r4⟩ := right_of hr
  by_cases hm : mayG t now = true
  · obtain ⟨n0, n1, n2⟩ := may_of hm
    obtain ⟨e, e1, e2, e3, e4, e5, e6⟩ := hI.left hr hlen now hm
    have hq := hI.quo
    by_cases hl : 0 < leftG [x] t q.f0 now
    · have hn : nextG x t now = now := by
        unfold nextG
        rw [if_pos hm, hq, if_pos hl]
      rw [hn]
      exact .inr ⟨n0, Int.le_refl _, n1, fun k h1 h2 => by omega, hl, take_ok hm (by rw [hq]; omega)⟩
    · have hfull : ((L.length - e : Nat) : Int) = q.f1 := by omega
      have hz : leftG [x] t q.f0 now = 0 := by omega
      by_cases hmo : q.f1 = 0
      · have hn : nextG x t now = 1099511627777 := by
          unfold nextG
          rw [if_pos hm, hq, if_neg hl, if_pos hmo]
        rw [hn]
        exact .inl ⟨by decide, .inr (.inr hz)⟩
      · have hel : e < L.length := by omega
        have ha := e4 hel
        have hrd : rd (inW x now) (wrap64 (((inW x now).length : Int) - q.f1)) = aL L e := by
          rw [e2, List.length_drop, hfull]
          have : wrap64 (q.f1 - q.f1) = 0 := by simp [wrap64]
          rw [this]
          unfold rd aL
          rw [List.getD_eq_getElem?_getD, List.getD_eq_getElem?_getD]
          simp
        have ha1 := hI.low e hel
        have ha2 := hI.top e hel
        have ha3 := hI.t1
        have hw : wrap64 (aL L e + q.f2) = aL L e + q.f2 := by unfold wrap64; omega
        have hn : nextG x t now = mn (aL L e + q.f2) 1099511627777 := by
          unfold nextG
          rw [if_pos hm, hq, if_neg hl, if_neg hmo, hrd, hw]
        rw [hn]
        unfold mn
        by_cases hb : (1099511627777 : Int) < aL L e + q.f2
        · rw [if_pos hb]
          exact .inl ⟨by decide, .inr (.inr hz)⟩
        · rw [if_neg hb]
          by_cases hb2 : 1099511627776 < aL L e + q.f2
          · exact .inl ⟨hb2, .inr (.inr hz)⟩
          · refine .inr ⟨n0, by omega, by omega, fun k k1 k2 => ?_, ?_⟩
            · have hmk : mayG t k = true := by
                unfold mayG
                simp only [Bool.and_eq_true, decide_eq_true_eq]
                exact ⟨⟨by omega, by omega⟩, by omega⟩
              obtain ⟨f, f1, f2, f3, f4, f5, f6⟩ := hI.left hr hlen k hmk
              have hfe : f = e := by
                have h1 : ¬ e < f := fun h => by have := f3 e h; omega
                have h2 : ¬ f < e := fun h => by have := e3 f h; have := f4 (by omega); omega
                omega
              rw [f6, hfe]
              omega
            · have hmk : mayG t (aL L e + q.f2) = true := by
                unfold mayG
                simp only [Bool.and_eq_true, decide_eq_true_eq]
                exact ⟨⟨by omega, by omega⟩, by omega⟩
              obtain ⟨f, f1, f2, f3, f4, f5, f6⟩ := hI.left hr hlen (aL L e + q.f2) hmk
              have hfe : e < f := by
                by_cases h : e < f
                · exact h
                · exfalso
                  have := f4 (by omega)
                  have := hI.up f e (by omega) hel
                  omega
              have hpos : 0 < leftG [x] t q.f0 (aL L e + q.f2) := by rw [f6]; omega
              exact ⟨hpos, take_ok hmk (by rw [hq]; omega)⟩
  · have hn : nextG x t now = 1099511627777 := by
      unfold nextG
      rw [if_neg hm]
    rw [hn]
    refine .inl ⟨by decide, ?_⟩
    by_cases h1 : now < 0
    · exact .inl h1
    · by_cases h2 : 1099511627776 < now
      · exact .inr (.inl h2)
      · refine .inr (.inr ?_)
        unfold leftG
        rw [if_neg hm]
end Go.Proofs.YtchfkkpghipeiaaDoor.Q
