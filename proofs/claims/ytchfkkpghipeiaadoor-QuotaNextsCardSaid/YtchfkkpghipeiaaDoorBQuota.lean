/- quota, in plain numbers: what was let through, beside a gate of one row. -/
import Derived.Test.YtchfkkpghipeiaaDoorGAwakeQuota
namespace Go.Proofs.YtchfkkpghipeiaaDoor.Q
open Go.RowKit Go.Shelf Go.Proofs.YtchfkkpghipeiaaDoorW.PrintWords Go.Proofs.YtchfkkpghipeiaaDoorW.PrintLast Go.Proofs.YtchfkkpghipeiaaDoorW.PrintMore
set_option linter.unusedVariables false

/-- Tick j. -/
def aL (L : List Int) (j : Nat) : Int := L.getD j 0
theorem aL_append (L : List Int) (y : Int) (j : Nat) : aL (L ++ [y]) j = if j < L.length then aL L j else if j = L.length then y else 0 := by
  unfold aL
  rw [List.getD_eq_getElem?_getD, List.getD_eq_getElem?_getD]
  by_cases h : j < L.length
  · rw [if_pos h, List.getElem?_append_left h]
  · rw [if_neg h, List.getElem?_append_right (by omega)]
    by_cases h2 : j = L.length
    · subst h2; simp
    · rw [if_neg h2, List.getElem?_eq_none (by simp; omega)]; rfl
theorem withinL_drop (L : List Int) (lim : Int) : ∀ (n d : Nat), L.length - d = n → d ≤ L.length → ∃ e, d ≤ e ∧ e ≤ L.length ∧ withinL (L.drop d) lim = L.drop e ∧ (∀ j, d ≤ j → j < e → aL L j ≤ lim) ∧ (e < L.length → lim < aL L e)
  | 0, d, hn, hd => ⟨d, Nat.le_refl _, hd, by rw [List.drop_of_length_le (by omega)]; rfl, fun j h1 h2 => by omega, fun h => by omega⟩
  | n + 1, d, hn, hd => by
    have hlt : d < L.length := by omega
    have ha : aL L d = L[d] := by
      unfold aL
      rw [List.getD_eq_getElem?_getD, List.getElem?_eq_getElem hlt]; rfl
    by_cases h : L[d] ≤ lim
    · obtain ⟨e, h1, h2, h3, h4, h5⟩ := withinL_drop L lim n (d + 1) (by omega) (by omega)
      refine ⟨e, by omega, h2, by rw [withinL_go L lim d hlt h]; exact h3, fun j j1 j2 => ?_, h5⟩
      by_cases hj : j = d
      · subst hj; rw [ha]; exact h
      · exact h4 j (by omega) j2
    · exact ⟨d, Nat.le_refl _, hd, withinL_stop L lim d hlt h, fun j j1 j2 => by omega, fun _ => by rw [ha]; omega⟩
theorem withinL_snoc (l : List Int) (y lim : Int) (h : lim < y) : withinL (l ++ [y]) lim = withinL l lim ++ [y] := by
  unfold withinL
  induction l with
  | nil => simp [List.dropWhile_cons]; omega
  | cons a l ih =>
    rw [List.cons_append, List.dropWhile_cons, List.dropWhile_cons]
    by_cases ha : a ≤ lim
    · rw [if_pos (by simpa using ha), if_pos (by simpa using ha)]; exact ih
    · rw [if_neg (by simpa using ha), if_neg (by simpa using ha)]; rfl

/-- What was let through, and what the gate holds of it. -/
structure Inv (q : S23) (x : S46) (t : Int) (L : List Int) : Prop where
  quo : x.f0 = q
  t0 : 0 ≤ t
  t1 : t ≤ 1099511627776
  held : ∃ d, d ≤ L.length ∧ x.f1 = L.drop d ∧ ∀ j, j < d → aL L j ≤ t - q.f2
  low : ∀ j, j < L.length → 0 ≤ aL L j
  top : ∀ j, j < L.length → aL L j ≤ t
  up : ∀ i j, i ≤ j → j < L.length → aL L i ≤ aL L j
  few : ∀ i m, i ≤ m → m < L.length → aL L m < aL L i + q.f2 → (m : Int) - i + 1 ≤ q.f1
theorem Inv.new (q : S23) : Inv q (mk0 q) 0 [] := ⟨rfl, Int.le_refl _, by decide, ⟨0, Nat.le_refl _, rfl, fun j h => by omega⟩, fun j h => by simp at h, fun j h => by simp at h, fun i j _ h => by simp at h, fun i m _ h => by simp at h⟩
theorem right_of {q : S23} (h : rightB q = true) : 0 ≤ q.f1 ∧ q.f1 ≤ 1000 ∧ 1 ≤ q.f2 ∧ q.f2 ≤ 1099511627776 := by
  unfold rightB at h
  simp only [Bool.and_eq_true, decide_eq_true_eq] at h
  obtain ⟨⟨⟨⟨_, h1⟩, h2⟩, h3⟩, h4⟩ := h
  exact ⟨h1, h2, h3, h4⟩
theorem may_of {t now : Int} (h : mayG t now = true) : 0 ≤ now ∧ now ≤ 1099511627776 ∧ t ≤ now := by
  unfold mayG at h
  simp only [Bool.and_eq_true, decide_eq_true_eq] at h
  exact ⟨h.1.1, h.1.2, h.2⟩
/-- What lies within the window of a tick. -/
theorem Inv.within {q : S23} {x : S46} {t : Int} {L : List Int} (hr : rightB q = true) (hI : Inv q x t L) (now : Int) (hm : mayG t now = true) :
    ∃ e, e ≤ L.length ∧ inW x now = L.drop e ∧ (∀ j, j < e → aL L j ≤ now - q.f2) ∧ (e < L.length → now - q.f2 < aL L e) ∧ ((L.drop e).length : Int) ≤ q.f1 := by
  obtain ⟨r1, r2, r3, r4⟩ := right_of hr
  obtain ⟨n0, n1, n2⟩ := may_of hm
  obtain ⟨d, hd, hx, hlo⟩ := hI.held
  have hw : wrap64 (now - x.f0.f2) = now - q.f2 := by rw [hI.quo]; unfold wrap64; omega
  obtain ⟨e, h1, h2, h3, h4, h5⟩ := withinL_drop L (now - q.f2) _ d rfl hd
  have hall : ∀ j, j < e → aL L j ≤ now - q.f2 := fun j hj => by
    by_cases hjd : j < d
    · have := hlo j hjd; omega
    · exact h4 j (by omega) hj
  refine ⟨e, h2, by unfold inW; rw [hw, hx]; exact h3, hall, h5, ?_⟩
  rw [List.length_drop]
  by_cases he : e < L.length
  · have g1 := hI.few e (L.length - 1) (by omega) (by omega) (by have := h5 he; have := hI.top (L.length - 1) (by omega); omega)
    omega
  · omega
theorem Inv.step {q : S23} {x : S46} {t : Int} {L : List Int} (hr : rightB q = true) (hI : Inv q x t L) (hlen : L.length < 1000000) (now : Int) (he0 : takeE x t now = 0) : Inv q (takeX x t now) (takeT x t now) (L ++ [now]) := by
  obtain ⟨r1, r2, r3, r4⟩ := right_of hr
  rw [takeX, takeT, if_pos he0, if_pos he0]
  unfold takeE at he0
  by_cases hm : mayG t now = true
  · rw [if_pos hm] at he0
    by_cases hl : leftG [x] t x.f0.f0 now = 0
    · rw [if_pos hl] at he0; exact absurd he0 (by decide)
    · obtain ⟨n0, n1, n2⟩ := may_of hm
      obtain ⟨e, e1, e2, e3, e4, e5⟩ := hI.within hr now hm
      rw [leftG_one x t now hm, e2, hI.quo] at hl
      have hlt : ((L.drop e).length : Int) < q.f1 := by
        rcases Int.lt_or_eq_of_le e5 with h | h
        · exact h
        · exact absurd (by rw [h]; simp [wrap64]) hl
      rw [List.length_drop] at hlt
      have hw : wrap64 (now - x.f0.f2) = now - q.f2 := by rw [hI.quo]; unfold wrap64; omega
      refine ⟨hI.quo, n0, n1, ⟨e, by rw [List.length_append]; omega, ?_, fun j hj => ?_⟩, fun j hj => ?_, fun j hj => ?_, fun i j hij hj => ?_, fun i m him hm2 hmw => ?_⟩
      · show withinL (x.f1 ++ [now]) (wrap64 (now - x.f0.f2)) = _
        rw [hw, withinL_snoc _ _ _ (by omega), List.drop_append_of_le_length e1]
        have : withinL x.f1 (wrap64 (now - x.f0.f2)) = L.drop e := e2
        rw [hw] at this
        rw [this]
      · rw [aL_append, if_pos (by omega)]; exact e3 j hj
      · rw [List.length_append, List.length_singleton] at hj
        rw [aL_append]
        by_cases h : j < L.length
        · rw [if_pos h]; exact hI.low j h
        · rw [if_neg h, if_pos (by omega)]; exact n0
      · rw [List.length_append, List.length_singleton] at hj
        rw [aL_append]
        by_cases h : j < L.length
        · rw [if_pos h]; have := hI.top j h; omega
        · rw [if_neg h, if_pos (by omega)]; exact Int.le_refl _
      · rw [List.length_append, List.length_singleton] at hj
        rw [aL_append, aL_append]
        by_cases h : j < L.length
        · rw [if_pos h, if_pos (by omega)]; exact hI.up i j hij h
        · rw [if_neg h, if_pos (show j = L.length by omega)]
          by_cases h2 : i < L.length
          · rw [if_pos h2]; have := hI.top i h2; omega
          · rw [if_neg h2, if_pos (by omega)]; exact Int.le_refl _
      · rw [List.length_append, List.length_singleton] at hm2
        rw [aL_append, aL_append] at hmw
        by_cases h : m < L.length
        · rw [if_pos h, if_pos (by omega)] at hmw
          exact hI.few i m him h hmw
        · have hmn : m = L.length := by omega
          rw [if_neg h, if_pos hmn] at hmw
          by_cases h2 : i < L.length
          · rw [if_pos h2] at hmw
            have : ¬ i < e := fun hie => by have := e3 i hie; omega
            omega
          · omega
  · rw [if_neg hm] at he0; exact absurd he0 (by decide)
theorem Inv.stay {q : S23} {x : S46} {t : Int} {L : List Int} (hI : Inv q x t L) (now : Int) (he0 : takeE x t now ≠ 0) : Inv q (takeX x t now) (takeT x t now) L := by
  rw [takeX, takeT, if_neg he0, if_neg he0]; exact hI
end Go.Proofs.YtchfkkpghipeiaaDoor.Q
