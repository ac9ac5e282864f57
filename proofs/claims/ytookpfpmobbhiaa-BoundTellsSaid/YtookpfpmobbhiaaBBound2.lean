/- A state's bound and the document's, in plain numbers; the guards. -/
import Derived.Test.YtookpfpmobbhiaaBBound
namespace Go.Proofs.Ytookpfpmobbhiaa.Q
set_option linter.unusedVariables false
open Go.RowKit Go.Proofs.YtookpfpmobbhiaaW.PrintWords Go.Proofs.YtookpfpmobbhiaaW.PrintLast Go.Proofs.YtookpfpmobbhiaaW.PrintMore

theorem def_loop (l0 : List S28) (l1 : List S44) (nx : Int) (s : ByteArray) (hl : l0.length < 1000000) : ∀ (d i k : Nat), i + d = l0.length → d < k →
    usufructref16_Def.l0 k s (i : Int) l0 l1 nx = some (firstI (isNamed s) (l0.drop i) (i : Int)) := by
  intro d
  induction d with
  | zero =>
    intro i k hi hk
    obtain ⟨k, rfl⟩ : ∃ m, k = m + 1 := ⟨k - 1, by omega⟩
    rw [usufructref16_Def.l0, if_neg (by omega), show i = l0.length by omega, List.drop_length]
    rfl
  | succ d ih =>
    intro i k hi hk
    obtain ⟨k, rfl⟩ : ∃ m, k = m + 1 := ⟨k - 1, by omega⟩
    have hlt : i < l0.length := by omega
    rw [usufructref16_Def.l0, if_pos (by omega), if_pos (by omega), rd_DF l0 i hlt, firstI_at _ _ _ hlt, w64 (by omega) (by omega), show ((i : Int) + 1) = ((i + 1 : Nat) : Int) by omega]
    by_cases h : l0[i].f0.toList = s.toList
    · rw [if_pos h, if_pos (by unfold isNamed; rw [h]; exact beq_self_eq_true _)]
    · rw [if_neg h, ih (i + 1) k (by omega) (by omega), if_neg (by unfold isNamed; rw [beq_iff_eq]; exact h)]
theorem refdef_eq (l0 : List S28) (l1 : List S44) (nx : Int) (s : ByteArray) (hl : l0.length < 1000000) {k : Nat} (hk : l0.length < k) : usufructref16_Def.f k l0 l1 nx s = some (firstI (isNamed s) l0 0) := by
  unfold usufructref16_Def.f
  have := def_loop l0 l1 nx s hl l0.length 0 k (by omega) hk
  simpa using this

/-- What a saga adds. -/
def tkE (l0 : List S28) (x : S44) : Int := if isLive x = true then emE (defOf l0 x.f1).f2 else 0
theorem tkE_nonneg (l0 : List S28) (x : S44) : 0 ≤ tkE l0 x := by unfold tkE; split; exact emE_nonneg _; exact Int.le_refl _
theorem tkE_le (l0 : List S28) (x : S44) : tkE l0 x ≤ MT := by unfold tkE; split; exact emE_le _; decide
theorem emE_nil : emE [] = 0 := rfl
theorem sumT_ticks (l0 : List S28) : ∀ l1 : List S44, sumF tof (ticksL l0 l1) = sumF (tkE l0) l1
  | [] => rfl
  | a :: l => by
    have ih := sumT_ticks l0 l
    rw [sumF_cons]
    unfold ticksL liveL at ih ⊢
    rw [List.filter_cons]
    by_cases h : isLive a = true
    · rw [if_pos h, List.map_cons, sumF_cons, ih]
      unfold tkE tickOf
      rw [if_pos h, sumT_em, tof_id (emE_nonneg _) (emE_le _)]
    · rw [if_neg h, ih]
      unfold tkE
      rw [if_neg h, Int.zero_add]

theorem all_eq (a b c : Int) {k : Nat} (hk : 42 ≤ k) : usufructref25_All.f k a b c = bound_all.f a b c := by
  unfold usufructref25_All.f bound_all.f
  have e : usufructref01_Add.f a a = tick_Times.f 2 a := by
    rw [usufructref01_Add.eq, tick_Times.eq, show tof 2 = 2 from rfl, show tof a + tof a = 2 * tof a by omega]
  rw [e]
  simp only [usufructref01_Add.eq, usufructref01_Times.eq _ _ hk, tick_Add.eq, tick_Times.eq, Option.bind_some]
/-- A bound. -/
def allT (a b c : Int) : Int := sat (tof (sat (tof (sat (2 * tof a)) + tof (sat (tof b + 1)))) * tof (sat (tof c + 2)))
theorem bound_all_eq (a b c : Int) : bound_all.f a b c = some (allT a b c) := by
  unfold bound_all.f allT
  simp only [tick_Add.eq, tick_Times.eq, Option.bind_some]
  rfl

theorem ticks_loop (l0 : List S28) (l1 : List S44) (nx : Int) (lp : List S51) (hl0 : l0.length < 1000000) (hl1 : l1.length < 1000000) (hlp : lp.length < 1000000) (M : Nat) (hM : M < 1000000) (hls : ∀ d ∈ l0, d.f2.length ≤ M) : ∀ (d i k : Nat) (s : Int), i + d = l1.length → 2 * d + 1 + l0.length + l1.length + M + lgN l0 lp + 42 ≤ k → 0 ≤ s →
    usufructref25_Ticks.l0 k lp (sat s) (i : Int) l0 l1 nx = some (allT (sat (s + sumF (tkE l0) (l1.drop i))) ((liveL l1).length : Int) (greT (waitL l0 lp))) := by
  intro d
  induction d with
  | zero =>
    intro i k s hi hk hs
    obtain ⟨k, rfl⟩ : ∃ m, k = m + 1 := ⟨k - 1, by omega⟩
    rw [usufructref25_Ticks.l0, if_neg (by omega), live_eq l0 l1 nx hl1 (by omega), Option.bind_some, long_eq l0 lp hl0 hlp (fun d hd => by have := hls d hd; omega) (by omega), Option.bind_some, all_eq _ _ _ (by omega), bound_all_eq, Option.bind_some, show i = l1.length by omega, List.drop_length, sumF_nil, Int.add_zero]
  | succ d ih =>
    intro i k s hi hk hs
    obtain ⟨k, rfl⟩ : ∃ m, k = m + 1 + 1 := ⟨k - 2, by omega⟩
    have hlt : i < l1.length := by omega
    have hnx : wrap64 ((i : Int) + 1) = ((i + 1 : Nat) : Int) := by rw [w64 (by omega) (by omega)]; omega
    have hno : isLive l1[i] = false → usufructref25_Ticks.l0 k lp (sat s) (wrap64 ((i : Int) + 1)) l0 l1 nx = some (allT (sat (s + sumF (tkE l0) (l1.drop i))) ((liveL l1).length : Int) (greT (waitL l0 lp))) := fun hf => by
      rw [hnx, ih (i + 1) k s (by omega) (by omega) hs, sumF_drop (tkE l0) l1 i hlt]
      unfold tkE
      rw [hf, if_neg (by simp), Int.zero_add]
    have hyes : isLive l1[i] = true → usufructref25_Ticks.j1 (k + 1) lp (sat s) (i : Int) (firstI (isNamed l1[i].f1) l0 0) (decide (firstI (isNamed l1[i].f1) l0 0 ≥ 0)) l0 l1 nx = some (allT (sat (s + sumF (tkE l0) (l1.drop i))) ((liveL l1).length : Int) (greT (waitL l0 lp))) := fun hv => by
      have e : s + sumF (tkE l0) (l1.drop i) = s + emE (defOf l0 l1[i].f1).f2 + sumF (tkE l0) (l1.drop (i + 1)) := by
        rw [sumF_drop (tkE l0) l1 i hlt, show tkE l0 l1[i] = emE (defOf l0 l1[i].f1).f2 by unfold tkE; rw [if_pos hv], Int.add_assoc]
      rw [e, usufructref25_Ticks.j1]
      unfold defOf
      cases hf : l0.find? (isNamed l1[i].f1) with
      | none =>
        rw [firstI_none _ _ _ hf, if_neg (by simp), hnx, ih (i + 1) k s (by omega) (by omega) hs, Option.getD_none, emE_nil, Int.add_zero]
      | some dd =>
        obtain ⟨j, hj, e1, e2⟩ := firstI_some _ dd _ 0 hf
        rw [e1, Int.zero_add, if_pos (by simp), if_pos (by omega), if_pos (by omega), rd_DF l0 j hj, e2]
        have hm := hls dd (by rw [← e2]; exact List.getElem_mem hj)
        rw [refEm_eq dd.f2 _ _ (by omega) (by omega), Option.bind_some, ref_add hs, Option.bind_some, hnx, ih (i + 1) k _ (by omega) (by omega) (by have := tof_lo (emE dd.f2); omega), Option.getD_some, tof_id (emE_nonneg _) (emE_le _)]
    rw [usufructref25_Ticks.l0, if_pos (by omega), if_pos (by omega), rd_SG l1 i hlt, refdef_eq l0 l1 nx _ hl0 (by omega), Option.bind_some]
    by_cases c0 : l1[i].f3 = 0
    · rw [if_pos c0]
      exact hyes (by unfold isLive; rw [c0]; rfl)
    · rw [if_neg c0]
      by_cases c1 : l1[i].f3 = 1
      · rw [if_pos c1]
        exact hyes (by unfold isLive; rw [c1]; rfl)
      · rw [if_neg c1, usufructref25_Ticks.j1, if_neg (by simp)]
        exact hno (by unfold isLive; simp [c0, c1])

theorem ticks_eq (l0 : List S28) (l1 : List S44) (nx : Int) (lp : List S51) (hl0 : l0.length < 1000000) (hl1 : l1.length < 1000000) (hlp : lp.length < 1000000) (M : Nat) (hM : M < 1000000) (hls : ∀ d ∈ l0, d.f2.length ≤ M) {k : Nat} (hk : 2 * l1.length + 1 + l0.length + l1.length + M + lgN l0 lp + 42 ≤ k) :
    usufructref25_Ticks.f k l0 l1 nx lp = some (allT (sat (sumF (tkE l0) l1)) ((liveL l1).length : Int) (greT (waitL l0 lp))) := by
  unfold usufructref25_Ticks.f
  have := ticks_loop l0 l1 nx lp hl0 hl1 hlp M hM hls l1.length 0 k 0 (by omega) (by omega) (Int.le_refl _)
  rw [sat_zero, Int.zero_add] at this
  simpa using this
theorem bticks_eq (l0 : List S28) (l1 : List S44) (nx : Int) (lp : List S51) (hl0 : l0.length < 1000000) (hl1 : l1.length < 1000000) (hlp : lp.length < 1000000) (hls : ∀ d ∈ l0, d.f2.length < 1000000) :
    bound_Ticks.f l0 l1 nx lp = some (allT (sat (sumF (tkE l0) l1)) ((liveL l1).length : Int) (greT (waitL l0 lp))) := by
  unfold bound_Ticks.f
  rw [if_pos ⟨⟨⟨hl0, hlp⟩, hls⟩, hl1⟩, bound_all_eq, sumT_eq, sumT_ticks]

theorem small13_loop (nm : ByteArray) (dl : Int) (l : List S49) (hl : l.length < 1000000) : ∀ (d i k : Nat), i + d = l.length → d < k → ∃ r, usufructlaw13_Small.l0 k (i : Int) nm dl l = some r := by
  intro d
  induction d with
  | zero =>
    intro i k hi hk
    obtain ⟨k, rfl⟩ : ∃ m, k = m + 1 := ⟨k - 1, by omega⟩
    exact ⟨0, by rw [usufructlaw13_Small.l0, if_neg (by omega)]⟩
  | succ d ih =>
    intro i k hi hk
    obtain ⟨k, rfl⟩ : ∃ m, k = m + 1 := ⟨k - 1, by omega⟩
    obtain ⟨r, hr⟩ := ih (i + 1) k (by omega) (by omega)
    rw [usufructlaw13_Small.l0, if_pos (by omega), if_pos (by omega), w64 (by omega) (by omega), show ((i : Int) + 1) = ((i + 1 : Nat) : Int) by omega]
    split
    · exact ⟨_, rfl⟩
    · split
      · exact ⟨_, rfl⟩
      · exact ⟨r, hr⟩
theorem small13_eq (nm : ByteArray) (dl : Int) (l : List S49) {k : Nat} (hk : 43 ≤ k) : ∃ r, usufructlaw13_Small.f k nm dl l = some r ∧ (r = 0 → l.length ≤ 40) := by
  obtain ⟨k, rfl⟩ : ∃ m, k = m + 1 := ⟨k - 1, by omega⟩
  unfold usufructlaw13_Small.f
  by_cases h : (l.length : Int) > 40
  · rw [if_pos h, usufructlaw13_Small.j0, if_pos rfl]
    exact ⟨1, rfl, fun h => by cases h⟩
  · rw [if_neg h, usufructlaw13_Small.j0]
    obtain ⟨r, hr⟩ := small13_loop nm dl l (by omega) l.length 0 k (by omega) (by omega)
    split
    · exact ⟨1, rfl, fun h => by cases h⟩
    · exact ⟨r, by simpa using hr, fun _ => by omega⟩

theorem small16_l1 (l0 : List S28) (l1 : List S44) (nx : Int) (hl : l1.length < 1000000) : ∀ (d i k : Nat), i + d = l1.length → d < k → ∃ r, usufructlaw16_Small.l1 k (i : Int) l0 l1 nx = some r := by
  intro d
  induction d with
  | zero =>
    intro i k hi hk
    obtain ⟨k, rfl⟩ : ∃ m, k = m + 1 := ⟨k - 1, by omega⟩
    exact ⟨0, by rw [usufructlaw16_Small.l1, if_neg (by omega)]⟩
  | succ d ih =>
    intro i k hi hk
    obtain ⟨k, rfl⟩ : ∃ m, k = m + 1 := ⟨k - 1, by omega⟩
    obtain ⟨r, hr⟩ := ih (i + 1) k (by omega) (by omega)
    rw [usufructlaw16_Small.l1, if_pos (by omega), if_pos (by omega), w64 (by omega) (by omega), show ((i : Int) + 1) = ((i + 1 : Nat) : Int) by omega]
    split
    · exact ⟨_, rfl⟩
    · exact ⟨r, hr⟩
theorem small16_l0 (l0 : List S28) (l1 : List S44) (nx : Int) (hl0 : l0.length < 1000000) (hl : l1.length < 1000000) : ∀ (d i k : Nat), i + d = l0.length → d + l1.length + 44 < k → (∀ j, ∀ h : j < l0.length, j < i → l0[j].f2.length ≤ 40) → ∃ r, usufructlaw16_Small.l0 k (i : Int) l0 l1 nx = some r ∧ (r = 0 → ∀ d ∈ l0, d.f2.length ≤ 40) := by
  intro d
  induction d with
  | zero =>
    intro i k hi hk hb
    obtain ⟨k, rfl⟩ : ∃ m, k = m + 1 := ⟨k - 1, by omega⟩
    rw [usufructlaw16_Small.l0, if_neg (by omega)]
    obtain ⟨r, hr⟩ := small16_l1 l0 l1 nx hl l1.length 0 k (by omega) (by omega)
    refine ⟨r, by simpa using hr, fun _ d hd => ?_⟩
    obtain ⟨j, hj, rfl⟩ := List.getElem_of_mem hd
    exact hb j hj (by omega)
  | succ d ih =>
    intro i k hi hk hb
    obtain ⟨k, rfl⟩ : ∃ m, k = m + 1 := ⟨k - 1, by omega⟩
    have hlt : i < l0.length := by omega
    rw [usufructlaw16_Small.l0, if_pos (by omega), if_pos (by omega), w64 (by omega) (by omega), show ((i : Int) + 1) = ((i + 1 : Nat) : Int) by omega, rd_DF l0 i hlt]
    obtain ⟨r, hr, hr0⟩ := small13_eq l0[i].f0 l0[i].f1 l0[i].f2 (k := k) (by omega)
    rw [hr, Option.bind_some]
    by_cases h : r = 0
    · rw [if_pos h]
      refine ih (i + 1) k (by omega) (by omega) (fun j hj hji => ?_)
      by_cases hjj : j < i
      · exact hb j hj hjj
      · have : j = i := by omega
        subst this
        exact hr0 h
    · rw [if_neg h]
      exact ⟨2, rfl, fun h => by cases h⟩
theorem small16_eq (l0 : List S28) (l1 : List S44) (nx : Int) {k : Nat} (hk : 70 ≤ k) : ∃ r, usufructlaw16_Small.f k l0 l1 nx = some r ∧ (r = 0 → l0.length ≤ 6 ∧ l1.length ≤ 12 ∧ ∀ d ∈ l0, d.f2.length ≤ 40) := by
  obtain ⟨k, rfl⟩ : ∃ m, k = m + 1 := ⟨k - 1, by omega⟩
  unfold usufructlaw16_Small.f
  by_cases h : (l0.length : Int) > 6
  · rw [if_pos h, usufructlaw16_Small.j0, if_pos rfl]
    exact ⟨1, rfl, fun h => by cases h⟩
  · rw [if_neg h, usufructlaw16_Small.j0]
    by_cases h1 : (l1.length : Int) > 12
    · rw [if_pos (by simpa using h1)]
      exact ⟨1, rfl, fun h => by cases h⟩
    · rw [if_neg (by simpa using h1)]
      obtain ⟨r, hr, hz⟩ := small16_l0 l0 l1 nx (by omega) (by omega) l0.length 0 k (by omega) (by omega) (fun j _ h => by omega)
      exact ⟨r, by simpa using hr, fun h => ⟨by omega, by omega, hz h⟩⟩

theorem lgN_le (l0 : List S28) (lp : List S51) (M : Nat) (h : ∀ d ∈ l0, d.f2.length ≤ M) : lgN l0 lp ≤ l0.length * (M + 2) + lp.length + 2 := by
  have : ∀ l : List S28, (∀ d ∈ l, d.f2.length ≤ M) → (l.map fun d => d.f2.length + 2).sum ≤ l.length * (M + 2) := by
    intro l
    induction l with
    | nil => intro _; simp
    | cons a l ih =>
      intro h
      rw [List.map_cons, List.sum_cons, List.length_cons, Nat.succ_mul]
      have h1 := h a List.mem_cons_self
      have h2 := ih (fun d hd => h d (List.mem_cons_of_mem _ hd))
      omega
  unfold lgN
  have := this l0 h
  omega
end Go.Proofs.Ytookpfpmobbhiaa.Q
