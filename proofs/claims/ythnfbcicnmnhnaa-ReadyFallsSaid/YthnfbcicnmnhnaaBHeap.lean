/- A heap within a list: what goes up and down, and what stays. -/
import Derived.KernelRfl
namespace Go.Proofs.Ythnfbcicnmnhnaa.Q.Hp
set_option linter.unusedVariables false
set_option linter.unusedSimpArgs false

section
variable {α : Type}

def swapL (l : List α) (i j : Nat) : List α :=
  match l[i]?, l[j]? with
  | some x, some y => (l.set i y).set j x
  | _, _ => l
theorem swap_eq {l : List α} {i j : Nat} (hi : i < l.length) (hj : j < l.length) : swapL l i j = (l.set i l[j]).set j l[i] := by
  unfold swapL
  rw [List.getElem?_eq_getElem hi, List.getElem?_eq_getElem hj]
theorem swap_len (l : List α) (i j : Nat) : (swapL l i j).length = l.length := by
  unfold swapL
  split <;> simp
theorem swap_perm (l : List α) (i j : Nat) : (swapL l i j).Perm l := by
  by_cases hi : i < l.length
  · by_cases hj : j < l.length
    · rw [swap_eq hi hj]
      exact List.set_set_perm hi hj
    · unfold swapL
      rw [List.getElem?_eq_none (i := j) (by omega)]
      split
      · rename_i h; cases h
      · exact .refl _
  · unfold swapL
    rw [List.getElem?_eq_none (i := i) (by omega)]
theorem swap_get {l : List α} {i j : Nat} (hi : i < l.length) (hj : j < l.length) (k : Nat) : (swapL l i j)[k]? = if k = j then l[i]? else if k = i then l[j]? else l[k]? := by
  rw [swap_eq hi hj, List.getElem?_set, List.getElem?_set, List.length_set]
  by_cases h1 : j = k
  · rw [if_pos h1, if_pos hj, if_pos h1.symm, List.getElem?_eq_getElem hi]
  · rw [if_neg h1, if_neg (c := k = j) (fun h => h1 h.symm)]
    by_cases h2 : i = k
    · rw [if_pos h2, if_pos hi, if_pos h2.symm, List.getElem?_eq_getElem hj]
    · rw [if_neg h2, if_neg (c := k = i) (fun h => h2 h.symm)]

variable (lt : α → α → Bool)
/-- Does the a-th come ahead of the b-th? -/
def ltAt (l : List α) (a b : Nat) : Bool :=
  match l[a]?, l[b]? with
  | some x, some y => lt x y
  | _, _ => false
theorem ltAt_eq {l : List α} {a b : Nat} (ha : a < l.length) (hb : b < l.length) : ltAt lt l a b = lt l[a] l[b] := by
  unfold ltAt
  rw [List.getElem?_eq_getElem ha, List.getElem?_eq_getElem hb]
theorem ltAt_get {l l' : List α} {a b c d : Nat} (h1 : l'[a]? = l[c]?) (h2 : l'[b]? = l[d]?) : ltAt lt l' a b = ltAt lt l c d := by
  unfold ltAt
  rw [h1, h2]
/-- An order: of two at most one comes ahead; what isn't behind isn't behind. -/
structure Ord : Prop where
  asym : ∀ a b, lt a b = true → lt b a = false
  ntr : ∀ a b c, lt a b = false → lt b c = false → lt a c = false
variable {lt}
theorem Ord.irr (h : Ord lt) (a : α) : lt a a = false := by
  cases e : lt a a with
  | false => rfl
  | true => exact e ▸ h.asym a a e
theorem Ord.asymAt (h : Ord lt) {l : List α} {a b : Nat} (e : ltAt lt l a b = true) : ltAt lt l b a = false := by
  unfold ltAt at e ⊢
  split at e
  · rename_i x y hx hy
    rw [hx, hy]
    exact h.asym _ _ e
  · cases e
theorem Ord.ntrAt (h : Ord lt) {l : List α} {a b c : Nat} (hb : b < l.length) (e1 : ltAt lt l a b = false) (e2 : ltAt lt l b c = false) : ltAt lt l a c = false := by
  by_cases ha : a < l.length
  · by_cases hc : c < l.length
    · rw [ltAt_eq lt ha hb] at e1
      rw [ltAt_eq lt hb hc] at e2
      rw [ltAt_eq lt ha hc]
      exact h.ntr _ _ _ e1 e2
    · unfold ltAt
      rw [List.getElem?_eq_none (i := c) (by omega)]
      split
      · rename_i h; cases h
      · rfl
  · unfold ltAt
    rw [List.getElem?_eq_none (i := a) (by omega)]
    
variable (lt)
/-- The first n are a heap. -/
def IsHp (n : Nat) (l : List α) : Prop := ∀ k, 0 < k → k < n → ltAt lt l k ((k - 1) / 2) = false
def upF (l : List α) (j : Nat) : List α :=
  if h : j = 0 then l
  else if ltAt lt l j ((j - 1) / 2) = true then upF (swapL l ((j - 1) / 2) j) ((j - 1) / 2)
  else l
termination_by j
decreasing_by omega
/-- The child of i that comes ahead of the other. -/
def kid (n : Nat) (l : List α) (i : Nat) : Nat := if 2 * i + 1 + 1 < n ∧ ltAt lt l (2 * i + 1 + 1) (2 * i + 1) = true then 2 * i + 1 + 1 else 2 * i + 1
theorem kid_or (n : Nat) (l : List α) (i : Nat) : kid lt n l i = 2 * i + 1 ∨ kid lt n l i = 2 * i + 2 ∧ 2 * i + 2 < n := by
  unfold kid
  split
  · rename_i h; exact .inr ⟨rfl, h.1⟩
  · exact .inl rfl
def downF (n : Nat) (l : List α) (i : Nat) : List α × Nat :=
  if h : n ≤ 2 * i + 1 then (l, i)
  else if ltAt lt l (kid lt n l i) i = true then downF n (swapL l i (kid lt n l i)) (kid lt n l i)
  else (l, i)
termination_by n - i
decreasing_by
  have := kid_or lt n l i
  omega
variable {lt}
theorem up_len (l : List α) (j : Nat) : (upF lt l j).length = l.length := by
  fun_induction upF lt l j with
  | case1 => rfl
  | case2 l j h1 h2 ih => rw [ih, swap_len]
  | case3 => rfl
theorem up_perm (l : List α) (j : Nat) : (upF lt l j).Perm l := by
  fun_induction upF lt l j with
  | case1 => exact .refl _
  | case2 l j h1 h2 ih => exact ih.trans (swap_perm _ _ _)
  | case3 => exact .refl _
theorem up_far (l : List α) (j : Nat) (hj : j < l.length) (k : Nat) (hk : j < k) : (upF lt l j)[k]? = l[k]? := by
  fun_induction upF lt l j with
  | case1 => rfl
  | case2 l j h1 h2 ih => rw [ih (by rw [swap_len]; omega) (by omega), swap_get (by omega) hj, if_neg (by omega), if_neg (by omega)]
  | case3 => rfl
theorem down_len (n : Nat) (l : List α) (i : Nat) : (downF lt n l i).1.length = l.length := by
  fun_induction downF lt n l i with
  | case1 => rfl
  | case2 l i h1 h2 ih => rw [ih, swap_len]
  | case3 => rfl
theorem down_perm (n : Nat) (l : List α) (i : Nat) : (downF lt n l i).1.Perm l := by
  fun_induction downF lt n l i with
  | case1 => exact .refl _
  | case2 l i h1 h2 ih => exact ih.trans (swap_perm _ _ _)
  | case3 => exact .refl _
theorem kid_lt {n : Nat} {l : List α} {i : Nat} (h : ¬ n ≤ 2 * i + 1) : kid lt n l i < n := by
  have := kid_or lt n l i
  omega
theorem down_far (n : Nat) (l : List α) (i : Nat) (hn : n ≤ l.length) (hi : i < n) (k : Nat) (hk : n ≤ k) : (downF lt n l i).1[k]? = l[k]? := by
  fun_induction downF lt n l i with
  | case1 => rfl
  | case2 l i h1 h2 ih =>
    have := kid_lt (lt := lt) (l := l) h1
    rw [ih (by rw [swap_len]; omega) this, swap_get (by omega) (by omega), if_neg (by omega), if_neg (by omega)]
  | case3 => rfl
theorem down_ge (n : Nat) (l : List α) (i : Nat) : i ≤ (downF lt n l i).2 := by
  fun_induction downF lt n l i with
  | case1 => exact Nat.le_refl _
  | case2 l i h1 h2 ih => have := kid_or lt n l i; omega
  | case3 => exact Nat.le_refl _
theorem down_still (n : Nat) (l : List α) (i : Nat) (h : (downF lt n l i).2 = i) : (downF lt n l i).1 = l ∧ (n ≤ 2 * i + 1 ∨ ltAt lt l (kid lt n l i) i = false) := by
  rw [downF] at h ⊢
  by_cases h1 : n ≤ 2 * i + 1
  · rw [dif_pos h1]
    exact ⟨rfl, .inl h1⟩
  · rw [dif_neg h1] at h ⊢
    by_cases h2 : ltAt lt l (kid lt n l i) i = true
    · rw [if_pos h2] at h
      have := down_ge (lt := lt) n (swapL l i (kid lt n l i)) (kid lt n l i)
      have := kid_or lt n l i
      omega
    · rw [if_neg h2]
      exact ⟨rfl, .inr (by simpa using h2)⟩

variable (ho : Ord lt)
include ho
theorem up_hp {n : Nat} (l : List α) (j : Nat) (hn : n ≤ l.length) (hj : j < n) (h1 : ∀ k, 0 < k → k < n → k ≠ j → ltAt lt l k ((k - 1) / 2) = false)
    (h2 : ∀ k, 0 < k → k < n → (k - 1) / 2 = j → 0 < j → ltAt lt l k ((j - 1) / 2) = false) : IsHp lt n (upF lt l j) := by
  fun_induction upF lt l j with
  | case1 l => exact fun k hk hkn => h1 k hk hkn (by omega)
  | case3 l j hj0 hlt =>
      intro k hk hkn
      by_cases e : k = j
      · subst e; simpa using hlt
      · exact h1 k hk hkn e
  | case2 l j hj0 hlt ih =>
    have g := swap_get (l := l) (i := (j - 1) / 2) (j := j) (by omega) (by omega)
    have gj : (swapL l ((j - 1) / 2) j)[j]? = l[(j - 1) / 2]? := by rw [g, if_pos rfl]
    have gp : (swapL l ((j - 1) / 2) j)[(j - 1) / 2]? = l[j]? := by rw [g, if_neg (by omega), if_pos rfl]
    have go : ∀ k, k ≠ j → k ≠ (j - 1) / 2 → (swapL l ((j - 1) / 2) j)[k]? = l[k]? := fun k a b => by rw [g, if_neg a, if_neg b]
    refine ih (by rw [swap_len]; exact hn) (by omega) (fun k hk hkn hne => ?_) (fun k hk hkn hkp h0 => ?_)
    · by_cases ekj : k = j
      · subst ekj
        rw [ltAt_get lt gj gp]
        exact ho.asymAt hlt
      · by_cases epj : (k - 1) / 2 = j
        · rw [epj, ltAt_get lt (go k ekj hne) gj]
          exact h2 k hk hkn epj (by omega)
        · by_cases epp : (k - 1) / 2 = (j - 1) / 2
          · rw [epp, ltAt_get lt (go k ekj hne) gp]
            refine ho.ntrAt (b := (j - 1) / 2) (by omega) ?_ (ho.asymAt hlt)
            rw [← epp]
            exact h1 k hk hkn ekj
          · rw [ltAt_get lt (go k ekj hne) (go _ epj epp)]
            exact h1 k hk hkn ekj
    · have gpp : (swapL l ((j - 1) / 2) j)[((j - 1) / 2 - 1) / 2]? = l[((j - 1) / 2 - 1) / 2]? := go _ (by omega) (by omega)
      have cp := h1 ((j - 1) / 2) h0 (by omega) (by omega)
      by_cases ekj : k = j
      · subst ekj
        rw [ltAt_get lt gj gpp]
        exact cp
      · rw [ltAt_get lt (go k ekj (by omega)) gpp]
        refine ho.ntrAt (b := (j - 1) / 2) (by omega) ?_ cp
        rw [← hkp]
        exact h1 k hk hkn ekj
theorem kid_le {n : Nat} {l : List α} {i k : Nat} (hn : n ≤ l.length) (hk : 0 < k) (hkn : k < n) (hkp : (k - 1) / 2 = i) : ltAt lt l k (kid lt n l i) = false := by
  have hk2 : k = 2 * i + 1 ∨ k = 2 * i + 1 + 1 := by omega
  have hr : ∀ a, a < l.length → ltAt lt l a a = false := fun a ha => by rw [ltAt_eq lt ha ha]; exact ho.irr _
  unfold kid
  split
  · rename_i h
    rcases hk2 with e | e <;> subst e
    · exact ho.asymAt h.2
    · exact hr _ (by omega)
  · rename_i h
    rcases hk2 with e | e
    · subst e; exact hr _ (by omega)
    · have hlt : 2 * i + 1 + 1 < n := by omega
      subst e
      cases e2 : ltAt lt l (2 * i + 1 + 1) (2 * i + 1) with
      | false => rfl
      | true => exact absurd ⟨hlt, e2⟩ h
theorem down_hp {n : Nat} (l : List α) (i : Nat) (hn : n ≤ l.length) (hi : i < n) (h1 : ∀ k, 0 < k → k < n → (k - 1) / 2 ≠ i → ltAt lt l k ((k - 1) / 2) = false)
    (h2 : ∀ k, 0 < k → k < n → (k - 1) / 2 = i → 0 < i → ltAt lt l k ((i - 1) / 2) = false) : IsHp lt n (downF lt n l i).1 := by
  fun_induction downF lt n l i with
  | case1 l i hle => exact fun k hk hkn => h1 k hk hkn (by omega)
  | case3 l i hle hlt =>
      intro k hk hkn
      by_cases e : (k - 1) / 2 = i
      · rw [e]
        exact ho.ntrAt (l := l) (b := kid lt n l i) (by have := kid_lt (lt := lt) (l := l) hle; omega) (kid_le ho hn hk hkn e) (by simpa using hlt)
      · exact h1 k hk hkn e
  | case2 l i hle hlt ih =>
    have hjn := kid_lt (lt := lt) (l := l) hle
    have hjo := kid_or lt n l i
    have hjp : (kid lt n l i - 1) / 2 = i := by omega
    have hkl := fun k a b c => kid_le ho (l := l) (i := i) (k := k) hn a b c
    generalize kid lt n l i = j at *
    have g := swap_get (l := l) (i := i) (j := j) (by omega) (by omega)
    have gj : (swapL l i j)[j]? = l[i]? := by rw [g, if_pos rfl]
    have gi : (swapL l i j)[i]? = l[j]? := by rw [g, if_neg (by omega), if_pos rfl]
    have go : ∀ k, k ≠ j → k ≠ i → (swapL l i j)[k]? = l[k]? := fun k a b => by rw [g, if_neg a, if_neg b]
    refine ih (by rw [swap_len]; exact hn) hjn (fun k hk hkn hne => ?_) (fun k hk hkn hkp h0 => ?_)
    · by_cases ekj : k = j
      · subst ekj
        rw [hjp, ltAt_get lt gj gi]
        exact ho.asymAt hlt
      · by_cases eki : k = i
        · subst eki
          rw [ltAt_get lt gi (go _ (by omega) (by omega))]
          exact h2 j (by omega) hjn hjp hk
        · by_cases epi : (k - 1) / 2 = i
          · rw [epi, ltAt_get lt (go k ekj eki) gi]
            exact hkl k hk hkn epi
          · rw [ltAt_get lt (go k ekj eki) (go _ hne epi)]
            exact h1 k hk hkn epi
    · rw [hjp, ltAt_get lt (go k (by omega) (by omega)) gi]
      have := h1 k hk hkn (by omega)
      rw [hkp] at this
      exact this
/-- Behind a first step down all is a heap, though the i-th may have been ahead of the one above it. -/
theorem down_moved {n : Nat} (l : List α) (i : Nat) (hn : n ≤ l.length) (hi : i < n) (h1 : ∀ k, 0 < k → k < n → (k - 1) / 2 ≠ i → k ≠ i → ltAt lt l k ((k - 1) / 2) = false)
    (h2 : ∀ k, 0 < k → k < n → (k - 1) / 2 = i → 0 < i → ltAt lt l k ((i - 1) / 2) = false) (hm : (downF lt n l i).2 ≠ i) : IsHp lt n (downF lt n l i).1 := by
  rw [downF] at hm ⊢
  by_cases hle : n ≤ 2 * i + 1
  · rw [dif_pos hle] at hm; exact absurd rfl hm
  · rw [dif_neg hle] at hm ⊢
    by_cases hlt : ltAt lt l (kid lt n l i) i = true
    · rw [if_pos hlt]
      have hjn := kid_lt (lt := lt) (l := l) hle
      have hjo := kid_or lt n l i
      have hjp : (kid lt n l i - 1) / 2 = i := by omega
      have hkl := fun k a b c => kid_le ho (l := l) (i := i) (k := k) hn a b c
      clear hm
      generalize kid lt n l i = j at *
      have g := swap_get (l := l) (i := i) (j := j) (by omega) (by omega)
      have gj : (swapL l i j)[j]? = l[i]? := by rw [g, if_pos rfl]
      have gi : (swapL l i j)[i]? = l[j]? := by rw [g, if_neg (by omega), if_pos rfl]
      have go : ∀ k, k ≠ j → k ≠ i → (swapL l i j)[k]? = l[k]? := fun k a b => by rw [g, if_neg a, if_neg b]
      refine down_hp ho _ j (by rw [swap_len]; exact hn) hjn (fun k hk hkn hne => ?_) (fun k hk hkn hkp h0 => ?_)
      · by_cases ekj : k = j
        · subst ekj
          rw [hjp, ltAt_get lt gj gi]
          exact ho.asymAt hlt
        · by_cases eki : k = i
          · subst eki
            rw [ltAt_get lt gi (go _ (by omega) (by omega))]
            exact h2 j (by omega) hjn hjp hk
          · by_cases epi : (k - 1) / 2 = i
            · rw [epi, ltAt_get lt (go k ekj eki) gi]
              exact hkl k hk hkn epi
            · rw [ltAt_get lt (go k ekj eki) (go _ hne epi)]
              exact h1 k hk hkn epi eki
      · rw [hjp, ltAt_get lt (go k (by omega) (by omega)) gi]
        have := h1 k hk hkn (by omega) (by omega)
        rw [hkp] at this
        exact this
    · rw [if_neg hlt] at hm
      exact absurd rfl hm
/-- None comes ahead of the first. -/
theorem hp_first {n : Nat} {l : List α} (h : IsHp lt n l) (hn : n ≤ l.length) (k : Nat) (hk : k < n) : ltAt lt l k 0 = false := by
  induction k using Nat.strongRecOn with
  | ind k ih =>
    by_cases h0 : k = 0
    · subst h0
      rw [ltAt_eq lt (by omega) (by omega)]
      exact ho.irr _
    · exact ho.ntrAt (b := (k - 1) / 2) (by omega) (h k (by omega) hk) (ih _ (by omega) (by omega))
omit ho

variable (lt)
/-- What is pushed. -/
def pushF (l : List α) (x : α) : List α := upF lt (l ++ [x]) l.length
/-- What the i-th's going leaves, the i-th last. -/
def gone (l : List α) (i : Nat) : List α :=
  if l.length - 1 = i then l
  else if (downF lt (l.length - 1) (swapL l i (l.length - 1)) i).2 > i then (downF lt (l.length - 1) (swapL l i (l.length - 1)) i).1
  else upF lt (downF lt (l.length - 1) (swapL l i (l.length - 1)) i).1 i
/-- What the first one's going leaves, the first last. -/
def popped (l : List α) : List α := (downF lt (l.length - 1) (swapL l 0 (l.length - 1)) 0).1
variable {lt}
theorem push_perm (l : List α) (x : α) : (pushF lt l x).Perm (x :: l) := (up_perm _ _).trans (List.perm_append_singleton x l)
theorem push_len (l : List α) (x : α) : (pushF lt l x).length = l.length + 1 := by rw [pushF, up_len, List.length_append, List.length_singleton]
include ho
theorem push_hp {l : List α} (h : IsHp lt l.length l) (x : α) : IsHp lt (pushF lt l x).length (pushF lt l x) := by
  rw [push_len]
  have ga : ∀ k, k < l.length → (l ++ [x])[k]? = l[k]? := fun k hk => List.getElem?_append_left hk
  refine up_hp ho _ _ (by simp) (by omega) (fun k hk hkn hne => ?_) (fun k hk hkn hkp h0 => by omega)
  rw [ltAt_get lt (ga k (by omega)) (ga _ (by omega))]
  exact h k hk (by omega)
omit ho
theorem gone_len (l : List α) (i : Nat) : (gone lt l i).length = l.length := by
  unfold gone
  split
  · rfl
  · split
    · rw [down_len, swap_len]
    · rw [up_len, down_len, swap_len]
theorem gone_perm (l : List α) (i : Nat) : (gone lt l i).Perm l := by
  unfold gone
  split
  · exact .refl _
  · split
    · exact (down_perm _ _ _).trans (swap_perm _ _ _)
    · exact (up_perm _ _).trans ((down_perm _ _ _).trans (swap_perm _ _ _))
theorem gone_last {l : List α} {i : Nat} (hi : i < l.length) : (gone lt l i)[l.length - 1]? = l[i]? := by
  unfold gone
  by_cases h0 : l.length - 1 = i
  · rw [if_pos h0, h0]
  · rw [if_neg h0]
    have hs : (swapL l i (l.length - 1))[l.length - 1]? = l[i]? := by rw [swap_get hi (by omega), if_pos rfl]
    have hd := down_far (lt := lt) (l.length - 1) (swapL l i (l.length - 1)) i (by rw [swap_len]; omega) (by omega) (l.length - 1) (Nat.le_refl _)
    split
    · rw [hd, hs]
    · rw [up_far _ _ (by rw [down_len, swap_len]; exact hi) _ (by omega), hd, hs]
include ho
theorem gone_hp {l : List α} {i : Nat} (h : IsHp lt l.length l) (hi : i < l.length) : IsHp lt (l.length - 1) (gone lt l i) := by
  unfold gone
  by_cases h0 : l.length - 1 = i
  · rw [if_pos h0]
    exact fun k hk hkn => h k hk (by omega)
  · rw [if_neg h0]
    have g := swap_get (l := l) (i := i) (j := l.length - 1) hi (by omega)
    have gi : (swapL l i (l.length - 1))[i]? = l[l.length - 1]? := by rw [g, if_neg (by omega), if_pos rfl]
    have go : ∀ k, k < l.length - 1 → k ≠ i → (swapL l i (l.length - 1))[k]? = l[k]? := fun k a b => by rw [g, if_neg (by omega), if_neg b]
    have c1 : ∀ k, 0 < k → k < l.length - 1 → (k - 1) / 2 ≠ i → k ≠ i → ltAt lt (swapL l i (l.length - 1)) k ((k - 1) / 2) = false := fun k hk hkn hp hne => by
      rw [ltAt_get lt (go k hkn hne) (go _ (by omega) hp)]
      exact h k hk (by omega)
    have c2 : ∀ k, 0 < k → k < l.length - 1 → (k - 1) / 2 = i → 0 < i → ltAt lt (swapL l i (l.length - 1)) k ((i - 1) / 2) = false := fun k hk hkn hp hi0 => by
      rw [ltAt_get lt (go k hkn (by omega)) (go _ (by omega) (by omega))]
      have a := h k hk (by omega)
      rw [hp] at a
      exact ho.ntrAt hi a (h i hi0 hi)
    have hsl : l.length - 1 ≤ (swapL l i (l.length - 1)).length := by rw [swap_len]; omega
    by_cases hm : (downF lt (l.length - 1) (swapL l i (l.length - 1)) i).2 > i
    · rw [if_pos hm]
      exact down_moved ho _ i hsl (by omega) c1 c2 (by omega)
    · rw [if_neg hm]
      have hge := down_ge (lt := lt) (l.length - 1) (swapL l i (l.length - 1)) i
      obtain ⟨e1, e2⟩ := down_still (lt := lt) (l.length - 1) (swapL l i (l.length - 1)) i (by omega)
      rw [e1]
      refine up_hp ho _ i hsl (by omega) (fun k hk hkn hne => ?_) c2
      by_cases hp : (k - 1) / 2 = i
      · rw [hp]
        rcases e2 with e2 | e2
        · omega
        · refine ho.ntrAt (b := kid lt (l.length - 1) (swapL l i (l.length - 1)) i) ?_ (kid_le ho hsl hk hkn hp) e2
          have := kid_or lt (l.length - 1) (swapL l i (l.length - 1)) i
          omega
      · exact c1 k hk hkn hp hne
omit ho
theorem pop_gone {l : List α} (h : 2 ≤ l.length) : popped lt l = gone lt l 0 := by
  unfold popped gone
  rw [if_neg (by omega)]
  split
  · rfl
  · rename_i hm
    rw [upF, dif_pos rfl]
theorem swap_same (l : List α) (i : Nat) : swapL l i i = l := by
  unfold swapL
  split
  · rename_i x y h1 h2
    obtain ⟨hi, e1⟩ := List.getElem?_eq_some_iff.1 h1
    obtain rfl : y = x := by rw [h2] at h1; exact Option.some.inj h1
    rw [← e1]
    simp
  · rfl
theorem pop_one (x : α) : popped lt [x] = [x] := by
  unfold popped
  rw [downF, dif_pos (by simp)]
  exact swap_same [x] 0
theorem pop_gone' {l : List α} (h : 1 ≤ l.length) : popped lt l = gone lt l 0 := by
  by_cases h2 : 2 ≤ l.length
  · exact pop_gone h2
  · match l, h with
    | [x], _ =>
      rw [pop_one]
      unfold gone
      rw [if_pos (show [x].length - 1 = 0 from rfl)]
    | x :: y :: l, _ => exact absurd (show 2 ≤ (x :: y :: l).length by simp) h2
/-- What is left when the i-th has gone. -/
theorem gone_split {l : List α} {i : Nat} (hi : i < l.length) : gone lt l i = (gone lt l i).dropLast ++ [l[i]] := by
  have hl := gone_len (lt := lt) l i
  have hne : gone lt l i ≠ [] := fun e => by rw [e] at hl; simp at hl; omega
  have h := gone_last (lt := lt) hi
  have h2 : (gone lt l i).getLast hne = l[i] := by
    rw [List.getLast_eq_getElem]
    have h3 : (gone lt l i)[(gone lt l i).length - 1]? = l[i]? := by rw [hl]; exact h
    rw [List.getElem?_eq_getElem (by omega), List.getElem?_eq_getElem hi] at h3
    exact Option.some.inj h3
  rw [← h2]
  exact (List.dropLast_concat_getLast hne).symm
def rest (lt : α → α → Bool) (l : List α) (i : Nat) : List α := (gone lt l i).dropLast
theorem rest_len {l : List α} (i : Nat) : (rest lt l i).length = l.length - 1 := by rw [rest, List.length_dropLast, gone_len]
theorem rest_perm {l : List α} {i : Nat} (hi : i < l.length) : (l[i] :: rest lt l i).Perm l :=
  (List.perm_append_singleton l[i] (rest lt l i)).symm.trans ((gone_split (lt := lt) hi) ▸ gone_perm (lt := lt) l i)
include ho
theorem rest_hp {l : List α} {i : Nat} (h : IsHp lt l.length l) (hi : i < l.length) : IsHp lt (rest lt l i).length (rest lt l i) := by
  rw [rest_len]
  intro k hk hkn
  have g : ∀ k, k < l.length - 1 → (rest lt l i)[k]? = (gone lt l i)[k]? := fun k hk => by
    rw [rest, List.getElem?_dropLast, gone_len, if_pos hk]
  rw [ltAt_get lt (g k hkn) (g _ (by omega))]
  exact gone_hp ho h hi k hk hkn
/-- The first one comes behind none. -/
theorem hp_min {x : α} {l : List α} (h : IsHp lt (x :: l).length (x :: l)) : ∀ y ∈ x :: l, lt y x = false := fun y hy => by
  obtain ⟨k, hk, e⟩ := List.getElem_of_mem hy
  have := hp_first ho h (Nat.le_refl _) k hk
  rw [ltAt_eq lt hk (by simp), e] at this
  exact this
end
end Go.Proofs.Ythnfbcicnmnhnaa.Q.Hp
