/- A reader's steps in plain numbers: each answers, keeps its place within the bytes, and behind an error takes nothing. -/
import Derived.Test.YtdamiipeijnpnaaGReaderText
import Derived.Test.YtdamiipeijnpnaaQx14
import Derived.Test.YtdamiipeijnpnaaQx4
import Derived.Test.YtdamiipeijnpnaaQx8
import Derived.Test.YtdamiipeijnpnaaQx5
namespace Go.Proofs.Ytdamiipeijnpnaa.Q
set_option linter.unusedVariables false
set_option linter.unusedSimpArgs false
open Go.RowKit Go.Proofs.YtdamiipeijnpnaaW.PrintWords Go.Proofs.YtdamiipeijnpnaaW.PrintLast Go.Proofs.YtdamiipeijnpnaaW.PrintMore

/-- What holds of a reader at all times. -/
structure Rd (b : List Int) (a fa fe : Int) : Prop where
  len : b.length ≤ 100000
  a0 : 0 ≤ a
  a1 : a ≤ (b.length : Int)
  e0 : fe = 0 → fa = 0
theorem Rd.ok {b : List Int} {a fa fe : Int} (h : Rd b a fa fe) : okR fa fe = decide (fe = 0) := by
  unfold okR
  by_cases he : fe = 0
  · rw [he, h.e0 he]; rfl
  · rw [decide_eq_false he]
    have : (fe == 0) = false := beq_eq_false_iff_ne.mpr he
    rw [this, Bool.and_false]
theorem u64_lo (v c : Int) : 0 ≤ Go.bits .or .u64 v c := by
  have h : ∀ x : Int, IntKind.u64.wrap x = x % 18446744073709551616 := fun x => by simp [IntKind.wrap, IntKind.bits, IntKind.signed]
  unfold Go.bits
  simp only [h]
  exact Int.emod_nonneg _ (by decide)
theorem vfold_lo (l : List Int) : 0 ≤ vfold l := by
  unfold vfold
  suffices h : ∀ (l : List Int) (v : Int), 0 ≤ v → 0 ≤ l.foldl vstep v from h l 0 (Int.le_refl _)
  intro l
  induction l with
  | nil => exact fun v h => h
  | cons c l ih => exact fun v h => ih _ (u64_lo _ _)
/-- A number is taken. -/
theorem num_step {b : List Int} {a fa fe : Int} (h : Rd b a fa fe) : ∃ r a' f' e', field_Reader_Num.f b a fa fe = some (r, a', f', e') ∧ Rd b a' f' e' ∧ (fe ≠ 0 → r = 0 ∧ f' = fa ∧ e' = fe) ∧ 0 ≤ r ∧ r ≤ 4611686018427387904 := by
  have hl := h.len; have h0 := h.a0; have h1 := h.a1
  unfold field_Reader_Num.f
  rw [h.ok]
  by_cases he : fe = 0
  · rw [if_pos (decide_eq_true he)]
    have e1 : wrap64 ((b.length : Int) - a) = (b.length : Int) - a := by unfold wrap64; omega
    rw [e1]
    by_cases hs : (b.length : Int) - a < 8
    · rw [if_pos hs]
      exact ⟨_, _, _, _, rfl, ⟨hl, h0, h1, fun h => by omega⟩, fun hn => absurd he hn, by omega, by omega⟩
    · rw [if_neg hs, if_pos ⟨h0, by omega⟩]
      have hv := vfold_lo ((b.take (a + 8).toNat).drop a.toNat)
      generalize vfold ((b.take (a + 8).toNat).drop a.toNat) = v at *
      by_cases hv2 : v > 4611686018427387904
      · rw [if_pos hv2]
        exact ⟨_, _, _, _, rfl, ⟨hl, h0, h1, fun h => by omega⟩, fun hn => absurd he hn, by omega, by omega⟩
      · rw [if_neg hv2]
        have e2 : wrap64 v = v := by unfold wrap64; omega
        rw [e2]
        exact ⟨_, _, _, _, rfl, ⟨hl, by omega, by omega, h.e0⟩, fun hn => absurd he hn, hv, by omega⟩
  · rw [if_neg (by rw [decide_eq_false he]; decide)]
    exact ⟨_, _, _, _, rfl, h, fun _ => ⟨rfl, rfl, rfl⟩, by omega, by omega⟩
/-- A text is taken. -/
theorem text_step {b : List Int} {a fa fe : Int} (h : Rd b a fa fe) (m : Int) : ∃ r a' f' e', field_Reader_Text.f b a fa fe m = some (r, a', f', e') ∧ Rd b a' f' e' ∧ (fe ≠ 0 → r = ⟨#[]⟩ ∧ f' = fa ∧ e' = fe) := by
  obtain ⟨n, a1, f1, e1, hn, hr, hz, n0, n1⟩ := num_step h
  unfold field_Reader_Text.f
  rw [hn, Option.bind_some]
  dsimp only
  rw [hr.ok]
  have hl := hr.len; have h0 := hr.a0; have h1 := hr.a1
  by_cases he : e1 = 0
  · rw [if_pos (decide_eq_true he)]
    have hfe : fe = 0 := by
      by_cases hf : fe = 0
      · exact hf
      · have := (hz hf).2.2; omega
    by_cases hm : n > m
    · rw [if_pos hm]
      exact ⟨_, _, _, _, rfl, ⟨h.len, h.a0, h.a1, fun h => by omega⟩, fun hn => absurd hfe hn⟩
    · rw [if_neg hm]
      have e2 : wrap64 ((b.length : Int) - a1) = (b.length : Int) - a1 := by unfold wrap64; omega
      rw [e2]
      by_cases hs : n > (b.length : Int) - a1
      · rw [if_pos hs]
        exact ⟨_, _, _, _, rfl, ⟨h.len, h.a0, h.a1, fun h => by omega⟩, fun hn => absurd hfe hn⟩
      · rw [if_neg hs, if_pos ⟨h0, n0, by omega⟩]
        exact ⟨_, _, _, _, rfl, ⟨hl, by omega, by omega, hr.e0⟩, fun hn => absurd hfe hn⟩
  · rw [if_neg (by rw [decide_eq_false he]; decide)]
    exact ⟨_, _, _, _, rfl, hr, fun hn => ⟨rfl, (hz hn).2⟩⟩
theorem fail_ok {b : List Int} {a fa fe : Int} (h : okR fa fe = true) (x e : Int) : field_Reader_fail.f b a fa fe x e = some (x, x, e) := failR_f b a fa fe x e h
/-- A count is taken. -/
theorem count_step {b : List Int} {a fa fe : Int} (h : Rd b a fa fe) (m least : Int) : ∃ r a' f' e', field_Reader_Count.f b a fa fe m least = some (r, a', f', e') ∧ Rd b a' f' e' ∧ (fe ≠ 0 → r = 0 ∧ f' = fa ∧ e' = fe) := by
  obtain ⟨n, a1, f1, e1, hn, hr, hz, n0, n1⟩ := num_step h
  unfold field_Reader_Count.f
  rw [hn, Option.bind_some]
  dsimp only
  rw [okR_f, Option.bind_some]
  dsimp only
  have hl := hr.len; have h0 := hr.a0; have h1 := hr.a1
  have hk := hr.ok
  by_cases he : e1 = 0
  · rw [decide_eq_true he] at hk
    have hfe : fe = 0 := by
      by_cases hf : fe = 0
      · exact hf
      · have := (hz hf).2.2; omega
    rw [if_pos hk]
    by_cases hm : n > m
    · rw [if_pos hm, fail_ok hk, Option.bind_some]
      exact ⟨_, _, _, _, rfl, ⟨h.len, h.a0, h.a1, fun h => by simp at h⟩, fun hn => absurd hfe hn⟩
    · rw [if_neg hm, leftR_f, Option.bind_some]
      dsimp only
      have hx : 1 ≤ mx least 1 := by unfold mx; split <;> omega
      rw [if_neg (by omega)]
      split
      · rw [fail_ok hk, Option.bind_some]
        exact ⟨_, _, _, _, rfl, ⟨h.len, h.a0, h.a1, fun h => by simp at h⟩, fun hn => absurd hfe hn⟩
      · exact ⟨_, _, _, _, rfl, hr, fun hn => absurd hfe hn⟩
  · rw [decide_eq_false he] at hk
    rw [if_neg (by rw [hk]; decide)]
    exact ⟨_, _, _, _, rfl, hr, fun hn => ⟨rfl, (hz hn).2⟩⟩
/-- A flag is taken. -/
theorem flag_step {b : List Int} {a fa fe : Int} (h : Rd b a fa fe) : ∃ r a' f' e', field_Reader_Flag.f b a fa fe = some (r, a', f', e') ∧ Rd b a' f' e' ∧ (fe ≠ 0 → r = false ∧ f' = fa ∧ e' = fe) := by
  unfold field_Reader_Flag.f
  rw [okR_f, Option.bind_some]
  dsimp only
  have hl := h.len; have h0 := h.a0; have h1 := h.a1
  have hk := h.ok
  by_cases he : fe = 0
  · rw [decide_eq_true he] at hk
    rw [if_pos hk, leftR_f, Option.bind_some]
    dsimp only
    have e1 : wrap64 ((b.length : Int) - a) = (b.length : Int) - a := by unfold wrap64; omega
    have e2 : wrap64 (a + 1) = a + 1 := by unfold wrap64; omega
    have e3 : wrap64 (a + 1 - 1) = a := by unfold wrap64; omega
    rw [e1, e2, e3]
    by_cases hs : (b.length : Int) - a = 0
    · rw [if_pos hs, fail_ok hk, Option.bind_some]
      exact ⟨_, _, _, _, rfl, ⟨hl, h0, h1, fun h => by simp at h⟩, fun hn => absurd he hn⟩
    · rw [if_neg hs, if_pos h0, if_pos (by omega)]
      by_cases hv : rd b a > 1
      · rw [if_pos hv, fail_ok hk, Option.bind_some]
        exact ⟨_, _, _, _, rfl, ⟨hl, h0, h1, fun h => by simp at h⟩, fun hn => absurd he hn⟩
      · rw [if_neg hv, if_pos h0, if_pos (by omega)]
        exact ⟨_, _, _, _, rfl, ⟨hl, by omega, by omega, h.e0⟩, fun hn => absurd he hn⟩
  · rw [decide_eq_false he] at hk
    rw [if_neg (by rw [hk]; decide)]
    exact ⟨_, _, _, _, rfl, h, fun _ => ⟨rfl, rfl, rfl⟩⟩
/-- The end is asked for. -/
theorem end_step {b : List Int} {a fa fe : Int} (h : Rd b a fa fe) (k : Nat) : ∃ r a' f' e', field_Reader_End.f (k + 1) b a fa fe = some (r, a', f', e') ∧ Rd b a' f' e' ∧ (fe ≠ 0 → r = false ∧ f' = fa ∧ e' = fe) := by
  unfold field_Reader_End.f
  rw [okR_f, Option.bind_some]
  dsimp only
  have hk := h.ok
  by_cases he : fe = 0
  · rw [decide_eq_true he] at hk
    rw [if_pos hk, leftR_f, Option.bind_some]
    dsimp only
    rw [field_Reader_End.j0]
    split
    · rw [fail_ok hk, Option.bind_some, okR_f, Option.bind_some]
      exact ⟨_, _, _, _, rfl, ⟨h.len, h.a0, h.a1, fun h => by simp at h⟩, fun hn => absurd he hn⟩
    · rw [okR_f, Option.bind_some]
      exact ⟨_, _, _, _, rfl, h, fun hn => absurd he hn⟩
  · rw [decide_eq_false he] at hk
    rw [if_neg (by rw [hk]; decide), field_Reader_End.j0, if_neg (by decide), okR_f, Option.bind_some]
    exact ⟨_, _, _, _, rfl, h, fun _ => ⟨hk, rfl, rfl⟩⟩
theorem err_eq (b : List Int) (a fa fe : Int) : field_Reader_Err.f b a fa fe = some (fa, fe, a, fa, fe) := rfl
end Go.Proofs.Ytdamiipeijnpnaa.Q
