/- Ticks: what the reference's functions of layer 1 come to, in plain numbers. -/
import Derived.Test.YtiohhfjocmibdaaBTick
import Derived.Test.YtiohhfjocmibdaaQx12
namespace Go.Proofs.Ytiohhfjocmibdaa.Q
set_option linter.unusedVariables false
open Go.RowKit Go.Proofs.YtiohhfjocmibdaaW.PrintWords Go.Proofs.YtiohhfjocmibdaaW.PrintLast Go.Proofs.YtiohhfjocmibdaaW.PrintMore

theorem usufructref01_Of.eq (a : Int) : usufructref01_Of.f a = some (tof a) := by
  unfold usufructref01_Of.f tof MT
  split <;> (try split) <;> (try split) <;> (try rfl) <;> omega
theorem usufructref01_Add.eq (a b : Int) : usufructref01_Add.f a b = some (sat (tof a + tof b)) := by
  unfold usufructref01_Add.f
  simp only [usufructref01_Of.eq, Option.bind_some]
  have h1 := tof_lo a; have h2 := tof_hi a; have h3 := tof_lo b; have h4 := tof_hi b
  unfold MT at *
  rw [w64 (by omega) (by omega), tof_of_nonneg (by omega)]
theorem usufructref01_Sub.eq (a b : Int) : usufructref01_Sub.f a b = some (tof (tof a - tof b)) := by
  unfold usufructref01_Sub.f
  simp only [usufructref01_Of.eq, Option.bind_some]
  have h1 := tof_lo a; have h2 := tof_hi a; have h3 := tof_lo b; have h4 := tof_hi b
  unfold MT at *
  rw [w64 (by omega) (by omega)]

theorem sat_of_ge {x y : Int} (hx : MT ≤ x) (hy : MT ≤ y) : sat x = sat y := by rw [sat_big hx, sat_big hy]
theorem sat_step {x y m : Int} (hx : 0 ≤ x) (hy : 0 ≤ y) (hm : 0 ≤ m) : sat (sat x + sat y * m) = sat (x + y * m) := by
  have hxm := Int.mul_nonneg hy hm
  by_cases h1 : MT < x
  · have e := sat_big (a := x) (by omega)
    rw [e]
    have := Int.mul_nonneg (sat_nonneg hy) hm
    exact sat_of_ge (by omega) (by omega)
  · rw [sat_id (a := x) (by omega)]
    by_cases h2 : MT < y
    · rw [sat_big (a := y) (by omega)]
      by_cases h3 : m = 0
      · subst h3; simp
      · have a1 : MT * 1 ≤ MT * m := Int.mul_le_mul_of_nonneg_left (by omega) (by unfold MT; omega)
        have a2 : y * 1 ≤ y * m := Int.mul_le_mul_of_nonneg_left (by omega) (by omega)
        exact sat_of_ge (by omega) (by omega)
    · rw [sat_id (a := y) (by omega)]

theorem usufructref01_Times.loop : ∀ (d k : Nat) (a n out : Int), d < k → 0 ≤ a → a ≤ MT → 0 ≤ n → n < ((2 ^ d : Nat) : Int) → n ≤ MT → 0 ≤ out → out ≤ MT →
    usufructref01_Times.l0 k a n out = some (sat (out + a * n)) := by
  intro d
  induction d with
  | zero =>
    intro k a n out hk ha ha' hn hn' _ ho ho'
    obtain ⟨k, rfl⟩ : ∃ m, k = m + 1 := ⟨k - 1, by omega⟩
    have : n = 0 := by simp at hn'; omega
    subst this
    simp only [usufructref01_Times.l0]
    rw [if_neg (by omega), Int.mul_zero, Int.add_zero, sat_id ho']
  | succ d ih =>
    intro k a n out hk ha ha' hn hn' hnM ho ho'
    obtain ⟨k, rfl⟩ : ∃ m, k = m + 1 := ⟨k - 1, by omega⟩
    simp only [usufructref01_Times.l0]
    by_cases h0 : n > 0
    · rw [if_pos h0]
      have hp : ((2 ^ (d + 1) : Nat) : Int) = 2 * ((2 ^ d : Nat) : Int) := by rw [Nat.pow_succ]; omega
      have ht : Int.tdiv n 2 = n / 2 := Int.tdiv_eq_ediv_of_nonneg hn
      have hm : Int.tmod n 2 = n % 2 := Int.tmod_eq_emod_of_nonneg hn
      rw [ht, hm, w64 (a := n / 2) (by omega) (by unfold MT at *; omega)]
      simp only [usufructref01_Add.eq, Option.bind_some, tof_id ha ha', tof_id ho ho']
      by_cases h1 : n % 2 = 1
      · rw [if_pos h1, ih k _ _ _ (by omega) (sat_nonneg (by omega)) sat_le (by omega) (by omega) (by omega) (sat_nonneg (by omega)) sat_le, sat_step (by omega) (by omega) (by omega)]
        have : out + a * n = out + a + (a + a) * (n / 2) := by
          have e : n = 2 * (n / 2) + 1 := by omega
          generalize n / 2 = m at e
          subst e
          rw [Int.mul_add, Int.add_mul, ← Int.mul_assoc, Int.mul_comm a 2, Int.mul_assoc]
          omega
        rw [this]
      · rw [if_neg h1, ih k _ _ _ (by omega) (sat_nonneg (by omega)) sat_le (by omega) (by omega) (by omega) ho ho']
        have h2 := sat_step (x := out) (y := a + a) (m := n / 2) ho (by omega) (by omega)
        rw [sat_id (a := out) ho'] at h2
        rw [h2]
        have : out + a * n = out + (a + a) * (n / 2) := by
          have e : n = 2 * (n / 2) := by omega
          generalize n / 2 = m at e
          subst e
          rw [Int.add_mul, ← Int.mul_assoc, Int.mul_comm a 2, Int.mul_assoc]
          omega
        rw [this]
    · have : n = 0 := by omega
      subst this
      rw [if_neg h0, Int.mul_zero, Int.add_zero, sat_id ho']

theorem usufructref01_Times.eq (a n : Int) {k : Nat} (hk : 42 ≤ k) : usufructref01_Times.f k a n = some (sat (tof a * tof n)) := by
  unfold usufructref01_Times.f
  simp only [usufructref01_Of.eq, Option.bind_some]
  rw [usufructref01_Times.loop 41 k _ _ _ (by omega) (tof_lo a) (tof_hi a) (tof_lo n) (by have := tof_hi n; unfold MT at *; omega) (tof_hi n) (by omega) (by unfold MT; omega), Int.zero_add]

theorem usufructref01_Pow.loop {b : Int} (hb : 0 ≤ b) (hb' : b ≤ MT) {n : Nat} (hn : (n : Int) ≤ MT) : ∀ (d i k : Nat), i + d = 64 → d + 43 ≤ k → i ≤ n →
    usufructref01_Pow.l0 k b n (pw b i) i = some (pw b (min n 64)) := by
  intro d
  induction d with
  | zero =>
    intro i k hi hk hin
    obtain ⟨k, rfl⟩ : ∃ m, k = m + 1 := ⟨k - 1, by omega⟩
    simp only [usufructref01_Pow.l0]
    have e : i = min n 64 := by omega
    rw [← e]
    by_cases hc : (i : Int) < n
    · rw [if_pos hc, if_neg (by omega)]
    · rw [if_neg hc]
  | succ d ih =>
    intro i k hi hk hin
    obtain ⟨k, rfl⟩ : ∃ m, k = m + 1 := ⟨k - 1, by omega⟩
    simp only [usufructref01_Pow.l0]
    by_cases hc : (i : Int) < n
    · rw [if_pos hc, if_pos (by omega), usufructref01_Times.eq _ _ (by omega), tof_id (pw_nonneg hb i) (pw_le i), tof_id hb hb', w64 (by omega) (by unfold MT at *; omega)]
      simp only [Option.bind_some]
      have := ih (i + 1) k (by omega) (by omega) (by omega)
      simpa [pw] using this
    · rw [if_neg hc]
      have e : i = min n 64 := by omega
      rw [← e]

theorem pw_min {b : Int} (hb : 0 ≤ b) (n : Nat) : pw b (min n 64) = pw b n := by
  by_cases h : n ≤ 64
  · rw [Nat.min_eq_left h]
  · rw [Nat.min_eq_right (by omega)]
    have : b = 0 ∨ b = 1 ∨ 2 ≤ b := by omega
    rcases this with rfl | rfl | h2
    · obtain ⟨m, rfl⟩ : ∃ m, n = m + 1 := ⟨n - 1, by omega⟩
      rw [pw_zero_succ, pw_zero_succ]
    · rw [pw_one, pw_one]
    · rw [pw_past h2 (by omega), pw_past h2 (by omega)]

theorem usufructref01_Pow.eq (base n : Int) {k : Nat} (hk : 107 ≤ k) : usufructref01_Pow.f k base n = some (pw (tof base) (tof n).toNat) := by
  unfold usufructref01_Pow.f
  simp only [usufructref01_Of.eq, Option.bind_some]
  obtain ⟨j, hj⟩ := Int.eq_ofNat_of_zero_le (tof_lo n)
  have h4 := tof_hi n
  rw [hj] at h4 ⊢
  have := usufructref01_Pow.loop (tof_lo base) (tof_hi base) h4 64 0 k (by omega) (by omega) (by omega)
  rw [Int.toNat_natCast, ← pw_min (tof_lo base) j]
  exact this

end Go.Proofs.Ytiohhfjocmibdaa.Q
