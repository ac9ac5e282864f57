/- Ticks: what layer 1's functions come to, in plain numbers. -/
import Derived.Test.YtiohhfjocmibdaaQx2
import Derived.Test.YtiohhfjocmibdaaQx3
import Derived.Test.YtiohhfjocmibdaaQx3
namespace Go.Proofs.Ytiohhfjocmibdaa.Q
set_option linter.unusedVariables false
open Go.RowKit Go.Proofs.YtiohhfjocmibdaaW.PrintWords Go.Proofs.YtiohhfjocmibdaaW.PrintLast Go.Proofs.YtiohhfjocmibdaaW.PrintMore

/-- The greatest tick. -/
abbrev MT : Int := 1099511627776
/-- The nearest tick. -/
def tof (a : Int) : Int := if a < 0 then 0 else if MT < a then MT else a
/-- What runs over is the greatest tick. -/
def sat (a : Int) : Int := if MT < a then MT else a
/-- A power, round by round. -/
def pw (b : Int) : Nat → Int
  | 0 => 1
  | n + 1 => sat (pw b n * b)

theorem w64 {a : Int} (h : -9223372036854775808 ≤ a) (h' : a ≤ 9223372036854775807) : wrap64 a = a := by unfold wrap64; omega
theorem tof_lo (a : Int) : 0 ≤ tof a := by unfold tof MT; split <;> (try split) <;> omega
theorem tof_hi (a : Int) : tof a ≤ MT := by unfold tof MT; split <;> (try split) <;> omega
theorem tof_id {a : Int} (h : 0 ≤ a) (h' : a ≤ MT) : tof a = a := by unfold tof MT at *; split <;> (try split) <;> omega
theorem tof_of_nonneg {a : Int} (h : 0 ≤ a) : tof a = sat a := by unfold tof sat; rw [if_neg (by omega)]
theorem tof_mono {a b : Int} (h : a ≤ b) : tof a ≤ tof b := by unfold tof MT; split <;> split <;> (try split) <;> (try split) <;> omega
theorem sat_le {a : Int} : sat a ≤ MT := by unfold sat MT; split <;> omega
theorem sat_nonneg {a : Int} (h : 0 ≤ a) : 0 ≤ sat a := by unfold sat MT; split <;> omega
theorem sat_id {a : Int} (h : a ≤ MT) : sat a = a := by unfold sat MT at *; split <;> omega
theorem sat_big {a : Int} (h : MT ≤ a) : sat a = MT := by unfold sat MT at *; split <;> omega
theorem sat_mono {a b : Int} (h : a ≤ b) : sat a ≤ sat b := by unfold sat MT; split <;> split <;> omega

theorem tick_Of.eq (a : Int) : tick_Of.f a = some (tof a) := by
  unfold tick_Of.f tof mn mx MT
  congr 1
  split <;> split <;> (try split) <;> omega

theorem mul_bound {x y : Int} (hx : 0 ≤ x) (hx' : x ≤ MT) (hy : 0 ≤ y) (hy' : y ≤ MT) : 0 ≤ x * y := Int.mul_nonneg hx hy

theorem tick_Times.eq (a n : Int) : tick_Times.f a n = some (sat (tof a * tof n)) := by
  unfold tick_Times.f
  rw [tick_Of.eq, tick_Of.eq]
  simp only [Option.bind_some]
  have h1 := tof_lo a; have h2 := tof_hi a; have h3 := tof_lo n; have h4 := tof_hi n
  generalize tof a = x at *
  generalize tof n = y at *
  by_cases hy : y > 0
  · rw [if_pos hy, if_neg (by omega), w64 (by
      have := Int.tdiv_nonneg (a := 1099511627776) (b := y) (by omega) (by omega); omega) (by
      have h : Int.tdiv 1099511627776 y ≤ 1099511627776 := by
        rw [Int.tdiv_eq_ediv_of_nonneg (by omega)]
        exact Int.ediv_le_self y (by omega)
      omega)]
    rw [Int.tdiv_eq_ediv_of_nonneg (by omega)]
    by_cases hc : x > 1099511627776 / y
    · rw [if_pos hc]
      have : 1099511627776 < x * y := by
        have := (Int.ediv_lt_iff_lt_mul hy).mp hc
        omega
      rw [sat_big (by unfold MT; omega)]
    · rw [if_neg hc]
      have : x * y ≤ 1099511627776 := by
        have h := (Int.le_ediv_iff_mul_le hy).mp (Int.not_lt.mp hc)
        omega
      have h0 := Int.mul_nonneg h1 h3
      rw [w64 (by omega) (by omega), sat_id this]
  · have : y = 0 := by omega
    subst this
    rw [if_neg hy]
    simp [sat, wrap64, MT]

theorem tick_Add.eq (a b : Int) : tick_Add.f a b = some (sat (tof a + tof b)) := by
  unfold tick_Add.f
  simp only [tick_Of.eq, Option.bind_some]
  have h1 := tof_lo a; have h2 := tof_hi a; have h3 := tof_lo b; have h4 := tof_hi b
  unfold MT at *
  rw [w64 (by omega) (by omega), tof_of_nonneg (by omega)]

theorem tick_Sub.eq (a b : Int) : tick_Sub.f a b = some (tof (tof a - tof b)) := by
  unfold tick_Sub.f
  simp only [tick_Of.eq, Option.bind_some]
  have h1 := tof_lo a; have h2 := tof_hi a; have h3 := tof_lo b; have h4 := tof_hi b
  unfold MT at *
  rw [w64 (by omega) (by omega)]

theorem pw_nonneg {b : Int} (h : 0 ≤ b) : ∀ n, 0 ≤ pw b n
  | 0 => by simp [pw]
  | n + 1 => sat_nonneg (Int.mul_nonneg (pw_nonneg h n) h)
theorem pw_le {b : Int} : ∀ n, pw b n ≤ MT
  | 0 => by simp [pw, MT]
  | n + 1 => sat_le
theorem pw_zero_succ (n : Nat) : pw 0 (n + 1) = 0 := by simp [pw, sat, MT]
theorem pw_one : ∀ n, pw 1 n = 1
  | 0 => rfl
  | n + 1 => by simp [pw, pw_one n, sat, MT]
theorem pw_top {b : Int} (h : 1 ≤ b) {n : Nat} (e : pw b n = MT) : ∀ m, pw b (n + m) = MT
  | 0 => e
  | m + 1 => by
    show sat (pw b (n + m) * b) = MT
    rw [pw_top h e m]
    exact sat_big (by unfold MT; omega)
/-- Powers of two, round by round. -/
theorem pw_grows {b : Int} (h : 2 ≤ b) : ∀ n : Nat, pw b n = MT ∨ ((2 ^ n : Nat) : Int) ≤ pw b n
  | 0 => .inr (by simp [pw])
  | n + 1 => by
    rcases pw_grows h n with e | e
    · exact .inl (pw_top (by omega) e 1)
    · by_cases hc : MT ≤ pw b n * b
      · exact .inl (sat_big hc)
      · right
        show _ ≤ sat (pw b n * b)
        rw [sat_id (by omega)]
        have h0 : 0 ≤ pw b n := pw_nonneg (by omega) n
        have h1 : pw b n * 2 ≤ pw b n * b := Int.mul_le_mul_of_nonneg_left h h0
        have : ((2 ^ (n + 1) : Nat) : Int) = ((2 ^ n : Nat) : Int) * 2 := by rw [Nat.pow_succ]; omega
        omega
theorem pw_forty {b : Int} (h : 2 ≤ b) : pw b 40 = MT := by
  rcases pw_grows h 40 with e | e
  · exact e
  · have := pw_le (b := b) 40; unfold MT at *; omega
theorem pw_past {b : Int} (h : 2 ≤ b) {n : Nat} (hn : 40 ≤ n) : pw b n = MT := by
  have := pw_top (by omega) (pw_forty h) (n - 40)
  rwa [show 40 + (n - 40) = n by omega] at this

theorem tick_Pow.loop {b : Int} (hb : 2 ≤ b) (hb' : b ≤ MT) {n : Nat} (hn : (n : Int) ≤ MT) : ∀ (d : Nat) (i k : Nat), i + d = 40 → d < k → i ≤ n → pw b i < MT →
    tick_Pow.l0 k b (pw b i) n i = some (pw b n) := by
  intro d
  induction d with
  | zero =>
    intro i k hi hk hin hlt
    have : pw b i = MT := pw_past hb (by omega)
    omega
  | succ d ih =>
    intro i k hi hk hin hlt
    obtain ⟨k, rfl⟩ : ∃ m, k = m + 1 := ⟨k - 1, by omega⟩
    simp only [tick_Pow.l0]
    by_cases hc : (i : Int) < n
    · rw [if_pos hc, tick_Times.eq, tof_id (pw_nonneg (by omega) i) (pw_le i), tof_id (by omega) hb']
      simp only [Option.bind_some]
      have e : sat (pw b i * b) = pw b (i + 1) := rfl
      rw [e]
      by_cases ht : pw b (i + 1) = 1099511627776
      · rw [if_pos ht, ht]
        have := pw_top (by omega) (show pw b (i + 1) = MT from ht) (n - (i + 1))
        rw [show i + 1 + (n - (i + 1)) = n by omega] at this
        rw [this]
      · rw [if_neg ht, w64 (by omega) (by unfold MT at *; omega)]
        have := ih (i + 1) k (by omega) (by omega) (by omega) (by have := pw_le (b := b) (i + 1); unfold MT at *; omega)
        simpa using this
    · rw [if_neg hc]
      have : i = n := by omega
      rw [this]

theorem tick_Pow.eq (base n : Int) {k : Nat} (hk : 41 ≤ k) : tick_Pow.f k base n = some (pw (tof base) (tof n).toNat) := by
  unfold tick_Pow.f
  simp only [tick_Of.eq, Option.bind_some]
  have h1 := tof_lo base; have h2 := tof_hi base; have h3 := tof_lo n; have h4 := tof_hi n
  generalize tof base = b at *
  generalize tof n = m at *
  obtain ⟨j, rfl⟩ := Int.eq_ofNat_of_zero_le h3
  by_cases hb : b < 2
  · rw [if_pos hb]
    by_cases hj : (j : Int) = 0
    · rw [if_pos hj]
      have : j = 0 := by omega
      subst this
      rfl
    · rw [if_neg hj]
      obtain ⟨j', rfl⟩ : ∃ j', j = j' + 1 := ⟨j - 1, by omega⟩
      have : b = 0 ∨ b = 1 := by omega
      rcases this with rfl | rfl
      · rw [Int.toNat_natCast, pw_zero_succ]
      · rw [pw_one]
  · rw [if_neg hb]
    have := tick_Pow.loop (b := b) (by omega) h2 (n := j) h4 40 0 k (by omega) (by omega) (by omega) (by simp [pw, MT])
    simpa [pw] using this

end Go.Proofs.Ytiohhfjocmibdaa.Q
