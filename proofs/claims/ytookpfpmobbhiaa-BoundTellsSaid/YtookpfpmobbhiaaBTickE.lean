/- Ticks: what layer 1's functions and the document's come to, in plain numbers (sums and products alone). -/
import Derived.Test.YtookpfpmobbhiaaQx1
import Derived.Test.YtookpfpmobbhiaaQx1
import Derived.Test.YtookpfpmobbhiaaQx5
import Derived.Test.YtookpfpmobbhiaaQx6
namespace Go.Proofs.Ytookpfpmobbhiaa.Q
set_option linter.unusedVariables false
open Go.RowKit Go.Proofs.YtookpfpmobbhiaaW.PrintWords Go.Proofs.YtookpfpmobbhiaaW.PrintLast Go.Proofs.YtookpfpmobbhiaaW.PrintMore

/-- The greatest tick. -/
abbrev MT : Int := 1099511627776
/-- The nearest tick. -/
def tof (a : Int) : Int := if a < 0 then 0 else if MT < a then MT else a
/-- What runs over is the greatest tick. -/
def sat (a : Int) : Int := if MT < a then MT else a
theorem w64 {a : Int} (h : -9223372036854775808 ≤ a) (h' : a ≤ 9223372036854775807) : wrap64 a = a := by unfold wrap64; omega
theorem tof_lo (a : Int) : 0 ≤ tof a := by unfold tof MT; split <;> (try split) <;> omega
theorem tof_hi (a : Int) : tof a ≤ MT := by unfold tof MT; split <;> (try split) <;> omega
theorem tof_id {a : Int} (h : 0 ≤ a) (h' : a ≤ MT) : tof a = a := by unfold tof MT at *; split <;> (try split) <;> omega
theorem tof_of_nonneg {a : Int} (h : 0 ≤ a) : tof a = sat a := by unfold tof sat; rw [if_neg (by omega)]
theorem tof_mono {a b : Int} (h : a ≤ b) : tof a ≤ tof b := by unfold tof MT; split <;> split <;> (try split) <;> (try split) <;> omega
theorem sat_le {a : Int} : sat a ≤ MT := by unfold sat MT; split <;> omega
theorem sat_nonneg {a : Int} (h : 0 ≤ a) : 0 ≤ sat a := by unfold sat MT; split <;> omega
theorem sat_id {a : Int} (h : a ≤ MT) : sat a = a := by unfold sat MT at *; split <;> omega
theorem sat_big {a : Int} (h : MT ≤ a) : sat a = MT := by unfold sat MT at *; split <;> omega
theorem sat_mono {a b : Int} (h : a ≤ b) : sat a ≤ sat b := by unfold sat MT; split <;> split <;> omega

theorem tick_Of.eq (a : Int) : tick_Of.f a = some (tof a) := by
  unfold tick_Of.f tof mn mx MT
  congr 1
  split <;> split <;> (try split) <;> omega

theorem mul_bound {x y : Int} (hx : 0 ≤ x) (hx' : x ≤ MT) (hy : 0 ≤ y) (hy' : y ≤ MT) : 0 ≤ x * y := Int.mul_nonneg hx hy

theorem tick_Times.eq (a n : Int) : tick_Times.f a n = some (sat (tof a * tof n)) := by
  unfold tick_Times.f
  rw [tick_Of.eq, tick_Of.eq]
  simp only [Option.bind_some]
  have h1 := tof_lo a; have h2 := tof_hi a; have h3 := tof_lo n; have h4 := tof_hi n
  generalize tof a = x at *
  generalize tof n = y at *
  by_cases hy : y > 0
  · rw [if_pos hy, if_neg (by omega), w64 (by
      have := Int.tdiv_nonneg (a := 1099511627776) (b := y) (by omega) (by omega); omega) (by
      have h : Int.tdiv 1099511627776 y ≤ 1099511627776 := by
        rw [Int.tdiv_eq_ediv_of_nonneg (by omega)]
        exact Int.ediv_le_self y (by omega)
      omega)]
    rw [Int.tdiv_eq_ediv_of_nonneg (by omega)]
    by_cases hc : x > 1099511627776 / y
    · rw [if_pos hc]
      have : 1099511627776 < x * y := by
        have := (Int.ediv_lt_iff_lt_mul hy).mp hc
        omega
      rw [sat_big (by unfold MT; omega)]
    · rw [if_neg hc]
      have : x * y ≤ 1099511627776 := by
        have h := (Int.le_ediv_iff_mul_le hy).mp (Int.not_lt.mp hc)
        omega
      have h0 := Int.mul_nonneg h1 h3
      rw [w64 (by omega) (by omega), sat_id this]
  · have : y = 0 := by omega
    subst this
    rw [if_neg hy]
    simp [sat, wrap64, MT]

theorem tick_Add.eq (a b : Int) : tick_Add.f a b = some (sat (tof a + tof b)) := by
  unfold tick_Add.f
  simp only [tick_Of.eq, Option.bind_some]
  have h1 := tof_lo a; have h2 := tof_hi a; have h3 := tof_lo b; have h4 := tof_hi b
  unfold MT at *
  rw [w64 (by omega) (by omega), tof_of_nonneg (by omega)]


theorem usufructref01_Of.eq (a : Int) : usufructref01_Of.f a = some (tof a) := by
  unfold usufructref01_Of.f tof MT
  split <;> (try split) <;> (try split) <;> (try rfl) <;> omega
theorem usufructref01_Add.eq (a b : Int) : usufructref01_Add.f a b = some (sat (tof a + tof b)) := by
  unfold usufructref01_Add.f
  simp only [usufructref01_Of.eq, Option.bind_some]
  have h1 := tof_lo a; have h2 := tof_hi a; have h3 := tof_lo b; have h4 := tof_hi b
  unfold MT at *
  rw [w64 (by omega) (by omega), tof_of_nonneg (by omega)]
theorem sat_of_ge {x y : Int} (hx : MT ≤ x) (hy : MT ≤ y) : sat x = sat y := by rw [sat_big hx, sat_big hy]
theorem sat_step {x y m : Int} (hx : 0 ≤ x) (hy : 0 ≤ y) (hm : 0 ≤ m) : sat (sat x + sat y * m) = sat (x + y * m) := by
  have hxm := Int.mul_nonneg hy hm
  by_cases h1 : MT < x
  · have e := sat_big (a := x) (by omega)
    rw [e]
    have := Int.mul_nonneg (sat_nonneg hy) hm
    exact sat_of_ge (by omega) (by omega)
  · rw [sat_id (a := x) (by omega)]
    by_cases h2 : MT < y
    · rw [sat_big (a := y) (by omega)]
      by_cases h3 : m = 0
      · subst h3; simp
      · have a1 : MT * 1 ≤ MT * m := Int.mul_le_mul_of_nonneg_left (by omega) (by unfold MT; omega)
        have a2 : y * 1 ≤ y * m := Int.mul_le_mul_of_nonneg_left (by omega) (by omega)
        exact sat_of_ge (by omega) (by omega)
    · rw [sat_id (a := y) (by omega)]

theorem usufructref01_Times.loop : ∀ (d k : Nat) (a n out : Int), d < k → 0 ≤ a → a ≤ MT → 0 ≤ n → n < ((2 ^ d : Nat) : Int) → n ≤ MT → 0 ≤ out → out ≤ MT →
    usufructref01_Times.l0 k a n out = some (sat (out + a * n)) := by
  intro d
  induction d with
  | zero =>
    intro k a n out hk ha ha' hn hn' _ ho ho'
    obtain ⟨k, rfl⟩ : ∃ m, k = m + 1 := ⟨k - 1, by omega⟩
    have : n = 0 := by simp at hn'; omega
    subst this
    simp only [usufructref01_Times.l0]
    rw [if_neg (by omega), Int.mul_zero, Int.add_zero, sat_id ho']
  | succ d ih =>
    intro k a n out hk ha ha' hn hn' hnM ho ho'
    obtain ⟨k, rfl⟩ : ∃ m, k = m + 1 := ⟨k - 1, by omega⟩
    simp only [usufructref01_Times.l0]
    by_cases h0 : n > 0
    · rw [if_pos h0]
      have hp : ((2 ^ (d + 1) : Nat) : Int) = 2 * ((2 ^ d : Nat) : Int) := by rw [Nat.pow_succ]; omega
      have ht : Int.tdiv n 2 = n / 2 := Int.tdiv_eq_ediv_of_nonneg hn
      have hm : Int.tmod n 2 = n % 2 := Int.tmod_eq_emod_of_nonneg hn
      rw [ht, hm, w64 (a := n / 2) (by omega) (by unfold MT at *; omega)]
      simp only [usufructref01_Add.eq, Option.bind_some, tof_id ha ha', tof_id ho ho']
      by_cases h1 : n % 2 = 1
      · rw [if_pos h1, ih k _ _ _ (by omega) (sat_nonneg (by omega)) sat_le (by omega) (by omega) (by omega) (sat_nonneg (by omega)) sat_le, sat_step (by omega) (by omega) (by omega)]
        have : out + a * n = out + a + (a + a) * (n / 2) := by
          have e : n = 2 * (n / 2) + 1 := by omega
          generalize n / 2 = m at e
          subst e
          rw [Int.mul_add, Int.add_mul, ← Int.mul_assoc, Int.mul_comm a 2, Int.mul_assoc]
          omega
        rw [this]
      · rw [if_neg h1, ih k _ _ _ (by omega) (sat_nonneg (by omega)) sat_le (by omega) (by omega) (by omega) ho ho']
        have h2 := sat_step (x := out) (y := a + a) (m := n / 2) ho (by omega) (by omega)
        rw [sat_id (a := out) ho'] at h2
        rw [h2]
        have : out + a * n = out + (a + a) * (n / 2) := by
          have e : n = 2 * (n / 2) := by omega
          generalize n / 2 = m at e
          subst e
          rw [Int.add_mul, ← Int.mul_assoc, Int.mul_comm a 2, Int.mul_assoc]
          omega
        rw [this]
    · have : n = 0 := by omega
      subst this
      rw [if_neg h0, Int.mul_zero, Int.add_zero, sat_id ho']

theorem usufructref01_Times.eq (a n : Int) {k : Nat} (hk : 42 ≤ k) : usufructref01_Times.f k a n = some (sat (tof a * tof n)) := by
  unfold usufructref01_Times.f
  simp only [usufructref01_Of.eq, Option.bind_some]
  rw [usufructref01_Times.loop 41 k _ _ _ (by omega) (tof_lo a) (tof_hi a) (tof_lo n) (by have := tof_hi n; unfold MT at *; omega) (tof_hi n) (by omega) (by unfold MT; omega), Int.zero_add]

end Go.Proofs.Ytookpfpmobbhiaa.Q
