/- Waits: what layer 11's functions come to, in plain numbers. -/
import Derived.Test.YtiohhfjocmibdaaBTick
import Derived.Test.YtiohhfjocmibdaaQx10
import Derived.Test.YtiohhfjocmibdaaQx11
import Derived.Test.YtiohhfjocmibdaaQx11
namespace Go.Proofs.Ytiohhfjocmibdaa.Q
set_option linter.unusedVariables false
set_option linter.unusedSectionVars false
open Go.RowKit Go.Proofs.YtiohhfjocmibdaaW.PrintWords Go.Proofs.YtiohhfjocmibdaaW.PrintLast Go.Proofs.YtiohhfjocmibdaaW.PrintMore

/-- A plan that is right. -/
structure GoodPlan (R B F C : Int) : Prop where
  r0 : 0 ≤ R
  r1 : R ≤ 1000
  b1 : 1 ≤ B
  f1 : 1 ≤ F
  f2 : F ≤ 16
  cb : B ≤ C
  c2 : C ≤ MT
def goodPlan (R B F C : Int) : Bool := decide (0 ≤ R) && decide (R ≤ 1000) && decide (1 ≤ B) && decide (1 ≤ F) && decide (F ≤ 16) && decide (B ≤ C) && decide (C ≤ MT)
theorem goodPlan_iff {R B F C : Int} : goodPlan R B F C = true ↔ GoodPlan R B F C := by
  unfold goodPlan
  simp only [Bool.and_eq_true, decide_eq_true_eq]
  exact ⟨fun ⟨⟨⟨⟨⟨⟨a, b⟩, c⟩, d⟩, e⟩, f⟩, g⟩ => ⟨a, b, c, d, e, f, g⟩, fun h => ⟨⟨⟨⟨⟨⟨h.r0, h.r1⟩, h.b1⟩, h.f1⟩, h.f2⟩, h.cb⟩, h.c2⟩⟩
theorem backoff_Good.eq (R B F C : Int) : backoff_Good.f R B F C = some (goodPlan R B F C) := by
  unfold backoff_Good.f goodPlan
  by_cases h1 : 0 ≤ R
  · rw [if_pos h1]
    by_cases h2 : R ≤ 1000
    · rw [if_pos h2]
      by_cases h3 : 1 ≤ B
      · rw [if_pos h3]
        by_cases h4 : 1 ≤ F
        · rw [if_pos h4]
          by_cases h5 : F ≤ 16
          · rw [if_pos h5]
            by_cases h6 : B ≤ C
            · rw [if_pos h6]; simp [h1, h2, h3, h4, h5, h6]
            · rw [if_neg h6]; simp [h6]
          · rw [if_neg h5]; simp [h5]
        · rw [if_neg h4]; simp [h4]
      · rw [if_neg h3]; simp [h3]
    · rw [if_neg h2]; simp [h2]
  · rw [if_neg h1]; simp [h1]

/-- The n-th wait of a right plan. -/
def wt (B F C : Int) (n : Nat) : Int := mn (sat (B * pw F n)) C
/-- The sum of the first n waits. -/
def tot (B F C : Int) : Nat → Int
  | 0 => 0
  | n + 1 => sat (tot B F C n + wt B F C n)

theorem mn_le_l (a b : Int) : mn a b ≤ a := by unfold mn; split <;> omega
theorem mn_le_r (a b : Int) : mn a b ≤ b := by unfold mn; split <;> omega
theorem le_mn {a b c : Int} (h : c ≤ a) (h' : c ≤ b) : c ≤ mn a b := by unfold mn; split <;> omega
theorem pw_pos {b : Int} (h : 1 ≤ b) : ∀ n, 1 ≤ pw b n
  | 0 => by simp [pw]
  | n + 1 => by
    have := pw_pos h n
    have h2 : 1 * 1 ≤ pw b n * b := Int.mul_le_mul this h (by omega) (by omega)
    show 1 ≤ sat (pw b n * b)
    unfold sat MT; split <;> omega
theorem pw_rises {b : Int} (h : 1 ≤ b) (n : Nat) : pw b n ≤ pw b (n + 1) := by
  have h0 := pw_pos h n
  have h2 : pw b n * 1 ≤ pw b n * b := Int.mul_le_mul_of_nonneg_left h (by omega)
  have h3 := pw_le (b := b) n
  show pw b n ≤ sat (pw b n * b)
  unfold sat MT at *; split <;> omega
section
variable {R B F C : Int} (G : GoodPlan R B F C)
include G
theorem wt_lo (n : Nat) : B ≤ wt B F C n := by
  refine le_mn ?_ G.cb
  have h0 := pw_pos G.f1 n
  have h2 : B * 1 ≤ B * pw F n := Int.mul_le_mul_of_nonneg_left h0 (by have := G.b1; omega)
  have := G.cb; have := G.c2
  unfold sat MT at *; split <;> omega
theorem wt_hi (n : Nat) : wt B F C n ≤ C := mn_le_r _ _
theorem wt_rises (n : Nat) : wt B F C n ≤ wt B F C (n + 1) := by
  refine le_mn (Int.le_trans (mn_le_l _ _) (sat_mono (Int.mul_le_mul_of_nonneg_left (pw_rises G.f1 n) (by have := G.b1; omega)))) (mn_le_r _ _)
theorem wt_mono (n m : Nat) : wt B F C n ≤ wt B F C (n + m) := by
  induction m with
  | zero => exact Int.le_refl _
  | succ m ih => exact Int.le_trans ih (wt_rises G (n + m))
theorem tot_nonneg : ∀ n, 0 ≤ tot B F C n
  | 0 => Int.le_refl _
  | n + 1 => sat_nonneg (by have := tot_nonneg n; have := wt_lo G n; have := G.b1; omega)
theorem tot_le : ∀ n, tot B F C n ≤ MT
  | 0 => by simp [tot, MT]
  | n + 1 => sat_le
theorem tot_top {n : Nat} (e : tot B F C n = MT) : ∀ m, tot B F C (n + m) = MT
  | 0 => e
  | m + 1 => by
    show sat (tot B F C (n + m) + wt B F C (n + m)) = MT
    have := wt_lo G (n + m); have := G.b1
    rw [tot_top e m]
    exact sat_big (by omega)
theorem tot_const {c : Int} (hc : 0 ≤ c) {n : Nat} (e : ∀ m, wt B F C (n + m) = c) : ∀ m : Nat, tot B F C (n + m) = sat (tot B F C n + c * m)
  | 0 => by simp; rw [sat_id (tot_le G n)]
  | m + 1 => by
    show sat (tot B F C (n + m) + wt B F C (n + m)) = _
    rw [e m, tot_const hc e m]
    have h0 := tot_nonneg G n
    have h1 : 0 ≤ c * (m : Int) := Int.mul_nonneg hc (by omega)
    have h2 : c * ((m + 1 : Nat) : Int) = c * m + c := by rw [show ((m + 1 : Nat) : Int) = (m : Int) + 1 by omega, Int.mul_add, Int.mul_one]
    rw [h2]
    unfold sat MT
    split <;> split <;> (try split) <;> omega

theorem backoff_Wait.eq {n : Nat} (hn : (n : Int) ≤ MT) {k : Nat} (hk : 42 ≤ k) : backoff_Wait.f k R B F C n = some (wt B F C n) := by
  obtain ⟨k, rfl⟩ : ∃ m, k = m + 1 := ⟨k - 1, by omega⟩
  unfold backoff_Wait.f
  rw [backoff_Good.eq, goodPlan_iff.2 G]
  simp only [Option.bind_some, if_true]
  rw [decide_eq_false (by omega)]
  simp only [backoff_Wait.j0]
  rw [if_neg (by decide), tick_Pow.eq _ _ (by omega)]
  simp only [Option.bind_some, tick_Times.eq]
  have := G.b1; have := G.f1; have := G.f2; have := G.cb; have := G.c2
  rw [tof_id (a := F) (by omega) (by unfold MT at *; omega), tof_id (a := B) (by omega) (by omega), tof_id (a := (n : Int)) (by omega) hn, Int.toNat_natCast, tof_id (pw_nonneg (by omega) n) (pw_le n)]
  rfl
theorem backoff_Wait.neg {n : Int} (hn : n < 0) {k : Nat} (hk : 1 ≤ k) : backoff_Wait.f k R B F C n = some 0 := by
  obtain ⟨k, rfl⟩ : ∃ m, k = m + 1 := ⟨k - 1, by omega⟩
  unfold backoff_Wait.f
  rw [backoff_Good.eq, goodPlan_iff.2 G]
  simp only [Option.bind_some, if_true]
  rw [decide_eq_true hn]
  simp only [backoff_Wait.j0, if_true]

theorem wt_top {n : Nat} (e : wt B F C n = C) (m : Nat) : wt B F C (n + m) = C := by
  have := wt_mono G n m; have := wt_hi G (n + m); omega

theorem backoff_Total.loop {n : Nat} (hn : (n : Int) ≤ MT) : ∀ (d i k : Nat), i + d = n → d + 50 ≤ k → (i = 0 ∨ F ≠ 1) → backoff_Total.l0 (2 * k) n (tot B F C i) n i R B F C = some (tot B F C n) := by
  intro d
  have hC : 1 ≤ C := by have := G.b1; have := G.cb; omega
  induction d with
  | zero =>
    intro i k hi hk hF
    obtain ⟨k, rfl⟩ : ∃ m, k = m + 1 := ⟨k - 1, by omega⟩
    rw [show 2 * (k + 1) = 2 * k + 1 + 1 by omega]
    simp only [backoff_Total.l0]
    rw [if_neg (by omega)]
    have : i = n := by omega
    rw [this]
  | succ d ih =>
    intro i k hi hk hF
    obtain ⟨k, rfl⟩ : ∃ m, k = m + 1 := ⟨k - 1, by omega⟩
    rw [show 2 * (k + 1) = 2 * k + 1 + 1 by omega]
    simp only [backoff_Total.l0]
    rw [if_pos (by omega), backoff_Wait.eq G (by omega) (by omega)]
    simp only [Option.bind_some]
    have hw := wt_lo G i; have hb := G.b1; have hw2 := wt_hi G i; have hc2 := G.c2
    have ht := tot_nonneg G i; have ht2 := tot_le G i
    rw [if_neg (by omega)]
    simp only [backoff_Total.j1]
    by_cases hs : tot B F C i = 1099511627776
    · rw [beq_iff_eq.2 hs, if_pos rfl]
      have := tot_top G (n := i) hs (n - i)
      rw [show i + (n - i) = n by omega] at this
      rw [this, hs]
    · rw [beq_eq_false_iff_ne.2 hs, if_neg (by decide)]
      by_cases hcap : wt B F C i = C
      · rw [if_pos hcap, hcap]
        have := tot_const G (c := C) (by omega) (n := i) (wt_top G hcap) (n - i)
        rw [show i + (n - i) = n by omega] at this
        rw [this]
        have hni : ((n - i : Nat) : Int) = (n : Int) - i := by omega
        rw [w64 (a := (n : Int) - i) (by omega) (by unfold MT at *; omega)]
        simp only [tick_Times.eq, Option.bind_some, tick_Add.eq]
        rw [tof_id (a := C) (by omega) hc2, tof_id (a := (n : Int) - i) (by omega) (by omega), tof_id (a := tot B F C i) ht ht2, hni]
        have h0 : 0 ≤ C * ((n : Int) - i) := Int.mul_nonneg (by omega) (by omega)
        rw [tof_id (sat_nonneg h0) sat_le]
        congr 1
        unfold sat MT
        split <;> (try split) <;> (try split) <;> omega
      · rw [if_neg hcap]
        simp only [tick_Add.eq, Option.bind_some]
        rw [tof_id ht ht2, tof_id (a := wt B F C i) (by omega) (by omega)]
        by_cases hF1 : F = 1
        · rw [if_pos hF1]
          have hi0 : i = 0 := hF.elim id (fun h => absurd hF1 h)
          subst hi0
          have hcst : ∀ m, wt B F C (0 + m) = wt B F C 0 := by
            intro m
            unfold wt
            rw [hF1, pw_one, pw_one]
          have := tot_const G (c := wt B F C 0) (by omega) (n := 0) hcst n
          rw [Nat.zero_add] at this
          rw [this]
          simp only [tick_Times.eq, Option.bind_some]
          rw [tof_id (a := wt B F C 0) (by omega) (by omega), tof_id (a := (n : Int)) (by omega) hn]
          simp [tot]
        · rw [if_neg hF1, w64 (a := (i : Int) + 1) (by omega) (by unfold MT at *; omega)]
          have := ih (i + 1) k (by omega) (by omega) (.inr hF1)
          simpa [tot] using this

theorem backoff_Total.eq {n : Nat} (hn : (n : Int) ≤ MT) {k : Nat} (hk : 2 * n + 100 ≤ k) : backoff_Total.f k R B F C n = some (tot B F C n) := by
  have h := backoff_Total.loop G hn n 0 (n + 50) (by omega) (by omega) (.inl rfl)
  have hm : mx (n : Int) 0 = n := by unfold mx; split <;> omega
  have h2 : backoff_Total.f (2 * (n + 50)) R B F C n = some (tot B F C n) := by
    unfold backoff_Total.f
    rw [hm]
    exact h
  exact at_rounds (backoff_Total.mono R B F C n) (by omega) h2
end

theorem backoff_Left.eq {R B F C : Int} (G : GoodPlan R B F C) {n : Int} (h0 : 0 ≤ n) (h1 : n ≤ R + 1) : backoff_Left.f R B F C n = some (R + 1 - n) := by
  unfold backoff_Left.f
  rw [backoff_Good.eq, goodPlan_iff.2 G]
  simp only [Option.bind_some, if_true]
  have := G.r0; have := G.r1
  have e : mx n 0 = n := by unfold mx; split <;> omega
  rw [e, w64 (a := R + 1) (by omega) (by omega), w64 (by omega) (by omega)]
  unfold mx
  split
  · omega
  · rfl
end Go.Proofs.Ytiohhfjocmibdaa.Q
