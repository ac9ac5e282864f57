/- The bound of as many sagas of a definition as there are live ones is at least that of a state; with fewer live sagas it never rises. -/
import Derived.Test.YtookpfpmobbhiaaQx1
import Derived.Test.YtookpfpmobbhiaaQx5
import Derived.Test.YtookpfpmobbhiaaQx6
import Derived.Test.YtookpfpmobbhiaaGBoundB
import Derived.Test.YtookpfpmobbhiaaQx4
import Derived.Test.YtookpfpmobbhiaaQx13
import Derived.Test.YtookpfpmobbhiaaQx10
import Derived.Test.YtookpfpmobbhiaaQx7
import Derived.Test.YtookpfpmobbhiaaQx16
import Derived.Test.YtookpfpmobbhiaaQx20
import Derived.Test.YtookpfpmobbhiaaQx19
import Derived.Test.YtookpfpmobbhiaaBOpenZ
import Derived.OpenShut
import Derived.Test.YtookpfpmobbhiaaQx23
section
namespace Go.Proofs.Ytookpfpmobbhiaa.Q
set_option linter.unusedVariables false
open Go.RowKit Go.Proofs.YtookpfpmobbhiaaW.PrintWords Go.Proofs.YtookpfpmobbhiaaW.PrintLast Go.Proofs.YtookpfpmobbhiaaW.PrintMore

/-- The greatest tick. -/
abbrev MT : Int := 1099511627776
/-- The nearest tick. -/
def tof (a : Int) : Int := if a < 0 then 0 else if MT < a then MT else a
/-- What runs over is the greatest tick. -/
def sat (a : Int) : Int := if MT < a then MT else a
theorem w64 {a : Int} (h : -9223372036854775808 ≤ a) (h' : a ≤ 9223372036854775807) : wrap64 a = a := by unfold wrap64; omega
theorem tof_lo (a : Int) : 0 ≤ tof a := by unfold tof MT; split <;> (try split) <;> omega
theorem tof_hi (a : Int) : tof a ≤ MT := by unfold tof MT; split <;> (try split) <;> omega
theorem tof_id {a : Int} (h : 0 ≤ a) (h' : a ≤ MT) : tof a = a := by unfold tof MT at *; split <;> (try split) <;> omega
theorem tof_of_nonneg {a : Int} (h : 0 ≤ a) : tof a = sat a := by unfold tof sat; rw [if_neg (by omega)]
theorem tof_mono {a b : Int} (h : a ≤ b) : tof a ≤ tof b := by unfold tof MT; split <;> split <;> (try split) <;> (try split) <;> omega
theorem sat_le {a : Int} : sat a ≤ MT := by unfold sat MT; split <;> omega
theorem sat_nonneg {a : Int} (h : 0 ≤ a) : 0 ≤ sat a := by unfold sat MT; split <;> omega
theorem sat_id {a : Int} (h : a ≤ MT) : sat a = a := by unfold sat MT at *; split <;> omega
theorem sat_big {a : Int} (h : MT ≤ a) : sat a = MT := by unfold sat MT at *; split <;> omega
theorem sat_mono {a b : Int} (h : a ≤ b) : sat a ≤ sat b := by unfold sat MT; split <;> split <;> omega

theorem tick_Of.eq (a : Int) : tick_Of.f a = some (tof a) := by
  unfold tick_Of.f tof mn mx MT
  congr 1
  split <;> split <;> (try split) <;> omega

theorem mul_bound {x y : Int} (hx : 0 ≤ x) (hx' : x ≤ MT) (hy : 0 ≤ y) (hy' : y ≤ MT) : 0 ≤ x * y := Int.mul_nonneg hx hy

theorem tick_Times.eq (a n : Int) : tick_Times.f a n = some (sat (tof a * tof n)) := by
  unfold tick_Times.f
  rw [tick_Of.eq, tick_Of.eq]
  simp only [Option.bind_some]
  have h1 := tof_lo a; have h2 := tof_hi a; have h3 := tof_lo n; have h4 := tof_hi n
  generalize tof a = x at *
  generalize tof n = y at *
  by_cases hy : y > 0
  · rw [if_pos hy, if_neg (by omega), w64 (by
      have := Int.tdiv_nonneg (a := 1099511627776) (b := y) (by omega) (by omega); omega) (by
      have h : Int.tdiv 1099511627776 y ≤ 1099511627776 := by
        rw [Int.tdiv_eq_ediv_of_nonneg (by omega)]
        exact Int.ediv_le_self y (by omega)
      omega)]
    rw [Int.tdiv_eq_ediv_of_nonneg (by omega)]
    by_cases hc : x > 1099511627776 / y
    · rw [if_pos hc]
      have : 1099511627776 < x * y := by
        have := (Int.ediv_lt_iff_lt_mul hy).mp hc
        omega
      rw [sat_big (by unfold MT; omega)]
    · rw [if_neg hc]
      have : x * y ≤ 1099511627776 := by
        have h := (Int.le_ediv_iff_mul_le hy).mp (Int.not_lt.mp hc)
        omega
      have h0 := Int.mul_nonneg h1 h3
      rw [w64 (by omega) (by omega), sat_id this]
  · have : y = 0 := by omega
    subst this
    rw [if_neg hy]
    simp [sat, wrap64, MT]

theorem tick_Add.eq (a b : Int) : tick_Add.f a b = some (sat (tof a + tof b)) := by
  unfold tick_Add.f
  simp only [tick_Of.eq, Option.bind_some]
  have h1 := tof_lo a; have h2 := tof_hi a; have h3 := tof_lo b; have h4 := tof_hi b
  unfold MT at *
  rw [w64 (by omega) (by omega), tof_of_nonneg (by omega)]


theorem usufructref01_Of.eq (a : Int) : usufructref01_Of.f a = some (tof a) := by
  unfold usufructref01_Of.f tof MT
  split <;> (try split) <;> (try split) <;> (try rfl) <;> omega
theorem usufructref01_Add.eq (a b : Int) : usufructref01_Add.f a b = some (sat (tof a + tof b)) := by
  unfold usufructref01_Add.f
  simp only [usufructref01_Of.eq, Option.bind_some]
  have h1 := tof_lo a; have h2 := tof_hi a; have h3 := tof_lo b; have h4 := tof_hi b
  unfold MT at *
  rw [w64 (by omega) (by omega), tof_of_nonneg (by omega)]
theorem sat_of_ge {x y : Int} (hx : MT ≤ x) (hy : MT ≤ y) : sat x = sat y := by rw [sat_big hx, sat_big hy]
theorem sat_step {x y m : Int} (hx : 0 ≤ x) (hy : 0 ≤ y) (hm : 0 ≤ m) : sat (sat x + sat y * m) = sat (x + y * m) := by
  have hxm := Int.mul_nonneg hy hm
  by_cases h1 : MT < x
  · have e := sat_big (a := x) (by omega)
    rw [e]
    have := Int.mul_nonneg (sat_nonneg hy) hm
    exact sat_of_ge (by omega) (by omega)
  · rw [sat_id (a := x) (by omega)]
    by_cases h2 : MT < y
    · rw [sat_big (a := y) (by omega)]
      by_cases h3 : m = 0
      · subst h3; simp
      · have a1 : MT * 1 ≤ MT * m := Int.mul_le_mul_of_nonneg_left (by omega) (by unfold MT; omega)
        have a2 : y * 1 ≤ y * m := Int.mul_le_mul_of_nonneg_left (by omega) (by omega)
        exact sat_of_ge (by omega) (by omega)
    · rw [sat_id (a := y) (by omega)]

theorem usufructref01_Times.loop : ∀ (d k : Nat) (a n out : Int), d < k → 0 ≤ a → a ≤ MT → 0 ≤ n → n < ((2 ^ d : Nat) : Int) → n ≤ MT → 0 ≤ out → out ≤ MT →
    usufructref01_Times.l0 k a n out = some (sat (out + a * n)) := by
  intro d
  induction d with
  | zero =>
    intro k a n out hk ha ha' hn hn' _ ho ho'
    obtain ⟨k, rfl⟩ : ∃ m, k = m + 1 := ⟨k - 1, by omega⟩
    have : n = 0 := by simp at hn'; omega
    subst this
    simp only [usufructref01_Times.l0]
    rw [if_neg (by omega), Int.mul_zero, Int.add_zero, sat_id ho']
  | succ d ih =>
    intro k a n out hk ha ha' hn hn' hnM ho ho'
    obtain ⟨k, rfl⟩ : ∃ m, k = m + 1 := ⟨k - 1, by omega⟩
    simp only [usufructref01_Times.l0]
    by_cases h0 : n > 0
    · rw [if_pos h0]
      have hp : ((2 ^ (d + 1) : Nat) : Int) = 2 * ((2 ^ d : Nat) : Int) := by rw [Nat.pow_succ]; omega
      have ht : Int.tdiv n 2 = n / 2 := Int.tdiv_eq_ediv_of_nonneg hn
      have hm : Int.tmod n 2 = n % 2 := Int.tmod_eq_emod_of_nonneg hn
      rw [ht, hm, w64 (a := n / 2) (by omega) (by unfold MT at *; omega)]
      simp only [usufructref01_Add.eq, Option.bind_some, tof_id ha ha', tof_id ho ho']
      by_cases h1 : n % 2 = 1
      · rw [if_pos h1, ih k _ _ _ (by omega) (sat_nonneg (by omega)) sat_le (by omega) (by omega) (by omega) (sat_nonneg (by omega)) sat_le, sat_step (by omega) (by omega) (by omega)]
        have : out + a * n = out + a + (a + a) * (n / 2) := by
          have e : n = 2 * (n / 2) + 1 := by omega
          generalize n / 2 = m at e
          subst e
          rw [Int.mul_add, Int.add_mul, ← Int.mul_assoc, Int.mul_comm a 2, Int.mul_assoc]
          omega
        rw [this]
      · rw [if_neg h1, ih k _ _ _ (by omega) (sat_nonneg (by omega)) sat_le (by omega) (by omega) (by omega) ho ho']
        have h2 := sat_step (x := out) (y := a + a) (m := n / 2) ho (by omega) (by omega)
        rw [sat_id (a := out) ho'] at h2
        rw [h2]
        have : out + a * n = out + (a + a) * (n / 2) := by
          have e : n = 2 * (n / 2) := by omega
          generalize n / 2 = m at e
          subst e
          rw [Int.add_mul, ← Int.mul_assoc, Int.mul_comm a 2, Int.mul_assoc]
          omega
        rw [this]
    · have : n = 0 := by omega
      subst this
      rw [if_neg h0, Int.mul_zero, Int.add_zero, sat_id ho']

theorem usufructref01_Times.eq (a n : Int) {k : Nat} (hk : 42 ≤ k) : usufructref01_Times.f k a n = some (sat (tof a * tof n)) := by
  unfold usufructref01_Times.f
  simp only [usufructref01_Of.eq, Option.bind_some]
  rw [usufructref01_Times.loop 41 k _ _ _ (by omega) (tof_lo a) (tof_hi a) (tof_lo n) (by have := tof_hi n; unfold MT at *; omega) (tof_hi n) (by omega) (by unfold MT; omega), Int.zero_add]

end Go.Proofs.Ytookpfpmobbhiaa.Q
end

section
namespace Go.Proofs.Ytookpfpmobbhiaa.Q
set_option linter.unusedVariables false
open Go.RowKit Go.Proofs.YtookpfpmobbhiaaW.PrintWords Go.Proofs.YtookpfpmobbhiaaW.PrintLast Go.Proofs.YtookpfpmobbhiaaW.PrintMore

theorem addT_eq (a b : Int) : addT a b = sat (tof a + tof b) := Option.some.inj ((addT_f a b).symm.trans (tick_Add.eq a b))
theorem ofT_eq (a : Int) : ofT a = tof a := Option.some.inj ((ofT_f a).symm.trans (tick_Of.eq a))
theorem sat_add {s y : Int} (hs : 0 ≤ s) (hy : 0 ≤ y) : sat (sat s + y) = sat (s + y) := by
  have := sat_step (x := s) (y := y) (m := 1) hs hy (by omega)
  by_cases h : s ≤ MT
  · rw [sat_id h]
  · rw [sat_big (a := s) (by omega), sat_big (by omega), sat_big (by omega)]
theorem tof_sat {s : Int} (hs : 0 ≤ s) : tof (sat s) = sat s := tof_id (sat_nonneg hs) sat_le
theorem addT_sat {s : Int} (hs : 0 ≤ s) (x : Int) : addT (sat s) x = sat (s + tof x) := by rw [addT_eq, tof_sat hs, sat_add hs (tof_lo x)]
theorem ref_add {s : Int} (hs : 0 ≤ s) (x : Int) : usufructref01_Add.f (sat s) x = some (sat (s + tof x)) := by rw [usufructref01_Add.eq, tof_sat hs, sat_add hs (tof_lo x)]

/-- A sum of numbers that are not negative. -/
def sumF {α : Type} (f : α → Int) (l : List α) : Int := (l.map f).sum
theorem sumF_nil {α : Type} (f : α → Int) : sumF f [] = 0 := rfl
theorem sumF_cons {α : Type} (f : α → Int) (a : α) (l : List α) : sumF f (a :: l) = f a + sumF f l := by unfold sumF; rw [List.map_cons, List.sum_cons]
theorem sumF_nonneg {α : Type} {f : α → Int} (hf : ∀ x, 0 ≤ f x) : ∀ l : List α, 0 ≤ sumF f l
  | [] => Int.le_refl _
  | a :: l => by rw [sumF_cons]; have := hf a; have := sumF_nonneg hf l; omega
theorem sumF_drop {α : Type} (f : α → Int) (l : List α) (j : Nat) (h : j < l.length) : sumF f (l.drop j) = f l[j] + sumF f (l.drop (j + 1)) := by
  rw [List.drop_eq_getElem_cons h, sumF_cons]

theorem foldT : ∀ (xs : List Int) (s : Int), 0 ≤ s → xs.foldl addT (sat s) = sat (s + sumF tof xs)
  | [], s, hs => by rw [List.foldl_nil, sumF_nil, Int.add_zero]
  | x :: xs, s, hs => by rw [List.foldl_cons, addT_sat hs, foldT xs _ (by have := tof_lo x; omega), sumF_cons, Int.add_assoc]
theorem sat_zero : sat 0 = 0 := rfl
theorem sumT_eq (xs : List Int) : sumT xs = sat (sumF tof xs) := by
  have := foldT xs 0 (Int.le_refl _)
  rw [sat_zero, Int.zero_add] at this
  exact this

/-- A step's emissions. -/
def stE (s : S49) : Int := tof s.f3.f0 + tof s.f4.f0 + 2
theorem stE_nonneg (s : S49) : 0 ≤ stE s := by unfold stE; have := tof_lo s.f3.f0; have := tof_lo s.f4.f0; omega
theorem foldE : ∀ (l : List S49) (s : Int), 0 ≤ s → (emL l).foldl addT (sat s) = sat (s + sumF stE l)
  | [], s, hs => by rw [show emL [] = [] from rfl, List.foldl_nil, sumF_nil, Int.add_zero]
  | a :: l, s, hs => by
    have h1 := tof_lo a.f3.f0
    have h2 := tof_lo a.f4.f0
    have e : emL (a :: l) = addT a.f3.f0 a.f4.f0 :: 2 :: emL l := by unfold emL; rw [List.flatMap_cons]; rfl
    rw [e, List.foldl_cons, List.foldl_cons, addT_sat hs, addT_sat (by have := tof_lo (addT a.f3.f0 a.f4.f0); omega)]
    have e2 : sat (s + tof (addT a.f3.f0 a.f4.f0) + tof 2) = sat (s + stE a) := by
      rw [addT_eq, tof_sat (by omega), show tof 2 = 2 from rfl]
      unfold stE
      by_cases hb : tof a.f3.f0 + tof a.f4.f0 ≤ MT
      · rw [sat_id hb, Int.add_assoc]
      · rw [sat_big (a := tof a.f3.f0 + tof a.f4.f0) (by omega), sat_big (by omega), sat_big (by omega)]
    rw [e2, foldE l _ (by have := stE_nonneg a; omega), sumF_cons, Int.add_assoc]
def emE (l : List S49) : Int := sat (sumF stE l)
theorem emE_nonneg (l : List S49) : 0 ≤ emE l := sat_nonneg (sumF_nonneg stE_nonneg l)
theorem emE_le (l : List S49) : emE l ≤ MT := sat_le
theorem sumT_em (l : List S49) : sumT (emL l) = emE l := by
  have := foldE l 0 (Int.le_refl _)
  rw [sat_zero, Int.zero_add] at this
  exact this

theorem refEm_loop (l : List S49) (nm : ByteArray) (dl : Int) (hl : l.length < 1000000) : ∀ (d i k : Nat) (s : Int), i + d = l.length → d < k → 0 ≤ s →
    usufructref25_Emissions.l0 k (sat s) (i : Int) nm dl l = some (sat (s + sumF stE (l.drop i))) := by
  intro d
  induction d with
  | zero =>
    intro i k s hi hk hs
    obtain ⟨k, rfl⟩ : ∃ m, k = m + 1 := ⟨k - 1, by omega⟩
    rw [usufructref25_Emissions.l0, if_neg (by omega), show i = l.length by omega, List.drop_length, sumF_nil, Int.add_zero]
  | succ d ih =>
    intro i k s hi hk hs
    obtain ⟨k, rfl⟩ : ∃ m, k = m + 1 := ⟨k - 1, by omega⟩
    have hlt : i < l.length := by omega
    have h1 := tof_lo l[i].f3.f0
    have h2 := tof_lo l[i].f4.f0
    rw [usufructref25_Emissions.l0, if_pos (by omega), if_pos (by omega), rd_ST l i hlt, ref_add hs, Option.bind_some, ref_add (by omega), Option.bind_some, ref_add (by omega), Option.bind_some]
    rw [w64 (by omega) (by omega), show ((i : Int) + 1) = ((i + 1 : Nat) : Int) by omega, ih (i + 1) k _ (by omega) (by omega) (by rw [show tof 2 = 2 from rfl]; omega), sumF_drop stE l i hlt, show tof 2 = 2 from rfl]
    unfold stE
    congr 2
    omega
theorem refEm_eq (l : List S49) (nm : ByteArray) (dl : Int) (hl : l.length < 1000000) {k : Nat} (hk : l.length < k) : usufructref25_Emissions.f k nm dl l = some (emE l) := by
  unfold usufructref25_Emissions.f
  have := refEm_loop l nm dl hl l.length 0 k 0 (by omega) hk (Int.le_refl _)
  rw [sat_zero, Int.zero_add] at this
  unfold emE
  simpa using this

theorem up_eq (a b : Int) : usufructref25_up.f a b = some (upT a b) := by
  unfold usufructref25_up.f upT
  rw [usufructref01_Of.eq, Option.bind_some, ofT_eq]
  split <;> rfl

theorem rd_PT (l : List S51) (j : Nat) (h : j < l.length) : rd_T51 l (j : Int) = l[j] := by
  unfold rd_T51
  rw [Int.toNat_natCast, List.getD_eq_getElem?_getD, List.getElem?_eq_getElem h]
  rfl
theorem longP (l1 : List S51) (hl : l1.length < 1000000) : ∀ (d i k : Nat) (n : Int), i + d = l1.length → d < k →
    usufructref25_Longest.l2 k l1 n (i : Int) = some (((l1.drop i).flatMap paW).foldl upT n) := by
  intro d
  induction d with
  | zero =>
    intro i k n hi hk
    obtain ⟨k, rfl⟩ : ∃ m, k = m + 1 := ⟨k - 1, by omega⟩
    rw [usufructref25_Longest.l2, if_neg (by omega), show i = l1.length by omega, List.drop_length]
    rfl
  | succ d ih =>
    intro i k n hi hk
    obtain ⟨k, rfl⟩ : ∃ m, k = m + 1 := ⟨k - 1, by omega⟩
    have hlt : i < l1.length := by omega
    rw [usufructref25_Longest.l2, if_pos (by omega), if_pos (by omega), rd_PT l1 i hlt, up_eq, Option.bind_some, w64 (by omega) (by omega), show ((i : Int) + 1) = ((i + 1 : Nat) : Int) by omega, ih (i + 1) k _ (by omega) (by omega), List.drop_eq_getElem_cons hlt, List.flatMap_cons, List.foldl_append]
    rfl
theorem longS (l0 : List S28) (l1 : List S51) (x5 : Int) (i : Nat) (hi : i < l0.length) (hl0 : l0.length < 1000000) (hls : l0[i].f2.length < 1000000) : ∀ (d j k : Nat) (n : Int), j + d = l0[i].f2.length → d ≤ k →
    usufructref25_Longest.l1 (k + 1) l0 l1 n (i : Int) (j : Int) = usufructref25_Longest.l0 (k - d) l0 l1 (((l0[i].f2.drop j).flatMap stW).foldl upT n) ((i + 1 : Nat) : Int) := by
  intro d
  induction d with
  | zero =>
    intro j k n hj hk
    rw [usufructref25_Longest.l1, if_pos (by omega), if_pos (by omega), rd_DF l0 i hi, if_neg (by omega), show j = l0[i].f2.length by omega, List.drop_length, w64 (by omega) (by omega)]
    rfl
  | succ d ih =>
    intro j k n hj hk
    have hlt : j < l0[i].f2.length := by omega
    obtain ⟨k, rfl⟩ : ∃ m, k = m + 1 := ⟨k - 1, by omega⟩
    rw [usufructref25_Longest.l1, if_pos (by omega), if_pos (by omega), rd_DF l0 i hi, if_pos (by omega), if_pos (by omega), rd_ST _ j hlt, up_eq, Option.bind_some, up_eq, Option.bind_some, up_eq, Option.bind_some, w64 (by omega) (by omega), show ((j : Int) + 1) = ((j + 1 : Nat) : Int) by omega, ih (j + 1) k _ (by omega) (by omega), List.drop_eq_getElem_cons hlt, List.flatMap_cons, List.foldl_append, show k + 1 - (d + 1) = k - d by omega]
    rfl
/-- How many rounds the longest wait takes. -/
def lgN (l0 : List S28) (l1 : List S51) : Nat := (l0.map fun d => d.f2.length + 2).sum + l1.length + 2
theorem longD (l0 : List S28) (l1 : List S51) (hl0 : l0.length < 1000000) (hl1 : l1.length < 1000000) (hls : ∀ d ∈ l0, d.f2.length < 1000000) : ∀ (d i k : Nat) (n : Int), i + d = l0.length → lgN (l0.drop i) l1 ≤ k →
    usufructref25_Longest.l0 k l0 l1 n (i : Int) = some ((waitL (l0.drop i) l1).foldl upT n) := by
  intro d
  induction d with
  | zero =>
    intro i k n hi hk
    have e : l0.drop i = [] := by rw [show i = l0.length by omega, List.drop_length]
    rw [e] at hk ⊢
    unfold lgN at hk
    simp only [List.map_nil, List.sum_nil] at hk
    obtain ⟨k, rfl⟩ : ∃ m, k = m + 1 := ⟨k - 1, by omega⟩
    rw [usufructref25_Longest.l0, if_neg (by omega)]
    have := longP l1 hl1 l1.length 0 k n (by omega) (by omega)
    simpa [waitL] using this
  | succ d ih =>
    intro i k n hi hk
    have hlt : i < l0.length := by omega
    have hl := hls _ (List.getElem_mem hlt)
    have e : lgN (l0.drop i) l1 = l0[i].f2.length + 2 + lgN (l0.drop (i + 1)) l1 := by
      unfold lgN
      rw [List.drop_eq_getElem_cons hlt, List.map_cons, List.sum_cons]
      omega
    obtain ⟨k, rfl⟩ : ∃ m, k = m + 1 + 1 := ⟨k - 2, by omega⟩
    rw [usufructref25_Longest.l0, if_pos (by omega)]
    have := longS l0 l1 0 i hlt hl0 hl l0[i].f2.length 0 k n (by omega) (by omega)
    rw [show ((0 : Nat) : Int) = 0 from rfl] at this
    rw [this, List.drop_zero, ih (i + 1) _ _ (by omega) (by omega)]
    unfold waitL
    rw [List.drop_eq_getElem_cons hlt, List.flatMap_cons]
    simp only [List.foldl_append]
    rfl
theorem long_eq (l0 : List S28) (l1 : List S51) (hl0 : l0.length < 1000000) (hl1 : l1.length < 1000000) (hls : ∀ d ∈ l0, d.f2.length < 1000000) {k : Nat} (hk : lgN l0 l1 ≤ k) : usufructref25_Longest.f k l0 l1 = some (greT (waitL l0 l1)) := by
  unfold usufructref25_Longest.f
  have := longD l0 l1 hl0 hl1 hls l0.length 0 k 0 (by omega) hk
  simpa [greT] using this

theorem live_drop (l : List S44) (j : Nat) (h : j < l.length) : liveL (l.drop j) = (if isLive l[j] = true then [l[j]] else []) ++ liveL (l.drop (j + 1)) := by
  rw [List.drop_eq_getElem_cons h]
  unfold liveL
  rw [List.filter_cons]
  split <;> rfl
theorem live_loop (l0 : List S28) (l : List S44) (nx : Int) (hl : l.length < 1000000) : ∀ (d i k : Nat) (n : Int), i + d = l.length → d < k → 0 ≤ n → n ≤ i →
    usufructref25_Live.l0 k n (i : Int) l0 l nx = some (n + ((liveL (l.drop i)).length : Int)) := by
  intro d
  induction d with
  | zero =>
    intro i k n hi hk h0 h1
    obtain ⟨k, rfl⟩ : ∃ m, k = m + 1 := ⟨k - 1, by omega⟩
    rw [usufructref25_Live.l0, if_neg (by omega), show i = l.length by omega, List.drop_length]
    simp [liveL]
  | succ d ih =>
    intro i k n hi hk h0 h1
    obtain ⟨k, rfl⟩ : ∃ m, k = m + 1 := ⟨k - 1, by omega⟩
    have hlt : i < l.length := by omega
    rw [usufructref25_Live.l0, if_pos (by omega), if_pos (by omega), rd_SG l i hlt, live_drop l i hlt, w64 (a := n + 1) (by omega) (by omega), w64 (a := (i : Int) + 1) (by omega) (by omega), show ((i : Int) + 1) = ((i + 1 : Nat) : Int) by omega]
    by_cases c0 : l[i].f3 = 0
    · rw [if_pos c0, ih (i + 1) k _ (by omega) (by omega) (by omega) (by omega), if_pos (by unfold isLive; rw [c0]; rfl), List.length_append, List.length_singleton]
      congr 1
      push_cast
      omega
    · rw [if_neg c0]
      by_cases c1 : l[i].f3 = 1
      · rw [if_pos c1, ih (i + 1) k _ (by omega) (by omega) (by omega) (by omega), if_pos (by unfold isLive; rw [c1]; rfl), List.length_append, List.length_singleton]
        congr 1
        push_cast
        omega
      · rw [if_neg c1, ih (i + 1) k _ (by omega) (by omega) (by omega) (by omega), if_neg (by unfold isLive; simp [c0, c1])]
        rfl
theorem live_eq (l0 : List S28) (l : List S44) (nx : Int) (hl : l.length < 1000000) {k : Nat} (hk : l.length < k) : usufructref25_Live.f k l0 l nx = some ((liveL l).length : Int) := by
  unfold usufructref25_Live.f
  have := live_loop l0 l nx hl l.length 0 k 0 (by omega) hk (Int.le_refl _) (by omega)
  simpa using this
end Go.Proofs.Ytookpfpmobbhiaa.Q
end

section
namespace Go.Proofs.Ytookpfpmobbhiaa.Q
set_option linter.unusedVariables false
open Go.RowKit Go.Proofs.YtookpfpmobbhiaaW.PrintWords Go.Proofs.YtookpfpmobbhiaaW.PrintLast Go.Proofs.YtookpfpmobbhiaaW.PrintMore

theorem def_loop (l0 : List S28) (l1 : List S44) (nx : Int) (s : ByteArray) (hl : l0.length < 1000000) : ∀ (d i k : Nat), i + d = l0.length → d < k →
    usufructref16_Def.l0 k s (i : Int) l0 l1 nx = some (firstI (isNamed s) (l0.drop i) (i : Int)) := by
  intro d
  induction d with
  | zero =>
    intro i k hi hk
    obtain ⟨k, rfl⟩ : ∃ m, k = m + 1 := ⟨k - 1, by omega⟩
    rw [usufructref16_Def.l0, if_neg (by omega), show i = l0.length by omega, List.drop_length]
    rfl
  | succ d ih =>
    intro i k hi hk
    obtain ⟨k, rfl⟩ : ∃ m, k = m + 1 := ⟨k - 1, by omega⟩
    have hlt : i < l0.length := by omega
    rw [usufructref16_Def.l0, if_pos (by omega), if_pos (by omega), rd_DF l0 i hlt, firstI_at _ _ _ hlt, w64 (by omega) (by omega), show ((i : Int) + 1) = ((i + 1 : Nat) : Int) by omega]
    by_cases h : l0[i].f0.toList = s.toList
    · rw [if_pos h, if_pos (by unfold isNamed; rw [h]; exact beq_self_eq_true _)]
    · rw [if_neg h, ih (i + 1) k (by omega) (by omega), if_neg (by unfold isNamed; rw [beq_iff_eq]; exact h)]
theorem refdef_eq (l0 : List S28) (l1 : List S44) (nx : Int) (s : ByteArray) (hl : l0.length < 1000000) {k : Nat} (hk : l0.length < k) : usufructref16_Def.f k l0 l1 nx s = some (firstI (isNamed s) l0 0) := by
  unfold usufructref16_Def.f
  have := def_loop l0 l1 nx s hl l0.length 0 k (by omega) hk
  simpa using this

/-- What a saga adds. -/
def tkE (l0 : List S28) (x : S44) : Int := if isLive x = true then emE (defOf l0 x.f1).f2 else 0
theorem tkE_nonneg (l0 : List S28) (x : S44) : 0 ≤ tkE l0 x := by unfold tkE; split; exact emE_nonneg _; exact Int.le_refl _
theorem tkE_le (l0 : List S28) (x : S44) : tkE l0 x ≤ MT := by unfold tkE; split; exact emE_le _; decide
theorem emE_nil : emE [] = 0 := rfl
theorem sumT_ticks (l0 : List S28) : ∀ l1 : List S44, sumF tof (ticksL l0 l1) = sumF (tkE l0) l1
  | [] => rfl
  | a :: l => by
    have ih := sumT_ticks l0 l
    rw [sumF_cons]
    unfold ticksL liveL at ih ⊢
    rw [List.filter_cons]
    by_cases h : isLive a = true
    · rw [if_pos h, List.map_cons, sumF_cons, ih]
      unfold tkE tickOf
      rw [if_pos h, sumT_em, tof_id (emE_nonneg _) (emE_le _)]
    · rw [if_neg h, ih]
      unfold tkE
      rw [if_neg h, Int.zero_add]

theorem all_eq (a b c : Int) {k : Nat} (hk : 42 ≤ k) : usufructref25_All.f k a b c = bound_all.f a b c := by
  unfold usufructref25_All.f bound_all.f
  have e : usufructref01_Add.f a a = tick_Times.f 2 a := by
    rw [usufructref01_Add.eq, tick_Times.eq, show tof 2 = 2 from rfl, show tof a + tof a = 2 * tof a by omega]
  rw [e]
  simp only [usufructref01_Add.eq, usufructref01_Times.eq _ _ hk, tick_Add.eq, tick_Times.eq, Option.bind_some]
/-- A bound. -/
def allT (a b c : Int) : Int := sat (tof (sat (tof (sat (2 * tof a)) + tof (sat (tof b + 1)))) * tof (sat (tof c + 2)))
theorem bound_all_eq (a b c : Int) : bound_all.f a b c = some (allT a b c) := by
  unfold bound_all.f allT
  simp only [tick_Add.eq, tick_Times.eq, Option.bind_some]
  rfl

theorem ticks_loop (l0 : List S28) (l1 : List S44) (nx : Int) (lp : List S51) (hl0 : l0.length < 1000000) (hl1 : l1.length < 1000000) (hlp : lp.length < 1000000) (M : Nat) (hM : M < 1000000) (hls : ∀ d ∈ l0, d.f2.length ≤ M) : ∀ (d i k : Nat) (s : Int), i + d = l1.length → 2 * d + 1 + l0.length + l1.length + M + lgN l0 lp + 42 ≤ k → 0 ≤ s →
    usufructref25_Ticks.l0 k lp (sat s) (i : Int) l0 l1 nx = some (allT (sat (s + sumF (tkE l0) (l1.drop i))) ((liveL l1).length : Int) (greT (waitL l0 lp))) := by
  intro d
  induction d with
  | zero =>
    intro i k s hi hk hs
    obtain ⟨k, rfl⟩ : ∃ m, k = m + 1 := ⟨k - 1, by omega⟩
    rw [usufructref25_Ticks.l0, if_neg (by omega), live_eq l0 l1 nx hl1 (by omega), Option.bind_some, long_eq l0 lp hl0 hlp (fun d hd => by have := hls d hd; omega) (by omega), Option.bind_some, all_eq _ _ _ (by omega), bound_all_eq, Option.bind_some, show i = l1.length by omega, List.drop_length, sumF_nil, Int.add_zero]
  | succ d ih =>
    intro i k s hi hk hs
    obtain ⟨k, rfl⟩ : ∃ m, k = m + 1 + 1 := ⟨k - 2, by omega⟩
    have hlt : i < l1.length := by omega
    have hnx : wrap64 ((i : Int) + 1) = ((i + 1 : Nat) : Int) := by rw [w64 (by omega) (by omega)]; omega
    have hno : isLive l1[i] = false → usufructref25_Ticks.l0 k lp (sat s) (wrap64 ((i : Int) + 1)) l0 l1 nx = some (allT (sat (s + sumF (tkE l0) (l1.drop i))) ((liveL l1).length : Int) (greT (waitL l0 lp))) := fun hf => by
      rw [hnx, ih (i + 1) k s (by omega) (by omega) hs, sumF_drop (tkE l0) l1 i hlt]
      unfold tkE
      rw [hf, if_neg (by simp), Int.zero_add]
    have hyes : isLive l1[i] = true → usufructref25_Ticks.j1 (k + 1) lp (sat s) (i : Int) (firstI (isNamed l1[i].f1) l0 0) (decide (firstI (isNamed l1[i].f1) l0 0 ≥ 0)) l0 l1 nx = some (allT (sat (s + sumF (tkE l0) (l1.drop i))) ((liveL l1).length : Int) (greT (waitL l0 lp))) := fun hv => by
      have e : s + sumF (tkE l0) (l1.drop i) = s + emE (defOf l0 l1[i].f1).f2 + sumF (tkE l0) (l1.drop (i + 1)) := by
        rw [sumF_drop (tkE l0) l1 i hlt, show tkE l0 l1[i] = emE (defOf l0 l1[i].f1).f2 by unfold tkE; rw [if_pos hv], Int.add_assoc]
      rw [e, usufructref25_Ticks.j1]
      unfold defOf
      cases hf : l0.find? (isNamed l1[i].f1) with
      | none =>
        rw [firstI_none _ _ _ hf, if_neg (by simp), hnx, ih (i + 1) k s (by omega) (by omega) hs, Option.getD_none, emE_nil, Int.add_zero]
      | some dd =>
        obtain ⟨j, hj, e1, e2⟩ := firstI_some _ dd _ 0 hf
        rw [e1, Int.zero_add, if_pos (by simp), if_pos (by omega), if_pos (by omega), rd_DF l0 j hj, e2]
        have hm := hls dd (by rw [← e2]; exact List.getElem_mem hj)
        rw [refEm_eq dd.f2 _ _ (by omega) (by omega), Option.bind_some, ref_add hs, Option.bind_some, hnx, ih (i + 1) k _ (by omega) (by omega) (by have := tof_lo (emE dd.f2); omega), Option.getD_some, tof_id (emE_nonneg _) (emE_le _)]
    rw [usufructref25_Ticks.l0, if_pos (by omega), if_pos (by omega), rd_SG l1 i hlt, refdef_eq l0 l1 nx _ hl0 (by omega), Option.bind_some]
    by_cases c0 : l1[i].f3 = 0
    · rw [if_pos c0]
      exact hyes (by unfold isLive; rw [c0]; rfl)
    · rw [if_neg c0]
      by_cases c1 : l1[i].f3 = 1
      · rw [if_pos c1]
        exact hyes (by unfold isLive; rw [c1]; rfl)
      · rw [if_neg c1, usufructref25_Ticks.j1, if_neg (by simp)]
        exact hno (by unfold isLive; simp [c0, c1])

theorem ticks_eq (l0 : List S28) (l1 : List S44) (nx : Int) (lp : List S51) (hl0 : l0.length < 1000000) (hl1 : l1.length < 1000000) (hlp : lp.length < 1000000) (M : Nat) (hM : M < 1000000) (hls : ∀ d ∈ l0, d.f2.length ≤ M) {k : Nat} (hk : 2 * l1.length + 1 + l0.length + l1.length + M + lgN l0 lp + 42 ≤ k) :
    usufructref25_Ticks.f k l0 l1 nx lp = some (allT (sat (sumF (tkE l0) l1)) ((liveL l1).length : Int) (greT (waitL l0 lp))) := by
  unfold usufructref25_Ticks.f
  have := ticks_loop l0 l1 nx lp hl0 hl1 hlp M hM hls l1.length 0 k 0 (by omega) (by omega) (Int.le_refl _)
  rw [sat_zero, Int.zero_add] at this
  simpa using this
theorem bticks_eq (l0 : List S28) (l1 : List S44) (nx : Int) (lp : List S51) (hl0 : l0.length < 1000000) (hl1 : l1.length < 1000000) (hlp : lp.length < 1000000) (hls : ∀ d ∈ l0, d.f2.length < 1000000) :
    bound_Ticks.f l0 l1 nx lp = some (allT (sat (sumF (tkE l0) l1)) ((liveL l1).length : Int) (greT (waitL l0 lp))) := by
  unfold bound_Ticks.f
  rw [if_pos ⟨⟨⟨hl0, hlp⟩, hls⟩, hl1⟩, bound_all_eq, sumT_eq, sumT_ticks]

theorem small13_loop (nm : ByteArray) (dl : Int) (l : List S49) (hl : l.length < 1000000) : ∀ (d i k : Nat), i + d = l.length → d < k → ∃ r, usufructlaw13_Small.l0 k (i : Int) nm dl l = some r := by
  intro d
  induction d with
  | zero =>
    intro i k hi hk
    obtain ⟨k, rfl⟩ : ∃ m, k = m + 1 := ⟨k - 1, by omega⟩
    exact ⟨0, by rw [usufructlaw13_Small.l0, if_neg (by omega)]⟩
  | succ d ih =>
    intro i k hi hk
    obtain ⟨k, rfl⟩ : ∃ m, k = m + 1 := ⟨k - 1, by omega⟩
    obtain ⟨r, hr⟩ := ih (i + 1) k (by omega) (by omega)
    rw [usufructlaw13_Small.l0, if_pos (by omega), if_pos (by omega), w64 (by omega) (by omega), show ((i : Int) + 1) = ((i + 1 : Nat) : Int) by omega]
    split
    · exact ⟨_, rfl⟩
    · split
      · exact ⟨_, rfl⟩
      · exact ⟨r, hr⟩
theorem small13_eq (nm : ByteArray) (dl : Int) (l : List S49) {k : Nat} (hk : 43 ≤ k) : ∃ r, usufructlaw13_Small.f k nm dl l = some r ∧ (r = 0 → l.length ≤ 40) := by
  obtain ⟨k, rfl⟩ : ∃ m, k = m + 1 := ⟨k - 1, by omega⟩
  unfold usufructlaw13_Small.f
  by_cases h : (l.length : Int) > 40
  · rw [if_pos h, usufructlaw13_Small.j0, if_pos rfl]
    exact ⟨1, rfl, fun h => by cases h⟩
  · rw [if_neg h, usufructlaw13_Small.j0]
    obtain ⟨r, hr⟩ := small13_loop nm dl l (by omega) l.length 0 k (by omega) (by omega)
    split
    · exact ⟨1, rfl, fun h => by cases h⟩
    · exact ⟨r, by simpa using hr, fun _ => by omega⟩

theorem small16_l1 (l0 : List S28) (l1 : List S44) (nx : Int) (hl : l1.length < 1000000) : ∀ (d i k : Nat), i + d = l1.length → d < k → ∃ r, usufructlaw16_Small.l1 k (i : Int) l0 l1 nx = some r := by
  intro d
  induction d with
  | zero =>
    intro i k hi hk
    obtain ⟨k, rfl⟩ : ∃ m, k = m + 1 := ⟨k - 1, by omega⟩
    exact ⟨0, by rw [usufructlaw16_Small.l1, if_neg (by omega)]⟩
  | succ d ih =>
    intro i k hi hk
    obtain ⟨k, rfl⟩ : ∃ m, k = m + 1 := ⟨k - 1, by omega⟩
    obtain ⟨r, hr⟩ := ih (i + 1) k (by omega) (by omega)
    rw [usufructlaw16_Small.l1, if_pos (by omega), if_pos (by omega), w64 (by omega) (by omega), show ((i : Int) + 1) = ((i + 1 : Nat) : Int) by omega]
    split
    · exact ⟨_, rfl⟩
    · exact ⟨r, hr⟩
theorem small16_l0 (l0 : List S28) (l1 : List S44) (nx : Int) (hl0 : l0.length < 1000000) (hl : l1.length < 1000000) : ∀ (d i k : Nat), i + d = l0.length → d + l1.length + 44 < k → (∀ j, ∀ h : j < l0.length, j < i → l0[j].f2.length ≤ 40) → ∃ r, usufructlaw16_Small.l0 k (i : Int) l0 l1 nx = some r ∧ (r = 0 → ∀ d ∈ l0, d.f2.length ≤ 40) := by
  intro d
  induction d with
  | zero =>
    intro i k hi hk hb
    obtain ⟨k, rfl⟩ : ∃ m, k = m + 1 := ⟨k - 1, by omega⟩
    rw [usufructlaw16_Small.l0, if_neg (by omega)]
    obtain ⟨r, hr⟩ := small16_l1 l0 l1 nx hl l1.length 0 k (by omega) (by omega)
    refine ⟨r, by simpa using hr, fun _ d hd => ?_⟩
    obtain ⟨j, hj, rfl⟩ := List.getElem_of_mem hd
    exact hb j hj (by omega)
  | succ d ih =>
    intro i k hi hk hb
    obtain ⟨k, rfl⟩ : ∃ m, k = m + 1 := ⟨k - 1, by omega⟩
    have hlt : i < l0.length := by omega
    rw [usufructlaw16_Small.l0, if_pos (by omega), if_pos (by omega), w64 (by omega) (by omega), show ((i : Int) + 1) = ((i + 1 : Nat) : Int) by omega, rd_DF l0 i hlt]
    obtain ⟨r, hr, hr0⟩ := small13_eq l0[i].f0 l0[i].f1 l0[i].f2 (k := k) (by omega)
    rw [hr, Option.bind_some]
    by_cases h : r = 0
    · rw [if_pos h]
      refine ih (i + 1) k (by omega) (by omega) (fun j hj hji => ?_)
      by_cases hjj : j < i
      · exact hb j hj hjj
      · have : j = i := by omega
        subst this
        exact hr0 h
    · rw [if_neg h]
      exact ⟨2, rfl, fun h => by cases h⟩
theorem small16_eq (l0 : List S28) (l1 : List S44) (nx : Int) {k : Nat} (hk : 70 ≤ k) : ∃ r, usufructlaw16_Small.f k l0 l1 nx = some r ∧ (r = 0 → l0.length ≤ 6 ∧ l1.length ≤ 12 ∧ ∀ d ∈ l0, d.f2.length ≤ 40) := by
  obtain ⟨k, rfl⟩ : ∃ m, k = m + 1 := ⟨k - 1, by omega⟩
  unfold usufructlaw16_Small.f
  by_cases h : (l0.length : Int) > 6
  · rw [if_pos h, usufructlaw16_Small.j0, if_pos rfl]
    exact ⟨1, rfl, fun h => by cases h⟩
  · rw [if_neg h, usufructlaw16_Small.j0]
    by_cases h1 : (l1.length : Int) > 12
    · rw [if_pos (by simpa using h1)]
      exact ⟨1, rfl, fun h => by cases h⟩
    · rw [if_neg (by simpa using h1)]
      obtain ⟨r, hr, hz⟩ := small16_l0 l0 l1 nx (by omega) (by omega) l0.length 0 k (by omega) (by omega) (fun j _ h => by omega)
      exact ⟨r, by simpa using hr, fun h => ⟨by omega, by omega, hz h⟩⟩

theorem lgN_le (l0 : List S28) (lp : List S51) (M : Nat) (h : ∀ d ∈ l0, d.f2.length ≤ M) : lgN l0 lp ≤ l0.length * (M + 2) + lp.length + 2 := by
  have : ∀ l : List S28, (∀ d ∈ l, d.f2.length ≤ M) → (l.map fun d => d.f2.length + 2).sum ≤ l.length * (M + 2) := by
    intro l
    induction l with
    | nil => intro _; simp
    | cons a l ih =>
      intro h
      rw [List.map_cons, List.sum_cons, List.length_cons, Nat.succ_mul]
      have h1 := h a List.mem_cons_self
      have h2 := ih (fun d hd => h d (List.mem_cons_of_mem _ hd))
      omega
  unfold lgN
  have := this l0 h
  omega
end Go.Proofs.Ytookpfpmobbhiaa.Q
end

section
namespace Go.Proofs.Ytookpfpmobbhiaa.Q
set_option linter.unusedVariables false
open Go.RowKit Go.Proofs.YtookpfpmobbhiaaW.PrintWords Go.Proofs.YtookpfpmobbhiaaW.PrintLast Go.Proofs.YtookpfpmobbhiaaW.PrintMore

theorem wr64 {a : Int} (h : -9223372036854775808 ≤ a) (h' : a ≤ 9223372036854775807) : wrap64 a = a := by unfold wrap64; omega
/-- What At answers at place i. -/
def AtOk (s : ByteArray) (i : Int) (o : Option (Int × Int)) : Prop := ∃ c w : Int, o = some (c, w) ∧ 0 ≤ w ∧ w ≤ 4 ∧ (0 < w → i + w ≤ (s.size : Int))
theorem atok_zero (s : ByteArray) (i : Int) : AtOk s i (some (0, 0)) := ⟨0, 0, rfl, by omega, by omega, fun h => by omega⟩
theorem at_l0 {s : ByteArray} {i : Int} (h0 : 0 ≤ i) (hs : s.size ≤ 140737488351232) : ∀ (d : Nat) (k : Nat) (n v m j : Int), j + d = n → 1 ≤ j → n ≤ 4 → i + n ≤ (s.size : Int) → d < k → AtOk s i (usufructref02_At.l0 k s i n v m j) := by
  intro d
  induction d with
  | zero =>
    intro k n v m j hj hj1 hn hin hk
    obtain ⟨k, rfl⟩ : ∃ q, k = q + 1 := ⟨k - 1, by omega⟩
    rw [usufructref02_At.l0, if_neg (by omega)]
    have hok : AtOk s i (some (v, n)) := ⟨v, n, rfl, by omega, by omega, fun _ => hin⟩
    have hz := atok_zero s i
    split
    · exact hz
    · split
      · exact hz
      · split
        · split
          · exact hz
          · exact hok
        · exact hok
  | succ d ih =>
    intro k n v m j hj hj1 hn hin hk
    obtain ⟨k, rfl⟩ : ∃ q, k = q + 1 := ⟨k - 1, by omega⟩
    rw [usufructref02_At.l0, if_pos (by omega), wr64 (a := i + j) (by omega) (by omega), if_pos (by omega), if_pos (by omega), wr64 (a := j + 1) (by omega) (by omega)]
    have hz := atok_zero s i
    split
    · exact hz
    · split
      · exact hz
      · exact ih k n _ m (j + 1) (by omega) (by omega) hn hin (by omega)
theorem at_j5 {s : ByteArray} {i : Int} (h0 : 0 ≤ i) (h1 : i < (s.size : Int)) (hs : s.size ≤ 140737488351232) (k : Nat) (n v m : Int) (hn0 : 0 ≤ n) (hn : n ≤ 4) (hk : 8 ≤ k) : AtOk s i (usufructref02_At.j5 k s i n v m) := by
  obtain ⟨k, rfl⟩ : ∃ q, k = q + 1 + 1 := ⟨k - 2, by omega⟩
  rw [usufructref02_At.j5]
  have hz := atok_zero s i
  by_cases hn1 : n = 0
  · rw [if_pos hn1, usufructref02_At.j6, if_pos rfl]
    exact hz
  · rw [if_neg hn1, wr64 (a := i + n) (by omega) (by omega), usufructref02_At.j6]
    by_cases hi : i + n > (s.size : Int)
    · rw [decide_eq_true hi, if_pos rfl]
      exact hz
    · rw [decide_eq_false hi, if_neg (by simp)]
      exact at_l0 h0 hs (n - 1).toNat k n v m 1 (by omega) (by omega) hn (by omega) (by omega)
theorem at_j3 {s : ByteArray} {i : Int} (h0 : 0 ≤ i) (h1 : i < (s.size : Int)) (hs : s.size ≤ 140737488351232) (k : Nat) (c n v m : Int) (hn0 : 0 ≤ n) (hn : n ≤ 4) (hk : 10 ≤ k) : AtOk s i (usufructref02_At.j3 k s i c n v m) := by
  obtain ⟨k, rfl⟩ : ∃ q, k = q + 1 + 1 := ⟨k - 2, by omega⟩
  rw [usufructref02_At.j3]
  have hb : ∀ b, AtOk s i (usufructref02_At.j4 (k + 1) s i c n v m b) := fun b => by
    rw [usufructref02_At.j4]
    split
    · exact at_j5 h0 h1 hs k _ _ _ (by omega) (by omega) (by omega)
    · exact at_j5 h0 h1 hs k _ _ _ hn0 hn (by omega)
  split <;> exact hb _
theorem at_j1 {s : ByteArray} {i : Int} (h0 : 0 ≤ i) (h1 : i < (s.size : Int)) (hs : s.size ≤ 140737488351232) (k : Nat) (c n v m : Int) (hn0 : 0 ≤ n) (hn : n ≤ 4) (hk : 12 ≤ k) : AtOk s i (usufructref02_At.j1 k s i c n v m) := by
  obtain ⟨k, rfl⟩ : ∃ q, k = q + 1 + 1 := ⟨k - 2, by omega⟩
  rw [usufructref02_At.j1]
  have hb : ∀ b, AtOk s i (usufructref02_At.j2 (k + 1) s i c n v m b) := fun b => by
    rw [usufructref02_At.j2]
    split
    · exact at_j3 h0 h1 hs k _ _ _ _ (by omega) (by omega) (by omega)
    · exact at_j3 h0 h1 hs k _ _ _ _ hn0 hn (by omega)
  split <;> exact hb _
theorem at_ok {s : ByteArray} {i : Int} (h0 : 0 ≤ i) (h1 : i < (s.size : Int)) (hs : s.size ≤ 140737488351232) {k : Nat} (hk : 13 ≤ k) : AtOk s i (usufructref02_At.f k s i) := by
  obtain ⟨k, rfl⟩ : ∃ q, k = q + 1 := ⟨k - 1, by omega⟩
  unfold usufructref02_At.f
  rw [if_pos h0, if_pos h1]
  have hb : ∀ b, AtOk s i (usufructref02_At.j0 (k + 1) s i (bt s i) 0 0 0 b) := fun b => by
    rw [usufructref02_At.j0]
    split
    · exact at_j1 h0 h1 hs k _ _ _ _ (by omega) (by omega) (by omega)
    · exact at_j1 h0 h1 hs k _ _ _ _ (by omega) (by omega) (by omega)
  split
  · exact ⟨_, 1, rfl, by omega, by omega, fun _ => by omega⟩
  · split <;> exact hb _
theorem letter_ok (c : Int) : ∃ r, usufructref02_letter.f c = some r := by
  unfold usufructref02_letter.f
  repeat' split
  all_goals exact ⟨_, rfl⟩
theorem may_ok (c : Int) : ∃ r, usufructref02_may.f c = some r := by
  obtain ⟨r, hr⟩ := letter_ok c
  unfold usufructref02_may.f
  rw [hr, Option.bind_some]
  repeat' split
  all_goals exact ⟨_, rfl⟩
theorem runes_loop (s : ByteArray) (hs : s.size ≤ 140737488351232) : ∀ (d : Nat) (k : Nat) (n i : Int), 0 ≤ i → (s.size : Int) - i ≤ d → d + 14 ≤ k → ∃ r, usufructref02_Runes.l0 k s n i = some r := by
  intro d
  induction d with
  | zero =>
    intro k n i h0 hd hk
    obtain ⟨k, rfl⟩ : ∃ q, k = q + 1 := ⟨k - 1, by omega⟩
    exact ⟨n, by rw [usufructref02_Runes.l0, if_neg (by omega)]⟩
  | succ d ih =>
    intro k n i h0 hd hk
    obtain ⟨k, rfl⟩ : ∃ q, k = q + 1 := ⟨k - 1, by omega⟩
    rw [usufructref02_Runes.l0]
    by_cases hi : i < (s.size : Int)
    · obtain ⟨c, w, hw, w0, w4, wi⟩ := at_ok h0 hi hs (k := k) (by omega)
      rw [if_pos hi, hw, Option.bind_some]
      dsimp only
      by_cases hz : w = 0
      · rw [if_pos hz, wr64 (a := i + 1) (by omega) (by omega)]
        exact ih k _ _ (by omega) (by omega) (by omega)
      · rw [if_neg hz, wr64 (a := i + w) (by omega) (by omega)]
        exact ih k _ _ (by omega) (by omega) (by omega)
    · rw [if_neg hi]
      exact ⟨n, rfl⟩
theorem good_loop (s : ByteArray) (hs : s.size ≤ 140737488351232) : ∀ (d : Nat) (k : Nat) (i : Int), 0 ≤ i → (s.size : Int) - i ≤ d → d + s.size + 20 ≤ k → ∃ r, usufructref02_Good.l0 k s i = some r := by
  intro d
  induction d with
  | zero =>
    intro k i h0 hd hk
    obtain ⟨k, rfl⟩ : ∃ q, k = q + 1 := ⟨k - 1, by omega⟩
    rw [usufructref02_Good.l0, if_neg (by omega)]
    obtain ⟨r, hr⟩ := runes_loop s hs s.size k 0 0 (by omega) (by omega) (by omega)
    unfold usufructref02_Runes.f
    rw [hr]
    split <;> exact ⟨_, rfl⟩
  | succ d ih =>
    intro k i h0 hd hk
    obtain ⟨k, rfl⟩ : ∃ q, k = q + 1 := ⟨k - 1, by omega⟩
    rw [usufructref02_Good.l0]
    by_cases hi : i < (s.size : Int)
    · obtain ⟨c, w, hw, w0, w4, wi⟩ := at_ok h0 hi hs (k := k) (by omega)
      rw [if_pos hi, hw, Option.bind_some]
      dsimp only
      by_cases hz : w = 0
      · rw [if_pos hz]
        exact ⟨_, rfl⟩
      · obtain ⟨rm, hrm⟩ := may_ok c
        obtain ⟨rl, hrl⟩ := letter_ok c
        have hn := ih k (i + w) (by omega) (by omega) (by omega)
        rw [if_neg hz, hrm, Option.bind_some, hrl, Option.bind_some, wr64 (a := i + w) (by omega) (by omega)]
        repeat' split
        all_goals first | exact hn | exact ⟨_, rfl⟩
    · rw [if_neg hi]
      obtain ⟨r, hr⟩ := runes_loop s hs s.size k 0 0 (by omega) (by omega) (by omega)
      unfold usufructref02_Runes.f
      rw [hr]
      split <;> exact ⟨_, rfl⟩
theorem good_ok (s : ByteArray) (hs : s.size ≤ 140737488351232) {k : Nat} (hk : 2 * s.size + 20 ≤ k) : ∃ r, usufructref02_Good.f k s = some r := by
  unfold usufructref02_Good.f
  exact good_loop s hs s.size k 0 (by omega) (by omega) (by omega)
end Go.Proofs.Ytookpfpmobbhiaa.Q
end

section
namespace Go.Proofs.Ytookpfpmobbhiaa.Walk
set_option linter.unusedVariables false
set_option linter.unusedSimpArgs false
open Go.RowKit Go.Proofs.Ytookpfpmobbhiaa.Q Go.Proofs.YtookpfpmobbhiaaW.PrintWords Go.Proofs.YtookpfpmobbhiaaW.PrintLast Go.Proofs.YtookpfpmobbhiaaW.PrintMore Go.Proofs.Ytookpfpmobbhiaa.Opn

theorem plan_ok (a b c d : Int) : ∃ r, usufructref11_Good.f a b c d = some r := by
  unfold usufructref11_Good.f
  repeat' split
  all_goals exact ⟨_, rfl⟩

/-- The document's check answers, whatever the definition. -/
theorem check_l1 (nm : ByteArray) (dl : Int) (l : List S49) (M : Nat) (i : Nat) (hi : i < l.length) (hl : l.length ≤ 32) (s p : ByteArray) (t r1 r2 r3 r4 u1 u2 u3 u4 pr : Int) (K : Nat) (hgo : ∀ k, K ≤ k → ∃ r, usufructref13_Check.l0 k ((i + 1 : Nat) : Int) nm dl l = some r) : ∀ (d j k : Nat), j + d = i → K + d + 3 ≤ k →
    ∃ r, usufructref13_Check.l1 k (i : Int) (j : Int) nm dl l s p t r1 r2 r3 r4 u1 u2 u3 u4 pr = some r := by
  intro d
  induction d with
  | zero =>
    intro j k hj hk
    obtain ⟨k, rfl⟩ : ∃ q, k = q + 1 + 1 := ⟨k - 2, by omega⟩
    rw [usufructref13_Check.l1, if_neg (by omega)]
    have hb : ∀ b, ∃ r, usufructref13_Check.j4 (k + 1) (i : Int) b nm dl l s p t r1 r2 r3 r4 u1 u2 u3 u4 pr = some r := fun b => by
      rw [usufructref13_Check.j4]
      obtain ⟨g1, hg1⟩ := plan_ok r1 r2 r3 r4
      obtain ⟨g2, hg2⟩ := plan_ok u1 u2 u3 u4
      have hn := hgo k (by omega)
      rw [hg1, Option.bind_some, hg2, Option.bind_some, wr64 (a := (i : Int) + 1) (by omega) (by omega), show ((i : Int) + 1) = ((i + 1 : Nat) : Int) by omega]
      repeat' split
      all_goals first | exact hn | exact ⟨_, rfl⟩
    repeat' split
    all_goals exact hb _
  | succ d ih =>
    intro j k hj hk
    obtain ⟨k, rfl⟩ : ∃ q, k = q + 1 := ⟨k - 1, by omega⟩
    rw [usufructref13_Check.l1, if_pos (by omega), if_pos (by omega), if_pos (by omega), wr64 (a := (j : Int) + 1) (by omega) (by omega), show ((j : Int) + 1) = ((j + 1 : Nat) : Int) by omega]
    split
    · exact ⟨_, rfl⟩
    · exact ih (j + 1) k (by omega) (by omega)
theorem check_l0 (nm : ByteArray) (dl : Int) (l : List S49) (M : Nat) (hl : l.length ≤ 32) (hM : M ≤ 140737488351232) (hs : ∀ x ∈ l, x.f0.size ≤ M ∧ x.f1.size ≤ M) : ∀ (d i k : Nat), i + d = l.length → 40 * d + 2 * M + 30 ≤ k → ∃ r, usufructref13_Check.l0 k (i : Int) nm dl l = some r := by
  intro d
  induction d with
  | zero =>
    intro i k hi hk
    obtain ⟨k, rfl⟩ : ∃ q, k = q + 1 := ⟨k - 1, by omega⟩
    exact ⟨_, by rw [usufructref13_Check.l0, if_neg (by omega)]⟩
  | succ d ih =>
    intro i k hi hk
    obtain ⟨k, rfl⟩ : ∃ q, k = q + 1 + 1 := ⟨k - 2, by omega⟩
    have hlt : i < l.length := by omega
    obtain ⟨m0, m1⟩ := hs _ (List.getElem_mem hlt)
    rw [usufructref13_Check.l0, if_pos (by omega), if_pos (by omega), rd_ST l i hlt]
    obtain ⟨g0, hg0⟩ := good_ok l[i].f0 (by omega) (k := k + 1) (by omega)
    obtain ⟨g1, hg1⟩ := good_ok l[i].f1 (by omega) (k := k + 1) (by omega)
    have hb : ∀ b, ∃ r, usufructref13_Check.j2 (k + 1) (i : Int) b nm dl l l[i].f0 l[i].f1 l[i].f2 l[i].f3.f0 l[i].f3.f1 l[i].f3.f2 l[i].f3.f3 l[i].f4.f0 l[i].f4.f1 l[i].f4.f2 l[i].f4.f3 l[i].f5 = some r := fun b => by
      rw [usufructref13_Check.j2]
      split
      · exact ⟨_, rfl⟩
      · have := check_l1 nm dl l M i hlt hl l[i].f0 l[i].f1 l[i].f2 l[i].f3.f0 l[i].f3.f1 l[i].f3.f2 l[i].f3.f3 l[i].f4.f0 l[i].f4.f1 l[i].f4.f2 l[i].f4.f3 l[i].f5 (40 * d + 2 * M + 30) (fun k hk => ih (i + 1) k (by omega) hk) i 0 k (by omega) (by omega)
        simpa using this
    rw [hg0, Option.bind_some, hg1, Option.bind_some]
    split
    · exact hb _
    · exact hb _
theorem check_ok (nm : ByteArray) (dl : Int) (l : List S49) (M : Nat) (hM : M ≤ 140737488351232) (hnm : nm.size ≤ M) (hs : ∀ x ∈ l, x.f0.size ≤ M ∧ x.f1.size ≤ M) {k : Nat} (hk : 1400 + 2 * M ≤ k) : ∃ r1 r2, usufructref13_Check.f k nm dl l = some (r1, r2) := by
  unfold usufructref13_Check.f
  obtain ⟨g, hg⟩ := good_ok nm (by omega) (k := k) (by omega)
  have hb : ∀ b, ∃ r, usufructref13_Check.j0 k b nm dl l = some r := fun b => by
    obtain ⟨k, rfl⟩ : ∃ q, k = q + 1 := ⟨k - 1, by omega⟩
    rw [usufructref13_Check.j0]
    split
    · exact ⟨_, rfl⟩
    · split
      · exact ⟨_, rfl⟩
      · split
        · exact ⟨_, rfl⟩
        · have := check_l0 nm dl l M (by omega) hM hs l.length 0 k (by omega) (by omega)
          simpa using this
  have e : ∃ r : Int × Int, ((usufructref02_Good.f k nm).bind fun t194 => (if t194 = true then (if dl < 0 then (usufructref13_Check.j0 k true nm dl l) else (usufructref13_Check.j0 k (decide (dl > 1099511627776)) nm dl l)) else (some ((-1), 10)))) = some r := by
    rw [hg, Option.bind_some]
    split
    · split <;> exact hb _
    · exact ⟨_, rfl⟩
  obtain ⟨⟨r1, r2⟩, hr⟩ := e
  exact ⟨r1, r2, hr⟩

theorem allT_mono {a a' b b' : Int} (c : Int) (ha : a ≤ a') (hb : b ≤ b') : allT a b c ≤ allT a' b' c := by
  unfold allT
  refine sat_mono (Int.mul_le_mul_of_nonneg_right (tof_mono (sat_mono ?_)) (tof_lo _))
  have h1 := tof_mono ha
  have h2 := tof_mono hb
  have h3 := tof_mono (sat_mono (show 2 * tof a ≤ 2 * tof a' by omega))
  have h4 := tof_mono (sat_mono (show tof b + 1 ≤ tof b' + 1 by omega))
  omega
theorem defOf_one (nm : ByteArray) (dl : Int) (ls : List S49) : defOf [⟨nm, dl, ls⟩] nm = ⟨nm, dl, ls⟩ := by
  unfold defOf
  rw [List.find?_cons, show isNamed nm ⟨nm, dl, ls⟩ = true from beq_self_eq_true _]
  rfl
theorem live_sum (nm : ByteArray) (dl : Int) (ls : List S49) : ∀ S : List S44, (∀ x ∈ S, x.f1 = nm) → sumF (tkE [⟨nm, dl, ls⟩]) S = ((liveL S).length : Int) * emE ls
  | [], _ => by rw [sumF_nil]; simp [liveL]
  | a :: S, h => by
    have ih := live_sum nm dl ls S (fun x hx => h x (List.mem_cons_of_mem _ hx))
    have ha := h a List.mem_cons_self
    rw [sumF_cons, ih]
    unfold liveL tkE
    rw [List.filter_cons, ha, defOf_one]
    by_cases hv : isLive a = true
    · rw [if_pos hv, if_pos hv, List.length_cons, show ((((S.filter isLive).length + 1 : Nat)) : Int) = ((S.filter isLive).length : Int) + 1 by omega, Int.add_mul, Int.one_mul, Int.add_comm]
    · rw [if_neg hv, if_neg hv, Int.zero_add]
/-- The bound of a state with so many live sagas of one definition. -/
def covT (ls : List S49) (L : Int) (g : Int) : Int := allT (sat (L * emE ls)) L g
theorem cov_ticks (nm : ByteArray) (dl : Int) (ls : List S49) (S : List S44) (nx : Int) (lp : List S51) (hls : ls.length ≤ 40) (hlp : lp.length ≤ 20) (hS : ∀ x ∈ S, x.f1 = nm) (hn : S.length ≤ 20) :
    bound_Ticks.f [⟨nm, dl, ls⟩] S nx lp = some (covT ls ((liveL S).length : Int) (greT (waitL [⟨nm, dl, ls⟩] lp))) := by
  rw [bticks_eq _ _ _ _ (by simp) (by omega) (by omega) (fun d hd => by rw [List.mem_singleton] at hd; rw [hd]; show ls.length < _; omega), live_sum nm dl ls S hS]
  rfl
theorem cov_total (nm : ByteArray) (dl : Int) (ls : List S49) (L : Nat) (lp : List S51) (hls : ls.length ≤ 40) (hlp : lp.length ≤ 20) (hL : L ≤ 20) :
    bound_Total.f nm dl ls lp (L : Int) = some (covT ls (L : Int) (greT (waitL [⟨nm, dl, ls⟩] lp))) := by
  unfold bound_Total.f covT
  rw [if_pos ⟨by omega, by omega⟩, tick_Times.eq, Option.bind_some, bound_all_eq, sumT_em, ofT_eq, tof_id (emE_nonneg ls) (emE_le ls), tof_id (a := (L : Int)) (by omega) (by unfold MT; omega), tof_id (a := (L : Int)) (by omega) (by unfold MT; omega), Int.mul_comm]
theorem live_le (S : List S44) : (liveL S).length ≤ S.length := List.length_filter_le _ _
theorem live_snoc (S : List S44) (x : S44) : (liveL S).length ≤ (liveL (S ++ [x])).length := by
  unfold liveL
  rw [List.filter_append, List.length_append]
  omega
theorem cov_loop (nm : ByteArray) (dl : Int) (ls : List S49) (lp : List S51) (ph : List Int) (nx : Int) (hls : ls.length ≤ 40) (hlp : lp.length ≤ 20) (hph : ph.length ≤ 20) : ∀ (d i k : Nat) (S : List S44), i + d = ph.length → d < k → S.length = i → (∀ x ∈ S, x.f1 = nm) →
    usufructlaw25_BoundCovers.l0 k lp ph (covT ls ((liveL S).length : Int) (greT (waitL [⟨nm, dl, ls⟩] lp))) (i : Int) nm dl ls [⟨nm, dl, ls⟩] S nx = some true := by
  intro d
  induction d with
  | zero =>
    intro i k S hi hk hSl hS
    obtain ⟨k, rfl⟩ : ∃ m, k = m + 1 := ⟨k - 1, by omega⟩
    rw [usufructlaw25_BoundCovers.l0, if_neg (by omega), show bound_Emissions.f nm dl ls = some (emE ls) by unfold bound_Emissions.f; rw [if_pos (by omega), sumT_em], Option.bind_some, wr64 (by omega) (by omega)]
    have h2 : ∀ l : List S49, 2 * (l.length : Int) ≤ sumF stE l := by
      intro l
      induction l with
      | nil => simp [sumF_nil]
      | cons a l ih =>
        rw [sumF_cons, List.length_cons]
        unfold stE at ih ⊢
        have := tof_lo a.f3.f0
        have := tof_lo a.f4.f0
        push_cast
        omega
    have h3 := sat_mono (h2 ls)
    rw [sat_id (a := 2 * (ls.length : Int)) (by unfold MT; omega)] at h3
    rw [decide_eq_true (show emE ls ≥ 2 * (ls.length : Int) from h3)]
  | succ d ih =>
    intro i k S hi hk hSl hS
    obtain ⟨k, rfl⟩ : ∃ m, k = m + 1 := ⟨k - 1, by omega⟩
    rw [usufructlaw25_BoundCovers.l0, if_pos (by omega), if_pos (by omega), if_pos (by omega), Option.bind_some]
    obtain ⟨x, hx⟩ : ∃ x : S44, x = ⟨(i : Int), nm, 0, wrap64 (Int.tmod (rd ph (i : Int)) 6), 0, 0, false, 0, 0⟩ := ⟨_, rfl⟩
    rw [← hx]
    have hx1 : x.f1 = nm := by rw [hx]
    have hS' : ∀ y ∈ S ++ [x], y.f1 = nm := fun y hy => by
      rcases List.mem_append.1 hy with h | h
      · exact hS y h
      · rw [List.mem_singleton] at h
        rw [h]
        exact hx1
    have hl' : (S ++ [x]).length = i + 1 := by rw [List.length_append, List.length_singleton, hSl]
    have hlv := live_le (S ++ [x])
    rw [cov_ticks nm dl ls (S ++ [x]) nx lp hls hlp hS' (by omega), Option.bind_some]
    have hmono : covT ls ((liveL S).length : Int) (greT (waitL [⟨nm, dl, ls⟩] lp)) ≤ covT ls ((liveL (S ++ [x])).length : Int) (greT (waitL [⟨nm, dl, ls⟩] lp)) := by
      unfold covT
      have h1 := live_snoc S x
      exact allT_mono _ (sat_mono (Int.mul_le_mul_of_nonneg_right (by omega) (emE_nonneg ls))) (by omega)
    rw [if_neg (by omega), show bound_Live.f [⟨nm, dl, ls⟩] (S ++ [x]) nx = some ((liveL (S ++ [x])).length : Int) by unfold bound_Live.f; rw [if_pos (by omega)], Option.bind_some, cov_total nm dl ls _ lp hls hlp (by omega), Option.bind_some, if_neg (by omega), Option.bind_some, if_neg (by omega), wr64 (a := (i : Int) + 1) (by omega) (by omega), show ((i : Int) + 1) = ((i + 1 : Nat) : Int) by omega]
    exact ih (i + 1) k (S ++ [x]) (by omega) (by omega) hl' hS'

theorem BoundCovers.pure (nm : ByteArray) (dl : Int) (ls : List S49) (lp : List S51) (ph : List Int) (M : Nat) (hM : M ≤ 140737488351232) (hnm : nm.size ≤ M) (hs : ∀ x ∈ ls, x.f0.size ≤ M ∧ x.f1.size ≤ M) :
    usufructlaw25_BoundCovers.f (1400 + 2 * M) nm dl ls lp ph = some true := by
  obtain ⟨k, hk⟩ : ∃ k, 1400 + 2 * M = k + 1 := ⟨1399 + 2 * M, by omega⟩
  have hj : usufructlaw25_BoundCovers.j0 (1400 + 2 * M) lp ph true nm dl ls = some true := by
    rw [hk, usufructlaw25_BoundCovers.j0, if_pos rfl]
  obtain ⟨r1, r2, hr⟩ := check_ok nm dl ls M hM hnm hs (k := 1400 + 2 * M) (by omega)
  obtain ⟨r, hr3, hr0⟩ := small13_eq nm dl ls (k := 1400 + 2 * M) (by omega)
  unfold usufructlaw25_BoundCovers.f
  rw [show usufructlaw25_awake.f = some true from rfl, Option.bind_some, if_pos rfl, hr, Option.bind_some, hr3, Option.bind_some]
  by_cases h1 : r = 0
  · rw [if_pos h1]
    dsimp only
    by_cases h2 : r2 = 0
    · rw [if_pos h2]
      by_cases h3 : (lp.length : Int) > 20
      · rw [if_pos h3]
        exact hj
      · rw [if_neg h3]
        by_cases h4 : (ph.length : Int) > 20
        · rw [decide_eq_true h4]
          exact hj
        · have hls := hr0 h1
          rw [decide_eq_false h4, hk, usufructlaw25_BoundCovers.j0, if_neg (by simp), Option.bind_some, cov_ticks nm dl ls [] _ lp hls (by omega) (by simp) (by simp), Option.bind_some]
          exact cov_loop nm dl ls lp ph _ hls (by omega) (by omega) ph.length 0 k [] (by omega) (by omega) rfl (by simp)
    · rw [if_neg h2]
      exact hj
  · rw [if_neg h1]
    exact hj

theorem heap47 : Kd.Heap k47 := Kd.heap_iso _ (Kd.heap_pair (Kd.heap_int _) (Kd.heap_pair (Kd.heap_int _) (Kd.heap_pair (Kd.heap_int _) (Kd.heap_int _))))
theorem heap49 : Kd.Heap k49 := Kd.heap_iso _ (Kd.heap_pair Kd.heap_string (Kd.heap_pair Kd.heap_string (Kd.heap_pair (Kd.heap_int _) (Kd.heap_pair heap47 (Kd.heap_pair heap47 (Kd.heap_int _))))))
theorem BoundCovers.walk (w : World) (cs0 : Array Value) (x0 : S28) (A1 : Option Addr) (c1 : Nat) (l1 : List S51) (A2 : Option Addr) (c2 : Nat) (l2 : List Int)
    (hk0 : Kd.K k28 w x0 cs0.toList) (ok0 : (fun s : S28 => (fun x : ByteArray × Int × (List S49) => (fun x => x.size ≤ 140737488351232) x.1 ∧ (fun x => (Lit.int .i64 x).wf = true) x.2.1 ∧ (fun xs => xs.length ≤ maxLen ∧ ∀ x ∈ xs, (fun s : S49 => (fun x : ByteArray × ByteArray × Int × S47 × S47 × Int => (fun x => x.size ≤ 140737488351232) x.1 ∧ (fun x => x.size ≤ 140737488351232) x.2.1 ∧ (fun x => (Lit.int .i64 x).wf = true) x.2.2.1 ∧ (fun s : S47 => (fun x : Int × Int × Int × Int => (fun x => (Lit.int .i64 x).wf = true) x.1 ∧ (fun x => (Lit.int .i64 x).wf = true) x.2.1 ∧ (fun x => (Lit.int .i64 x).wf = true) x.2.2.1 ∧ (fun x => (Lit.int .i64 x).wf = true) x.2.2.2) (s.f0, (s.f1, (s.f2, s.f3)))) x.2.2.2.1 ∧ (fun s : S47 => (fun x : Int × Int × Int × Int => (fun x => (Lit.int .i64 x).wf = true) x.1 ∧ (fun x => (Lit.int .i64 x).wf = true) x.2.1 ∧ (fun x => (Lit.int .i64 x).wf = true) x.2.2.1 ∧ (fun x => (Lit.int .i64 x).wf = true) x.2.2.2) (s.f0, (s.f1, (s.f2, s.f3)))) x.2.2.2.2.1 ∧ (fun x => (Lit.int .i64 x).wf = true) x.2.2.2.2.2) (s.f0, (s.f1, (s.f2, (s.f3, (s.f4, s.f5)))))) x) x.2.2) (s.f0, (s.f1, s.f2))) x0) (hr1 : Kd.C k51 w A1 l1.length l1) (hc1 : l1.length ≤ c1) (hm1 : c1 ≤ maxLen) (ok1 : ∀ x ∈ l1, (fun s : S51 => (fun x : ByteArray × Int × Int × Int × Int => (fun x => x.size ≤ 140737488351232) x.1 ∧ (fun x => (Lit.int .i64 x).wf = true) x.2.1 ∧ (fun x => (Lit.int .i64 x).wf = true) x.2.2.1 ∧ (fun x => (Lit.int .i64 x).wf = true) x.2.2.2.1 ∧ (fun x => (Lit.int .i64 x).wf = true) x.2.2.2.2) (s.f0, (s.f1, (s.f2, (s.f3, s.f4))))) x) (hr2 : Kd.C (Kd.int .u8) w A2 l2.length l2) (hc2 : l2.length ≤ c2) (hm2 : c2 ≤ maxLen) (ok2 : ∀ x ∈ l2, (fun x => (Lit.int .u8 x).wf = true) x) :
    Calls Try.prog 4 #[.agg cs0, .slice A1 l1.length c1, .slice A2 l2.length c2] w fun e w' => e = .returned (.bool true) ∧ Below w.heap.size w w' := by
  obtain ⟨nm, dl, ls⟩ := x0
  obtain ⟨As, cs, e1, hcs, hrs⟩ := k28_open hk0
  obtain rfl : cs0 = #[.string nm, .int .i64 dl, .slice As ls.length cs] := Array.toList_inj.1 e1
  exact usufructlaw25_BoundCovers.calls (1400 + 2 * 140737488351232) nm dl (fun k => k < w.heap.size) As cs ls A1 c1 l1 A2 c2 l2 true w ⟨As, cs, rfl, hcs, Kd.C_F heap49 hrs⟩ hr1 hc1 hr2 hc2 (BoundCovers.pure nm dl ls l1 l2 140737488351232 (Nat.le_refl _) ok0.1 (fun x hx => ⟨(ok0.2.2.2 x hx).1, (ok0.2.2.2 x hx).2.1⟩)) rfl
end Go.Proofs.Ytookpfpmobbhiaa.Walk
end
