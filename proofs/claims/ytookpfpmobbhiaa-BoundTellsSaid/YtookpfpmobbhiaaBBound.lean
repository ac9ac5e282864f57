/- The bound's sums and the document's loops, in plain numbers: one and the same. -/
import Derived.Test.YtookpfpmobbhiaaBTickE
import Derived.Test.YtookpfpmobbhiaaGBoundTotal
import Derived.Test.YtookpfpmobbhiaaQx4
import Derived.Test.YtookpfpmobbhiaaQx13
import Derived.Test.YtookpfpmobbhiaaQx10
import Derived.Test.YtookpfpmobbhiaaQx7
namespace Go.Proofs.Ytookpfpmobbhiaa.Q
set_option linter.unusedVariables false
open Go.RowKit Go.Proofs.YtookpfpmobbhiaaW.PrintWords Go.Proofs.YtookpfpmobbhiaaW.PrintLast Go.Proofs.YtookpfpmobbhiaaW.PrintMore

theorem addT_eq (a b : Int) : addT a b = sat (tof a + tof b) := Option.some.inj ((addT_f a b).symm.trans (tick_Add.eq a b))
theorem ofT_eq (a : Int) : ofT a = tof a := Option.some.inj ((ofT_f a).symm.trans (tick_Of.eq a))
theorem sat_add {s y : Int} (hs : 0 ≤ s) (hy : 0 ≤ y) : sat (sat s + y) = sat (s + y) := by
  have := sat_step (x := s) (y := y) (m := 1) hs hy (by omega)
  by_cases h : s ≤ MT
  · rw [sat_id h]
  · rw [sat_big (a := s) (by omega), sat_big (by omega), sat_big (by omega)]
theorem tof_sat {s : Int} (hs : 0 ≤ s) : tof (sat s) = sat s := tof_id (sat_nonneg hs) sat_le
theorem addT_sat {s : Int} (hs : 0 ≤ s) (x : Int) : addT (sat s) x = sat (s + tof x) := by rw [addT_eq, tof_sat hs, sat_add hs (tof_lo x)]
theorem ref_add {s : Int} (hs : 0 ≤ s) (x : Int) : usufructref01_Add.f (sat s) x = some (sat (s + tof x)) := by rw [usufructref01_Add.eq, tof_sat hs, sat_add hs (tof_lo x)]

/-- A sum of numbers that are not negative. -/
def sumF {α : Type} (f : α → Int) (l : List α) : Int := (l.map f).sum
theorem sumF_nil {α : Type} (f : α → Int) : sumF f [] = 0 := rfl
theorem sumF_cons {α : Type} (f : α → Int) (a : α) (l : List α) : sumF f (a :: l) = f a + sumF f l := by unfold sumF; rw [List.map_cons, List.sum_cons]
theorem sumF_nonneg {α : Type} {f : α → Int} (hf : ∀ x, 0 ≤ f x) : ∀ l : List α, 0 ≤ sumF f l
  | [] => Int.le_refl _
  | a :: l => by rw [sumF_cons]; have := hf a; have := sumF_nonneg hf l; omega
theorem sumF_drop {α : Type} (f : α → Int) (l : List α) (j : Nat) (h : j < l.length) : sumF f (l.drop j) = f l[j] + sumF f (l.drop (j + 1)) := by
  rw [List.drop_eq_getElem_cons h, sumF_cons]

theorem foldT : ∀ (xs : List Int) (s : Int), 0 ≤ s → xs.foldl addT (sat s) = sat (s + sumF tof xs)
  | [], s, hs => by rw [List.foldl_nil, sumF_nil, Int.add_zero]
  | x :: xs, s, hs => by rw [List.foldl_cons, addT_sat hs, foldT xs _ (by have := tof_lo x; omega), sumF_cons, Int.add_assoc]
theorem sat_zero : sat 0 = 0 := rfl
theorem sumT_eq (xs : List Int) : sumT xs = sat (sumF tof xs) := by
  have := foldT xs 0 (Int.le_refl _)
  rw [sat_zero, Int.zero_add] at this
  exact this

/-- A step's emissions. -/
def stE (s : S49) : Int := tof s.f3.f0 + tof s.f4.f0 + 2
theorem stE_nonneg (s : S49) : 0 ≤ stE s := by unfold stE; have := tof_lo s.f3.f0; have := tof_lo s.f4.f0; omega
theorem foldE : ∀ (l : List S49) (s : Int), 0 ≤ s → (emL l).foldl addT (sat s) = sat (s + sumF stE l)
  | [], s, hs => by rw [show emL [] = [] from rfl, List.foldl_nil, sumF_nil, Int.add_zero]
  | a :: l, s, hs => by
    have h1 := tof_lo a.f3.f0
    have h2 := tof_lo a.f4.f0
    have e : emL (a :: l) = addT a.f3.f0 a.f4.f0 :: 2 :: emL l := by unfold emL; rw [List.flatMap_cons]; rfl
    rw [e, List.foldl_cons, List.foldl_cons, addT_sat hs, addT_sat (by have := tof_lo (addT a.f3.f0 a.f4.f0); omega)]
    have e2 : sat (s + tof (addT a.f3.f0 a.f4.f0) + tof 2) = sat (s + stE a) := by
      rw [addT_eq, tof_sat (by omega), show tof 2 = 2 from rfl]
      unfold stE
      by_cases hb : tof a.f3.f0 + tof a.f4.f0 ≤ MT
      · rw [sat_id hb, Int.add_assoc]
      · rw [sat_big (a := tof a.f3.f0 + tof a.f4.f0) (by omega), sat_big (by omega), sat_big (by omega)]
    rw [e2, foldE l _ (by have := stE_nonneg a; omega), sumF_cons, Int.add_assoc]
def emE (l : List S49) : Int := sat (sumF stE l)
theorem emE_nonneg (l : List S49) : 0 ≤ emE l := sat_nonneg (sumF_nonneg stE_nonneg l)
theorem emE_le (l : List S49) : emE l ≤ MT := sat_le
theorem sumT_em (l : List S49) : sumT (emL l) = emE l := by
  have := foldE l 0 (Int.le_refl _)
  rw [sat_zero, Int.zero_add] at this
  exact this

theorem refEm_loop (l : List S49) (nm : ByteArray) (dl : Int) (hl : l.length < 1000000) : ∀ (d i k : Nat) (s : Int), i + d = l.length → d < k → 0 ≤ s →
    usufructref25_Emissions.l0 k (sat s) (i : Int) nm dl l = some (sat (s + sumF stE (l.drop i))) := by
  intro d
  induction d with
  | zero =>
    intro i k s hi hk hs
    obtain ⟨k, rfl⟩ : ∃ m, k = m + 1 := ⟨k - 1, by omega⟩
    rw [usufructref25_Emissions.l0, if_neg (by omega), show i = l.length by omega, List.drop_length, sumF_nil, Int.add_zero]
  | succ d ih =>
    intro i k s hi hk hs
    obtain ⟨k, rfl⟩ : ∃ m, k = m + 1 := ⟨k - 1, by omega⟩
    have hlt : i < l.length := by omega
    have h1 := tof_lo l[i].f3.f0
    have h2 := tof_lo l[i].f4.f0
    rw [usufructref25_Emissions.l0, if_pos (by omega), if_pos (by omega), rd_ST l i hlt, ref_add hs, Option.bind_some, ref_add (by omega), Option.bind_some, ref_add (by omega), Option.bind_some]
    rw [w64 (by omega) (by omega), show ((i : Int) + 1) = ((i + 1 : Nat) : Int) by omega, ih (i + 1) k _ (by omega) (by omega) (by rw [show tof 2 = 2 from rfl]; omega), sumF_drop stE l i hlt, show tof 2 = 2 from rfl]
    unfold stE
    congr 2
    omega
theorem refEm_eq (l : List S49) (nm : ByteArray) (dl : Int) (hl : l.length < 1000000) {k : Nat} (hk : l.length < k) : usufructref25_Emissions.f k nm dl l = some (emE l) := by
  unfold usufructref25_Emissions.f
  have := refEm_loop l nm dl hl l.length 0 k 0 (by omega) hk (Int.le_refl _)
  rw [sat_zero, Int.zero_add] at this
  unfold emE
  simpa using this

theorem up_eq (a b : Int) : usufructref25_up.f a b = some (upT a b) := by
  unfold usufructref25_up.f upT
  rw [usufructref01_Of.eq, Option.bind_some, ofT_eq]
  split <;> rfl

theorem rd_PT (l : List S51) (j : Nat) (h : j < l.length) : rd_T51 l (j : Int) = l[j] := by
  unfold rd_T51
  rw [Int.toNat_natCast, List.getD_eq_getElem?_getD, List.getElem?_eq_getElem h]
  rfl
theorem longP (l1 : List S51) (hl : l1.length < 1000000) : ∀ (d i k : Nat) (n : Int), i + d = l1.length → d < k →
    usufructref25_Longest.l2 k l1 n (i : Int) = some (((l1.drop i).flatMap paW).foldl upT n) := by
  intro d
  induction d with
  | zero =>
    intro i k n hi hk
    obtain ⟨k, rfl⟩ : ∃ m, k = m + 1 := ⟨k - 1, by omega⟩
    rw [usufructref25_Longest.l2, if_neg (by omega), show i = l1.length by omega, List.drop_length]
    rfl
  | succ d ih =>
    intro i k n hi hk
    obtain ⟨k, rfl⟩ : ∃ m, k = m + 1 := ⟨k - 1, by omega⟩
    have hlt : i < l1.length := by omega
    rw [usufructref25_Longest.l2, if_pos (by omega), if_pos (by omega), rd_PT l1 i hlt, up_eq, Option.bind_some, w64 (by omega) (by omega), show ((i : Int) + 1) = ((i + 1 : Nat) : Int) by omega, ih (i + 1) k _ (by omega) (by omega), List.drop_eq_getElem_cons hlt, List.flatMap_cons, List.foldl_append]
    rfl
theorem longS (l0 : List S28) (l1 : List S51) (x5 : Int) (i : Nat) (hi : i < l0.length) (hl0 : l0.length < 1000000) (hls : l0[i].f2.length < 1000000) : ∀ (d j k : Nat) (n : Int), j + d = l0[i].f2.length → d ≤ k →
    usufructref25_Longest.l1 (k + 1) l0 l1 n (i : Int) (j : Int) = usufructref25_Longest.l0 (k - d) l0 l1 (((l0[i].f2.drop j).flatMap stW).foldl upT n) ((i + 1 : Nat) : Int) := by
  intro d
  induction d with
  | zero =>
    intro j k n hj hk
    rw [usufructref25_Longest.l1, if_pos (by omega), if_pos (by omega), rd_DF l0 i hi, if_neg (by omega), show j = l0[i].f2.length by omega, List.drop_length, w64 (by omega) (by omega)]
    rfl
  | succ d ih =>
    intro j k n hj hk
    have hlt : j < l0[i].f2.length := by omega
    obtain ⟨k, rfl⟩ : ∃ m, k = m + 1 := ⟨k - 1, by omega⟩
    rw [usufructref25_Longest.l1, if_pos (by omega), if_pos (by omega), rd_DF l0 i hi, if_pos (by omega), if_pos (by omega), rd_ST _ j hlt, up_eq, Option.bind_some, up_eq, Option.bind_some, up_eq, Option.bind_some, w64 (by omega) (by omega), show ((j : Int) + 1) = ((j + 1 : Nat) : Int) by omega, ih (j + 1) k _ (by omega) (by omega), List.drop_eq_getElem_cons hlt, List.flatMap_cons, List.foldl_append, show k + 1 - (d + 1) = k - d by omega]
    rfl
/-- How many rounds the longest wait takes. -/
def lgN (l0 : List S28) (l1 : List S51) : Nat := (l0.map fun d => d.f2.length + 2).sum + l1.length + 2
theorem longD (l0 : List S28) (l1 : List S51) (hl0 : l0.length < 1000000) (hl1 : l1.length < 1000000) (hls : ∀ d ∈ l0, d.f2.length < 1000000) : ∀ (d i k : Nat) (n : Int), i + d = l0.length → lgN (l0.drop i) l1 ≤ k →
    usufructref25_Longest.l0 k l0 l1 n (i : Int) = some ((waitL (l0.drop i) l1).foldl upT n) := by
  intro d
  induction d with
  | zero =>
    intro i k n hi hk
    have e : l0.drop i = [] := by rw [show i = l0.length by omega, List.drop_length]
    rw [e] at hk ⊢
    unfold lgN at hk
    simp only [List.map_nil, List.sum_nil] at hk
    obtain ⟨k, rfl⟩ : ∃ m, k = m + 1 := ⟨k - 1, by omega⟩
    rw [usufructref25_Longest.l0, if_neg (by omega)]
    have := longP l1 hl1 l1.length 0 k n (by omega) (by omega)
    simpa [waitL] using this
  | succ d ih =>
    intro i k n hi hk
    have hlt : i < l0.length := by omega
    have hl := hls _ (List.getElem_mem hlt)
    have e : lgN (l0.drop i) l1 = l0[i].f2.length + 2 + lgN (l0.drop (i + 1)) l1 := by
      unfold lgN
      rw [List.drop_eq_getElem_cons hlt, List.map_cons, List.sum_cons]
      omega
    obtain ⟨k, rfl⟩ : ∃ m, k = m + 1 + 1 := ⟨k - 2, by omega⟩
    rw [usufructref25_Longest.l0, if_pos (by omega)]
    have := longS l0 l1 0 i hlt hl0 hl l0[i].f2.length 0 k n (by omega) (by omega)
    rw [show ((0 : Nat) : Int) = 0 from rfl] at this
    rw [this, List.drop_zero, ih (i + 1) _ _ (by omega) (by omega)]
    unfold waitL
    rw [List.drop_eq_getElem_cons hlt, List.flatMap_cons]
    simp only [List.foldl_append]
    rfl
theorem long_eq (l0 : List S28) (l1 : List S51) (hl0 : l0.length < 1000000) (hl1 : l1.length < 1000000) (hls : ∀ d ∈ l0, d.f2.length < 1000000) {k : Nat} (hk : lgN l0 l1 ≤ k) : usufructref25_Longest.f k l0 l1 = some (greT (waitL l0 l1)) := by
  unfold usufructref25_Longest.f
  have := longD l0 l1 hl0 hl1 hls l0.length 0 k 0 (by omega) hk
  simpa [greT] using this

theorem live_drop (l : List S44) (j : Nat) (h : j < l.length) : liveL (l.drop j) = (if isLive l[j] = true then [l[j]] else []) ++ liveL (l.drop (j + 1)) := by
  rw [List.drop_eq_getElem_cons h]
  unfold liveL
  rw [List.filter_cons]
  split <;> rfl
theorem live_loop (l0 : List S28) (l : List S44) (nx : Int) (hl : l.length < 1000000) : ∀ (d i k : Nat) (n : Int), i + d = l.length → d < k → 0 ≤ n → n ≤ i →
    usufructref25_Live.l0 k n (i : Int) l0 l nx = some (n + ((liveL (l.drop i)).length : Int)) := by
  intro d
  induction d with
  | zero =>
    intro i k n hi hk h0 h1
    obtain ⟨k, rfl⟩ : ∃ m, k = m + 1 := ⟨k - 1, by omega⟩
    rw [usufructref25_Live.l0, if_neg (by omega), show i = l.length by omega, List.drop_length]
    simp [liveL]
  | succ d ih =>
    intro i k n hi hk h0 h1
    obtain ⟨k, rfl⟩ : ∃ m, k = m + 1 := ⟨k - 1, by omega⟩
    have hlt : i < l.length := by omega
    rw [usufructref25_Live.l0, if_pos (by omega), if_pos (by omega), rd_SG l i hlt, live_drop l i hlt, w64 (a := n + 1) (by omega) (by omega), w64 (a := (i : Int) + 1) (by omega) (by omega), show ((i : Int) + 1) = ((i + 1 : Nat) : Int) by omega]
    by_cases c0 : l[i].f3 = 0
    · rw [if_pos c0, ih (i + 1) k _ (by omega) (by omega) (by omega) (by omega), if_pos (by unfold isLive; rw [c0]; rfl), List.length_append, List.length_singleton]
      congr 1
      push_cast
      omega
    · rw [if_neg c0]
      by_cases c1 : l[i].f3 = 1
      · rw [if_pos c1, ih (i + 1) k _ (by omega) (by omega) (by omega) (by omega), if_pos (by unfold isLive; rw [c1]; rfl), List.length_append, List.length_singleton]
        congr 1
        push_cast
        omega
      · rw [if_neg c1, ih (i + 1) k _ (by omega) (by omega) (by omega) (by omega), if_neg (by unfold isLive; simp [c0, c1])]
        rfl
theorem live_eq (l0 : List S28) (l : List S44) (nx : Int) (hl : l.length < 1000000) {k : Nat} (hk : l.length < k) : usufructref25_Live.f k l0 l nx = some ((liveL l).length : Int) := by
  unfold usufructref25_Live.f
  have := live_loop l0 l nx hl l.length 0 k 0 (by omega) hk (Int.le_refl _) (by omega)
  simpa using this
end Go.Proofs.Ytookpfpmobbhiaa.Q
