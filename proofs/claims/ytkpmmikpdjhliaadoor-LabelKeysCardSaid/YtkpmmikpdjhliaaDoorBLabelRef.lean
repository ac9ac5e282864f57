/- The document's Runes, Good and Mask, by a text's runes. -/
import Derived.Test.YtkpmmikpdjhliaaDoorBLabelAt
import Derived.Test.YtkpmmikpdjhliaaDoorGLabelMask
import Derived.Test.YtkpmmikpdjhliaaDoorQx15
import Derived.Test.YtkpmmikpdjhliaaDoorQx12
import Derived.Test.YtkpmmikpdjhliaaDoorQx16
namespace Go.Proofs.YtkpmmikpdjhliaaDoor.Q
set_option linter.unusedVariables false
set_option linter.unusedSimpArgs false
open Go.RowKit Go.Proofs.YtkpmmikpdjhliaaDoorW.PrintWords Go.Proofs.YtkpmmikpdjhliaaDoorW.PrintLast Go.Proofs.YtkpmmikpdjhliaaDoorW.PrintMore

theorem ref_letter_f (c : Int) : usufructref02_letter.f c = some (Utf.letterP c) := by
  unfold usufructref02_letter.f Utf.letterP
  repeat' split
  all_goals (refine congrArg some ?_; rw [Bool.eq_iff_iff]; simp only [decide_eq_true_eq, true_iff, false_iff]; omega)
theorem ref_may_f (c : Int) : usufructref02_may.f c = some (Utf.mayP c) := by
  unfold usufructref02_may.f
  rw [ref_letter_f, Option.bind_some]
  unfold Utf.letterP Utf.mayP
  repeat' split
  all_goals (refine congrArg some ?_; rw [Bool.eq_iff_iff]; simp only [decide_eq_true_eq, beq_iff_eq, true_iff, false_iff] at *; omega)

/-- A step of the document's: what stands at a place. -/
inductive StepAt (s : ByteArray) (p : Nat) : Int × Int → Prop
  | bad : Utf.first (s.data.toList.drop p) = none → (Utf8.decode s p).2 = 1 → StepAt s p (0, 0)
  | rune (c w : Nat) : Utf.first (s.data.toList.drop p) = some c → (Utf8.decode s p).1 = c → (Utf8.decode s p).2 = w → 1 ≤ w → w ≤ 4 → p + w ≤ s.size → StepAt s p ((c : Int), (w : Int))
theorem decode_w4 (s : ByteArray) (p : Nat) : (Utf8.decode s p).2 ≤ 4 := by
  rw [Lib.decode_N]
  unfold Lib.decodeN
  repeat' split
  all_goals simp
theorem step_at (s : ByteArray) (p : Nat) (hp : p < s.size) : StepAt s p (atD (Utf8.decode s p)) := by
  have hf := first_at s p
  unfold atD
  by_cases hb : (Utf8.decode s p).1 = 65533 ∧ (Utf8.decode s p).2 = 1
  · rw [if_pos hb] at hf ⊢
    exact .bad hf hb.2
  · rw [if_neg hb] at hf ⊢
    have hne : s.data.toList.drop p ≠ [] := by
      intro e
      have := congrArg List.length e
      rw [List.length_drop, drop_size] at this
      simp at this
      omega
    have hle := Lib.decodeL_le _ hne
    rw [Lib.decodeL_drop, List.length_drop, drop_size] at hle
    exact .rune _ _ hf rfl rfl (Lib.width_pos s p) (decode_w4 s p) (by omega)
theorem at_step_f (s : ByteArray) (p : Nat) (hs : s.size ≤ 140737488351232) (hp : p < s.size) (k : Nat) (hk : 20 ≤ k) : ∃ x, usufructref02_At.f k s (p : Int) = some x ∧ StepAt s p x := by
  have h := at_spec s (p : Int) hs (by omega) (by omega) k hk
  rw [Int.toNat_natCast] at h
  exact ⟨_, h, step_at s p hp⟩

theorem ref_runes_l (s : ByteArray) (hs : s.size ≤ 140737488351232) : ∀ (d : Nat) (k p n : Nat), s.size - p ≤ d → n ≤ p → p ≤ s.size + 4 → d + 25 ≤ k →
    usufructref02_Runes.l0 k s (n : Int) (p : Int) = some (((n + (Utf.runes (s.data.toList.drop p)).length : Nat) : Int)) := by
  intro d
  induction d with
  | zero =>
    intro k p n hd hn hp hk
    obtain ⟨k, rfl⟩ : ∃ q, k = q + 1 := ⟨k - 1, by omega⟩
    rw [usufructref02_Runes.l0, if_neg (by omega), runes_end s p (by omega)]
    rfl
  | succ d ih =>
    intro k p n hd hn hp hk
    obtain ⟨k, rfl⟩ : ∃ q, k = q + 1 := ⟨k - 1, by omega⟩
    by_cases hlt : p < s.size
    · obtain ⟨x, hx, hst⟩ := at_step_f s p hs hlt k (by omega)
      rw [usufructref02_Runes.l0, if_pos (by omega), hx, Option.bind_some, runes_at s p hlt]
      have e1 : wrap64 ((n : Int) + 1) = ((n + 1 : Nat) : Int) := by unfold wrap64; omega
      cases hst with
      | bad hf hw =>
        dsimp only
        rw [if_pos rfl, e1, show wrap64 ((p : Int) + 1) = ((p + 1 : Nat) : Int) by unfold wrap64; omega, ih k (p + 1) (n + 1) (by omega) (by omega) (by omega) (by omega), hw]
        simp only [List.length_cons]
        congr 2
        omega
      | rune c w hf hc hw w1 w4 hle =>
        dsimp only
        rw [if_neg (by omega), e1, show wrap64 ((p : Int) + (w : Int)) = ((p + w : Nat) : Int) by unfold wrap64; omega, ih k (p + w) (n + 1) (by omega) (by omega) (by omega) (by omega), hw]
        simp only [List.length_cons]
        congr 2
        omega
    · rw [usufructref02_Runes.l0, if_neg (by omega), runes_end s p hlt]
      rfl
theorem ref_runes (s : ByteArray) (hs : s.size ≤ 140737488351232) (k : Nat) (hk : s.size + 25 ≤ k) : usufructref02_Runes.f k s = some ((Utf.runes s.data.toList).length : Int) := by
  unfold usufructref02_Runes.f
  have := ref_runes_l s hs s.size k 0 0 (by omega) (by omega) (by omega) hk
  rw [List.drop_zero, Nat.zero_add] at this
  exact this

theorem ref_good_l (s : ByteArray) (hs : s.size ≤ 140737488351232) (h0 : 0 < s.size) : ∀ (d : Nat) (k p : Nat), 0 < p → s.size - p ≤ d → d + s.size + 30 ≤ k →
    usufructref02_Good.l0 k s (p : Int) = some ((Utf.runes (s.data.toList.drop p)).all Utf.okRune && decide ((Utf.runes s.data.toList).length ≤ 64)) := by
  have hend : ∀ k p : Nat, ¬ p < s.size → s.size + 30 ≤ k → usufructref02_Good.l0 k s (p : Int) = some ((Utf.runes (s.data.toList.drop p)).all Utf.okRune && decide ((Utf.runes s.data.toList).length ≤ 64)) := by
    intro k p hp hk
    obtain ⟨k, rfl⟩ : ∃ q, k = q + 1 := ⟨k - 1, by omega⟩
    have hne : ¬ s.toList = ([] : List UInt8) := by
      rw [Lib.toList_data]
      intro e
      have := congrArg List.length e
      rw [drop_size, List.length_nil] at this
      omega
    rw [usufructref02_Good.l0, if_neg (by omega), if_neg hne, ref_runes s hs k (by omega), Option.bind_some, runes_end s p hp, List.all_nil, Bool.true_and]
    refine congrArg some (decide_eq_decide.2 ⟨fun h => by omega, fun h => by omega⟩)
  intro d
  induction d with
  | zero =>
    intro k p hp hd hk
    exact hend k p (by omega) (by omega)
  | succ d ih =>
    intro k p hp hd hk
    by_cases hlt : p < s.size
    · obtain ⟨k, rfl⟩ : ∃ q, k = q + 1 := ⟨k - 1, by omega⟩
      obtain ⟨x, hx, hst⟩ := at_step_f s p hs hlt k (by omega)
      rw [usufructref02_Good.l0, if_pos (by omega), hx, Option.bind_some, runes_at s p hlt, List.all_cons]
      cases hst with
      | bad hf hw =>
        dsimp only
        rw [if_pos rfl, hf]
        rfl
      | rune c w hf hc hw w1 w4 hle =>
        dsimp only
        rw [if_neg (by omega), ref_may_f, Option.bind_some, hf, show Utf.okRune (some c) = Utf.mayP (c : Int) from rfl]
        cases hm : Utf.mayP (c : Int) with
        | false => rfl
        | true =>
          rw [if_pos rfl, if_neg (by omega), show wrap64 ((p : Int) + (w : Int)) = ((p + w : Nat) : Int) by unfold wrap64; omega, ih k (p + w) (by omega) (by omega) (by omega), hw, Bool.true_and]
    · exact hend k p hlt (by omega)
theorem ref_good (s : ByteArray) (hs : s.size ≤ 140737488351232) (k : Nat) (hk : 2 * s.size + 40 ≤ k) : usufructref02_Good.f k s = some (Utf.goodD s.data.toList) := by
  unfold usufructref02_Good.f
  obtain ⟨k, rfl⟩ : ∃ q, k = q + 1 := ⟨k - 1, by omega⟩
  by_cases h0 : 0 < s.size
  · obtain ⟨x, hx, hst⟩ := at_step_f s 0 hs h0 k (by omega)
    rw [usufructref02_Good.l0, if_pos (by omega), show (0 : Int) = ((0 : Nat) : Int) from rfl, hx, Option.bind_some]
    have e := runes_at s 0 h0
    rw [List.drop_zero] at e
    unfold Utf.goodD
    cases hst with
    | bad hf hw =>
      dsimp only
      rw [List.drop_zero] at hf
      rw [if_pos rfl, e, hf]
      rfl
    | rune c w hf hc hw w1 w4 hle =>
      dsimp only
      rw [List.drop_zero] at hf
      rw [if_neg (by omega), ref_may_f, Option.bind_some]
      have hall : (Utf.runes s.data.toList).all Utf.okRune = (Utf.mayP (c : Int) && (Utf.runes (s.data.toList.drop w)).all Utf.okRune) := by
        rw [e, List.all_cons, hf, hw, Nat.zero_add]
        rfl
      have hhead : (Utf.runes s.data.toList).head? = some (some c) := by rw [e, List.head?_cons, hf]
      rw [hall, hhead]
      cases hm : Utf.mayP (c : Int) with
      | false => rfl
      | true =>
        rw [if_pos rfl, if_pos rfl, ref_letter_f, Option.bind_some]
        cases hl : Utf.letterP (c : Int) with
        | false => simp [hl]
        | true =>
          rw [if_pos rfl, show wrap64 (((0 : Nat) : Int) + (w : Int)) = ((w : Nat) : Int) by unfold wrap64; omega, ref_good_l s hs h0 s.size k w (by omega) (by omega) (by omega)]
          simp [hl]
  · have hz : s.data.toList = [] := List.eq_nil_of_length_eq_zero (by rw [drop_size]; omega)
    rw [usufructref02_Good.l0, if_neg (by omega), if_pos (by rw [Lib.toList_data]; exact hz), hz]
    rfl

theorem bytes_ext {a b : ByteArray} (h : a.data.toList = b.data.toList) : a = b := ByteArray.ext (Array.ext' h)
theorem append_list (a b : ByteArray) : (a ++ b).data.toList = a.data.toList ++ b.data.toList := by
  rw [ByteArray.data_append, Array.toList_append]
theorem append_size (a b : ByteArray) : (a ++ b).size = a.size + b.size := by
  rw [Lib.size_eq, append_list, List.length_append, ← Lib.size_eq, ← Lib.size_eq]
theorem extract_list (s : ByteArray) (a b : Nat) : (s.extract a b).data.toList = (s.data.toList.drop a).take (b - a) := by
  simp [ByteArray.data_extract, List.extract_eq_take_drop]
/-- What the masked text has of a place. -/
def maskAt (o : Option Nat) : List UInt8 := Lib.encodeRune ((Utf.mo o : Nat) : Int)
theorem maskAt_bad : maskAt none = [95] := by decide
theorem maskAt_not (c : Nat) (hm : Utf.mayP (c : Int) = false) : maskAt (some c) = [95] := by
  have hmo : Utf.mo (some c) = 95 := by
    unfold Utf.mo
    simp only [hm]
    rfl
  unfold maskAt
  rw [hmo]
  exact maskAt_bad
theorem maskAt_may (c : Nat) (hm : Utf.mayP (c : Int) = true) : maskAt (some c) = Lib.encodeRune (c : Int) := by
  have hmo : Utf.mo (some c) = c := by
    unfold Utf.mo
    simp only [hm, if_true]
  unfold maskAt
  rw [hmo]
theorem maskAt_take (s : ByteArray) (p c w : Nat) (hp : p < s.size) (hf : Utf.first (s.data.toList.drop p) = some c) (hc : (Utf8.decode s p).1 = c) (hw : (Utf8.decode s p).2 = w) (hm : Utf.mayP (c : Int) = true) : maskAt (some c) = (s.data.toList.drop p).take w := by
  rw [maskAt_may c hm]
  have hne : s.data.toList.drop p ≠ [] := by
    intro e
    have := congrArg List.length e
    rw [List.length_drop, drop_size, List.length_nil] at this
    omega
  have := Lib.encode_decode (s.data.toList.drop p) hne (by
    intro hb
    have : Utf.first (s.data.toList.drop p) = none := if_pos hb
    rw [hf] at this
    cases this)
  rw [Lib.decodeL_drop, hc, hw] at this
  exact this
theorem mask_next (s : ByteArray) (p : Nat) (h : p < s.size) : Utf.maskD (s.data.toList.drop p) = maskAt (Utf.first (s.data.toList.drop p)) ++ Utf.maskD (s.data.toList.drop (p + (Utf8.decode s p).2)) := maskD_at s p h
theorem mask_j1_may (k : Nat) (s acc : ByteArray) (i x : Int) (h0 : 0 ≤ i) (hx : 0 < x) (hi : i + x ≤ (s.size : Int)) (hs : s.size ≤ 35184372088832) (ha : acc.size ≤ 35184372088832 * 5) (he : (s.extract i.toNat (i + x).toNat).size ≤ 4) :
    usufructref02_Mask.j1 (k + 1) s acc i x false = usufructref02_Mask.l0 k s (acc ++ s.extract i.toNat (i + x).toNat) (i + x) := by
  have ew : wrap64 (i + x) = i + x := atwr64 (by omega) (by omega)
  rw [usufructref02_Mask.j1, ew]
  generalize s.extract i.toNat (i + x).toNat = E at *
  rw [if_neg (by decide), if_pos h0, if_pos (by omega), if_pos hi, if_pos (by omega), if_neg (by omega)]
theorem mask_j1_not (k : Nat) (s acc : ByteArray) (i x : Int) (h0 : 0 ≤ i) (hx : 0 < x) (hi : i + x ≤ (s.size : Int)) (hs : s.size ≤ 35184372088832) (ha : acc.size ≤ 35184372088832 * 5) :
    usufructref02_Mask.j1 (k + 1) s acc i x true = usufructref02_Mask.l0 k s (acc ++ (⟨#[95]⟩ : ByteArray)) (i + x) := by
  have ew : wrap64 (i + x) = i + x := atwr64 (by omega) (by omega)
  rw [usufructref02_Mask.j1, ew, if_pos rfl, if_pos (by omega), if_neg (by omega)]
theorem mask_j1_bad (k : Nat) (s acc : ByteArray) (i : Int) (h0 : 0 ≤ i) (hi : i < (s.size : Int)) (hs : s.size ≤ 35184372088832) (ha : acc.size ≤ 35184372088832 * 5) :
    usufructref02_Mask.j1 (k + 1) s acc i 0 true = usufructref02_Mask.l0 k s (acc ++ (⟨#[95]⟩ : ByteArray)) (i + 1) := by
  have ew : wrap64 (i + 1) = i + 1 := atwr64 (by omega) (by omega)
  rw [usufructref02_Mask.j1, ew, if_pos rfl, if_pos (by omega), if_pos rfl]
theorem mask_l0_end (k : Nat) (s acc : ByteArray) (i : Int) (h : ¬ i < (s.size : Int)) : usufructref02_Mask.l0 (k + 1) s acc i = some acc := by
  rw [usufructref02_Mask.l0, if_neg h]
theorem mask_l0_bad (k : Nat) (s acc : ByteArray) (i : Int) (h : i < (s.size : Int)) (hx : usufructref02_At.f k s i = some (0, 0)) : usufructref02_Mask.l0 (k + 1) s acc i = usufructref02_Mask.j1 k s acc i 0 true := by
  rw [usufructref02_Mask.l0, if_pos h, hx, Option.bind_some]
  dsimp only
  rw [if_pos rfl]
theorem mask_l0_rune (k : Nat) (s acc : ByteArray) (i c w : Int) (h : i < (s.size : Int)) (hw : 0 < w) (hx : usufructref02_At.f k s i = some (c, w)) : usufructref02_Mask.l0 (k + 1) s acc i = usufructref02_Mask.j1 k s acc i w (!Utf.mayP c) := by
  rw [usufructref02_Mask.l0, if_pos h, hx, Option.bind_some]
  dsimp only
  rw [if_neg (by omega), ref_may_f, Option.bind_some]
theorem ext_size (s : ByteArray) (p w : Nat) (hle : p + w ≤ s.size) : (s.extract ((p : Nat) : Int).toNat (((p : Nat) : Int) + ((w : Nat) : Int)).toNat).data.toList = (s.data.toList.drop p).take w := by
  rw [show (((p : Nat) : Int) + ((w : Nat) : Int)).toNat = p + w by omega, Int.toNat_natCast, extract_list, show p + w - p = w by omega]
theorem ref_mask_l (s : ByteArray) (hs : s.size ≤ 35184372088832) : ∀ (d : Nat) (k p : Nat) (acc : ByteArray), s.size - p ≤ d → acc.size ≤ 4 * p → p ≤ s.size + 4 → 2 * d + 25 ≤ k →
    ∃ r : ByteArray, usufructref02_Mask.l0 k s acc (p : Int) = some r ∧ r.data.toList = acc.data.toList ++ Utf.maskD (s.data.toList.drop p) := by
  have hend : ∀ (k p : Nat) (acc : ByteArray), ¬ p < s.size → 1 ≤ k → ∃ r : ByteArray, usufructref02_Mask.l0 k s acc (p : Int) = some r ∧ r.data.toList = acc.data.toList ++ Utf.maskD (s.data.toList.drop p) := by
    intro k p acc hp hk
    obtain ⟨k, rfl⟩ : ∃ q, k = q + 1 := ⟨k - 1, by omega⟩
    exact ⟨acc, mask_l0_end k s acc _ (by omega), by rw [maskD_end s p hp, List.append_nil]⟩
  intro d
  induction d with
  | zero => intro k p acc hd ha hp hk; exact hend k p acc (by omega) (by omega)
  | succ d ih =>
    intro k p acc hd ha hp hk
    by_cases hlt : p < s.size
    · obtain ⟨k, rfl⟩ : ∃ q, k = q + 1 + 1 := ⟨k - 2, by omega⟩
      obtain ⟨x, hx, hst⟩ := at_step_f s p (by omega) hlt (k + 1) (by omega)
      have hu1 : (⟨#[95]⟩ : ByteArray).size = 1 := rfl
      have hm95 : ∀ a : ByteArray, (a ++ (⟨#[95]⟩ : ByteArray)).data.toList = a.data.toList ++ [95] := fun a => append_list a _
      have hmn := mask_next s p hlt
      cases hst with
      | bad hf hw =>
        obtain ⟨r, hr, he⟩ := ih k (p + 1) (acc ++ (⟨#[95]⟩ : ByteArray)) (by omega) (by rw [append_size, hu1]; omega) (by omega) (by omega)
        refine ⟨r, ?_, ?_⟩
        · rw [mask_l0_bad (k + 1) s acc _ (by omega) hx, mask_j1_bad k s acc _ (by omega) (by omega) hs (by omega)]
          exact hr
        · rw [he, hm95, hmn, hf, maskAt_bad, hw, List.append_assoc]
      | rune c w hf hc hw w1 w4 hle =>
        have hl := mask_l0_rune (k + 1) s acc (p : Int) (c : Int) (w : Int) (by omega) (by omega) hx
        cases hm : Utf.mayP (c : Int) with
        | false =>
          obtain ⟨r, hr, he⟩ := ih k (p + w) (acc ++ (⟨#[95]⟩ : ByteArray)) (by omega) (by rw [append_size, hu1]; omega) (by omega) (by omega)
          refine ⟨r, ?_, ?_⟩
          · rw [hl, hm, Bool.not_false, mask_j1_not k s acc _ _ (by omega) (by omega) (by omega) hs (by omega)]
            exact hr
          · rw [he, hm95, hmn, hf, maskAt_not c hm, hw, List.append_assoc]
        | true =>
          have hex := ext_size s p w hle
          generalize hE : s.extract ((p : Nat) : Int).toNat (((p : Nat) : Int) + ((w : Nat) : Int)).toNat = E at hex
          have hexs : E.size = w := by
            rw [Lib.size_eq, hex, List.length_take, List.length_drop, drop_size]
            omega
          obtain ⟨r, hr, he⟩ := ih k (p + w) (acc ++ E) (by omega) (by rw [append_size, hexs]; omega) (by omega) (by omega)
          refine ⟨r, ?_, ?_⟩
          · have hj := mask_j1_may k s acc (p : Int) (w : Int) (by omega) (by omega) (by omega) hs (by omega) (by rw [hE, hexs]; exact w4)
            rw [hE] at hj
            rw [hl, hm, Bool.not_true, hj]
            exact hr
          · rw [he, append_list, hex, hmn, hf, maskAt_take s p c w hlt hf hc hw hm, hw, List.append_assoc]
    · exact hend k p acc hlt (by omega)
theorem ref_mask (s : ByteArray) (hs : s.size ≤ 35184372088832) (k : Nat) (hk : 2 * s.size + 30 ≤ k) : usufructref02_Mask.f k s = some ⟨(Utf.maskD s.data.toList).toArray⟩ := by
  unfold usufructref02_Mask.f
  obtain ⟨r, hr, he⟩ := ref_mask_l s hs s.size k 0 ⟨#[]⟩ (by omega) (Nat.le_refl 0) (by omega) (by omega)
  rw [List.drop_zero] at he
  have e : r = ⟨(Utf.maskD s.data.toList).toArray⟩ := bytes_ext he
  rw [← e]
  exact hr
end Go.Proofs.YtkpmmikpdjhliaaDoor.Q
