/- A masked text has as many runes, each of which may stand in a name; masked again it is the same; behind a letter it is a name, if it isn't too long. -/
import Derived.Test.YtkpmmikpdjhliaaDoorWalkLabelNames
import Derived.Test.YtkpmmikpdjhliaaDoorQx21
import Derived.Test.YtkpmmikpdjhliaaDoorQx22
namespace Go.Proofs.YtkpmmikpdjhliaaDoor.Walk
set_option linter.unusedVariables false
set_option linter.unusedSimpArgs false
open Go.RowKit Go.Proofs.YtkpmmikpdjhliaaDoor.Q Go.Proofs.YtkpmmikpdjhliaaDoorW.PrintWords Go.Proofs.YtkpmmikpdjhliaaDoorW.PrintLast Go.Proofs.YtkpmmikpdjhliaaDoorW.PrintMore

theorem mask_len (l : List UInt8) : (Utf.maskD l).length ≤ 4 * (Utf.runes l).length := by
  unfold Utf.maskD
  induction Utf.runes l with
  | nil => simp
  | cons o r ih =>
    have := Utf.encode_len ((Utf.mo o : Nat) : Int)
    rw [List.flatMap_cons, List.length_append, List.length_cons]
    omega
theorem mask_size (s : ByteArray) (h : s.size ≤ 200) : (⟨(Utf.maskD s.data.toList).toArray⟩ : ByteArray).size ≤ 800 := by
  have h1 := mask_len s.data.toList
  have h2 := Utf.runes_length_le s.data.toList
  rw [drop_size] at h2
  rw [Lib.size_eq]
  show (Utf.maskD s.data.toList).length ≤ 800
  omega
theorem masks_pure (s : ByteArray) : usufructlaw02_LabelMasks.f s = some true := by
  unfold usufructlaw02_LabelMasks.f
  rw [show usufructlaw02_awake.f = some true from rfl, Option.bind_some, if_pos rfl]
  by_cases h : (s.size : Int) > 200
  · rw [if_pos h]
  · have hs : s.size ≤ 200 := by omega
    have hm := mask_size s hs
    rw [if_neg h, mask_f s (by omega), Option.bind_some]
    have hd : (⟨(Utf.maskD s.data.toList).toArray⟩ : ByteArray).data.toList = Utf.maskD s.data.toList := rfl
    generalize hM : (⟨(Utf.maskD s.data.toList).toArray⟩ : ByteArray) = M at hm hd ⊢
    have ha : ((⟨#[97]⟩ : ByteArray) ++ M).data.toList = 97 :: Utf.maskD s.data.toList := by rw [append_list, hd]; rfl
    have has : ((⟨#[97]⟩ : ByteArray) ++ M).size ≤ 801 := by rw [append_size]; show 1 + M.size ≤ 801; omega
    rw [runes_f M (by omega), Option.bind_some, runes_f s (by omega), Option.bind_some, hd, if_pos (by rw [Utf.mask_count]), mask_f M (by omega), Option.bind_some, hd, if_pos (by rw [Lib.toList_data, Lib.toList_data, hd]; exact Utf.mask_mask _), if_pos (by omega), good_f _ (by omega), Option.bind_some, Option.bind_some, ha, Utf.good_a_mask]
    rw [if_pos (by rw [beq_iff_eq]; exact decide_eq_decide.2 ⟨fun h => by omega, fun h => by omega⟩), good_f s (by omega), Option.bind_some]
    by_cases hg : Utf.goodD s.data.toList = true
    · rw [if_pos hg, Lib.toList_data, Lib.toList_data, hd, Utf.mask_good _ (Utf.good_ok _ hg), beq_self_list]
    · rw [if_neg hg]
theorem LabelMasks.walk (w : World) (a0 : ByteArray)
    (w0 : a0.size ≤ maxLen) (y0 : a0.size ≤ 140737488351232) (hTab_ : Tabs_ w) :
    Calls Tryd.prog 5 #[.string a0] w fun e w' => e = .returned (.bool true) ∧ Below w.heap.size w w' :=
  usufructlaw02_LabelMasks.calls a0 true w hTab_ (masks_pure a0)
theorem joins_pure (a b : ByteArray) : ∃ k, usufructlaw02_LabelJoins.f k a b = some true := by
  refine ⟨1, ?_⟩
  have hj : ∀ x : Bool, (x = false → a.size ≤ 200 ∧ b.size ≤ 200) → usufructlaw02_LabelJoins.j0 1 a b x = some true := by
    intro x hx
    rw [usufructlaw02_LabelJoins.j0]
    cases x with
    | true => rw [if_pos rfl]
    | false =>
      obtain ⟨h1, h2⟩ := hx rfl
      have hm1 := mask_size a h1
      have hm2 := mask_size b h2
      rw [if_neg (by decide), mask_f a (by omega), Option.bind_some, mask_f b (by omega), Option.bind_some]
      have hd1 : (⟨(Utf.maskD a.data.toList).toArray⟩ : ByteArray).data.toList = Utf.maskD a.data.toList := rfl
      have hd2 : (⟨(Utf.maskD b.data.toList).toArray⟩ : ByteArray).data.toList = Utf.maskD b.data.toList := rfl
      generalize (⟨(Utf.maskD a.data.toList).toArray⟩ : ByteArray) = M1 at hm1 hd1 ⊢
      generalize (⟨(Utf.maskD b.data.toList).toArray⟩ : ByteArray) = M2 at hm2 hd2 ⊢
      have hs := append_size M1 M2
      have hl := append_list M1 M2
      rw [hd1, hd2] at hl
      rw [if_pos (by omega)]
      generalize M1 ++ M2 = M at hs hl ⊢
      have r1 := Utf.runes_length_le a.data.toList
      have r2 := Utf.runes_length_le b.data.toList
      rw [drop_size] at r1 r2
      rw [runes_f M (by omega), Option.bind_some, runes_f a (by omega), Option.bind_some, runes_f b (by omega), Option.bind_some, hl, Utf.mask_join_count, if_pos (by unfold wrap64; omega), mask_f M (by omega), Option.bind_some, Lib.toList_data, Lib.toList_data, hl]
      refine congrArg some (beq_iff_eq.mpr ?_)
      exact Utf.mask_join _ _
  unfold usufructlaw02_LabelJoins.f
  rw [show usufructlaw02_awake.f = some true from rfl, Option.bind_some, if_pos rfl]
  split
  · exact hj true (fun h => by cases h)
  · exact hj _ (fun h => by have := of_decide_eq_false h; omega)
theorem LabelJoins.walk (w : World) (a0 : ByteArray) (a1 : ByteArray)
    (w0 : a0.size ≤ maxLen) (y0 : a0.size ≤ 140737488351232) (w1 : a1.size ≤ maxLen) (y1 : a1.size ≤ 140737488351232) (hTab_ : Tabs_ w) :
    Calls Tryd.prog 6 #[.string a0, .string a1] w fun e w' => e = .returned (.bool true) ∧ Below w.heap.size w w' := by
  obtain ⟨k, h⟩ := joins_pure a0 a1
  exact usufructlaw02_LabelJoins.calls k a0 a1 true w hTab_ h
end Go.Proofs.YtkpmmikpdjhliaaDoor.Walk
