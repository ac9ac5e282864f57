/- Which texts are names, how many runes any text has, and its masked one, is as the document says. -/
import Derived.Test.YtkpmmikpdjhliaaDoorBLabelRef
import Derived.Test.YtkpmmikpdjhliaaDoorQx17
namespace Go.Proofs.YtkpmmikpdjhliaaDoor.Walk
set_option linter.unusedVariables false
set_option linter.unusedSimpArgs false
open Go.RowKit Go.Proofs.YtkpmmikpdjhliaaDoor.Q Go.Proofs.YtkpmmikpdjhliaaDoorW.PrintWords Go.Proofs.YtkpmmikpdjhliaaDoorW.PrintLast Go.Proofs.YtkpmmikpdjhliaaDoorW.PrintMore

theorem good_f (s : ByteArray) (h : s.size ≤ 4000) : label_Good.f s = some (Utf.goodD s.data.toList) := by
  unfold label_Good.f
  rw [if_pos (by omega)]
theorem runes_f (s : ByteArray) (h : s.size ≤ 4000) : label_Runes.f s = some ((Utf.runes s.data.toList).length : Int) := by
  unfold label_Runes.f
  rw [if_pos (by omega)]
theorem mask_f (s : ByteArray) (h : s.size ≤ 4000) : label_Mask.f s = some ⟨(Utf.maskD s.data.toList).toArray⟩ := by
  unfold label_Mask.f
  rw [if_pos (by omega)]
theorem beq_self_list (l : List UInt8) : (l == l) = true := beq_iff_eq.mpr rfl
theorem names_pure (s : ByteArray) : ∃ k, usufructlaw02_LabelNames.f k s = some true := by
  refine ⟨2 * s.size + 50, ?_⟩
  unfold usufructlaw02_LabelNames.f
  rw [show usufructlaw02_awake.f = some true from rfl, Option.bind_some, if_pos rfl]
  by_cases h : (s.size : Int) > 200
  · rw [if_pos h]
  · have hs : s.size ≤ 200 := by omega
    rw [if_neg h, good_f s (by omega), Option.bind_some, ref_good s (by omega) _ (by omega), Option.bind_some, if_pos (beq_iff_eq.mpr rfl), runes_f s (by omega), Option.bind_some, ref_runes s (by omega) _ (by omega), Option.bind_some, if_pos rfl, mask_f s (by omega), Option.bind_some, ref_mask s (by omega) _ (by omega), Option.bind_some, beq_self_list]
theorem LabelNames.walk (w : World) (a0 : ByteArray)
    (w0 : a0.size ≤ maxLen) (y0 : a0.size ≤ 140737488351232) (hTab_ : Tabs_ w) :
    Calls Tryd.prog 3 #[.string a0] w fun e w' => e = .returned (.bool true) ∧ Below w.heap.size w w' := by
  obtain ⟨k, h⟩ := names_pure a0
  exact usufructlaw02_LabelNames.calls k a0 true w hTab_ h
end Go.Proofs.YtkpmmikpdjhliaaDoor.Walk
