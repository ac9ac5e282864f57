/- The record at any place of any bytes, and all records of them, are as the document says. -/
import Derived.Test.YtdamiipeijnpnaaBRecordRef
import Derived.Test.YtdamiipeijnpnaaQx31
import Derived.Test.YtdamiipeijnpnaaQx30
namespace Go.Proofs.Ytdamiipeijnpnaa.Pure
set_option linter.unusedVariables false
set_option linter.unusedSimpArgs false
open Go.RowKit Go.Proofs.Ytdamiipeijnpnaa.Q Go.Proofs.YtdamiipeijnpnaaW.PrintWords Go.Proofs.YtdamiipeijnpnaaW.PrintLast Go.Proofs.YtdamiipeijnpnaaW.PrintMore

theorem same_loop (Z : List (List Int)) (hZ : Z.length < 1000000) : ∀ (d i k : Nat), i + d = Z.length → d < k → usufructlaw06_same.l0 k Z (Z.map strOfNums) (i : Int) = some true := by
  intro d
  induction d with
  | zero =>
    intro i k hi hk
    obtain ⟨k, rfl⟩ : ∃ q, k = q + 1 := ⟨k - 1, by omega⟩
    rw [usufructlaw06_same.l0, if_neg (by omega)]
  | succ d ih =>
    intro i k hi hk
    obtain ⟨k, rfl⟩ : ∃ q, k = q + 1 := ⟨k - 1, by omega⟩
    have hlt : i < Z.length := by omega
    have e1 : rd_L5 Z (i : Int) = Z[i] := by
      unfold rd_L5
      rw [Int.toNat_natCast, List.getD_eq_getElem?_getD, List.getElem?_eq_getElem hlt]
      rfl
    have e2 : rdOf ByteArray.empty (Z.map strOfNums) (i : Int) = strOfNums Z[i] := by
      unfold rdOf
      rw [Int.toNat_natCast, List.getD_eq_getElem?_getD, List.getElem?_map, List.getElem?_eq_getElem hlt]
      rfl
    rw [usufructlaw06_same.l0, if_pos (by omega), if_pos (by omega), if_pos (by rw [List.length_map]; omega), e1, e2, if_pos rfl, show wrap64 ((i : Int) + 1) = ((i + 1 : Nat) : Int) by unfold wrap64; omega]
    exact ih (i + 1) k (by omega) (by omega)
theorem same_eq (Z : List (List Int)) (hZ : Z.length < 1000000) {k : Nat} (hk : Z.length < k) : usufructlaw06_same.f k Z (Z.map strOfNums) = some true := by
  unfold usufructlaw06_same.f
  rw [if_pos (by rw [List.length_map])]
  have := same_loop Z hZ Z.length 0 k (by omega) hk
  simpa using this

theorem RecordReads : usufructlaw06_RecordReads.Pure := by
  intro xs a _ _ hb hw
  have hB : Bytes xs := fun x hx => bounds_u8 (hb x hx)
  have ha := bounds_i64 hw
  refine ⟨4002, ?_⟩
  unfold usufructlaw06_RecordReads.f
  rw [show usufructlaw06_awake.f = some true from rfl, Option.bind_some, if_pos rfl]
  by_cases hl : (xs.length : Int) > 300
  · rw [if_pos hl]
  rw [if_neg hl]
  obtain ⟨Z, a', e, hz, hall⟩ := all_eq hB (by omega)
  have hj1 : ∀ (p : List Int) (n e1 : Int) (s : ByteArray), (strOfNums p).toList = s.toList → ∀ k, 3999 ≤ k → usufructlaw06_RecordReads.j1 (k + 1) xs p n e1 s n e1 = some true := by
    intro p n e1 s hs k hk
    obtain ⟨h1, h2⟩ := hall k (by omega)
    rw [usufructlaw06_RecordReads.j1, h1, Option.bind_some, h2, Option.bind_some]
    dsimp only
    rw [if_pos hs, if_pos rfl, if_pos rfl, same_eq Z (by omega) (by omega), Option.bind_some, if_pos rfl, if_pos rfl, beq_self_eq_true]
  have hnone : ∀ k, 2 ≤ k → (a < 0 ∨ a > (xs.length : Int)) → record_Get.f k xs a = some ([], 0, 1) := by
    intro k hk h
    obtain ⟨k, rfl⟩ : ∃ q, k = q + 1 := ⟨k - 1, by omega⟩
    unfold record_Get.f
    by_cases h0 : a < 0
    · rw [if_pos h0, record_Get.j0, if_pos rfl]
    · rw [if_neg h0, decide_eq_true (show a > (xs.length : Int) by omega), record_Get.j0, if_pos rfl]
  by_cases h0 : a ≥ 0
  · by_cases h1 : a ≤ (xs.length : Int)
    · obtain ⟨n, rfl⟩ := Int.eq_ofNat_of_zero_le h0
      have hbd := hB.drop n
      rw [get_eq hB (by omega) n (by omega) (by omega), Option.bind_some, if_pos h0, decide_eq_true h1, show (4002 : Nat) = 4001 + 1 from rfl, usufructlaw06_RecordReads.j0, if_pos rfl, if_pos h0, if_pos h1, Int.toNat_natCast, refget_eq hbd (by rw [List.length_drop]; omega) (by rw [List.length_drop]; omega), Option.bind_some]
      exact hj1 _ _ _ _ rfl 4000 (by omega)
    · rw [hnone _ (by omega) (.inr (by omega)), Option.bind_some, if_pos h0, decide_eq_false h1, show (4002 : Nat) = 4001 + 1 from rfl, usufructlaw06_RecordReads.j0, if_neg (by decide)]
      exact hj1 [] 0 1 ⟨#[]⟩ rfl 4000 (by omega)
  · rw [hnone _ (by omega) (.inl (by omega)), Option.bind_some, if_neg h0, show (4002 : Nat) = 4001 + 1 from rfl, usufructlaw06_RecordReads.j0, if_neg (by decide)]
    exact hj1 [] 0 1 ⟨#[]⟩ rfl 4000 (by omega)
end Go.Proofs.Ytdamiipeijnpnaa.Pure
