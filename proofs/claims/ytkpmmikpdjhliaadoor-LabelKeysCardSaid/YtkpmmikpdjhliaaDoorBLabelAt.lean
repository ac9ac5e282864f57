/- The document's rune at a place is the decoder's. -/
import Derived.Test.YtkpmmikpdjhliaaDoorBUtf
import Derived.Test.YtkpmmikpdjhliaaDoorQx11
import Derived.Lib.TrimUEq
namespace Go.Proofs.YtkpmmikpdjhliaaDoor.Q
set_option linter.unusedVariables false
set_option linter.unusedSimpArgs false
open Go.RowKit Go.Proofs.YtkpmmikpdjhliaaDoorW.PrintWords Go.Proofs.YtkpmmikpdjhliaaDoorW.PrintLast Go.Proofs.YtkpmmikpdjhliaaDoorW.PrintMore

theorem atwr64 {a : Int} (h : -9223372036854775808 ≤ a) (h' : a ≤ 9223372036854775807) : wrap64 a = a := by unfold wrap64; omega
theorem atwr32 {a : Int} (h : -2147483648 ≤ a) (h' : a ≤ 2147483647) : wrap32 a = a := by unfold wrap32; omega
theorem bt_getD (s : ByteArray) (i : Int) (h : i.toNat < s.size) : bt s i = ((s.data.toList.getD i.toNat 0).toNat : Int) := by
  unfold bt
  rw [dif_pos h]
  have hl : i.toNat < s.data.toList.length := by rw [← Lib.size_eq]; exact h
  rw [List.getD_eq_getElem?_getD, List.getElem?_eq_getElem hl, Option.getD_some]
  rfl
def atFin (v least n : Int) : Option (Int × Int) := if v < least ∨ v > 1114111 ∨ (55296 ≤ v ∧ v ≤ 57343) then some (0, 0) else some (v, n)
theorem at_end (k : Nat) (s : ByteArray) (i n v least : Int) : usufructref02_At.l0 (k + 1) s i n v least n = atFin v least n := by
  rw [usufructref02_At.l0, if_neg (by omega)]
  unfold atFin
  repeat' split
  all_goals first | rfl | (exfalso; omega)
theorem at_step (k : Nat) (s : ByteArray) (i n v least j : Int) (h0 : 0 ≤ i) (hs : s.size ≤ 140737488351232) (hj : 1 ≤ j) (hjn : j < n) (hn : n ≤ 4) (hi : i + j < (s.size : Int)) (hv : 0 ≤ v) (hv1 : v ≤ 1000000) :
    usufructref02_At.l0 (k + 1) s i n v least j = if bt s (i + j) < 128 ∨ bt s (i + j) > 191 then some (0, 0) else usufructref02_At.l0 k s i n (64 * v + bt s (i + j) - 128) least (j + 1) := by
  have hb := bt_range s (i + j)
  rw [usufructref02_At.l0, if_pos hjn, atwr64 (a := i + j) (by omega) (by omega), if_pos (by omega), if_pos hi, atwr64 (a := j + 1) (by omega) (by omega), atwr32 (a := bt s (i + j)) (by omega) (by omega), atwr32 (a := 64 * v) (by omega) (by omega), atwr32 (a := 64 * v + bt s (i + j)) (by omega) (by omega), atwr32 (a := 64 * v + bt s (i + j) - 128) (by omega) (by omega)]
  repeat' split
  all_goals first | rfl | (exfalso; omega)
/-- From the number of bytes on. -/
theorem at_tail (k : Nat) (s : ByteArray) (i n v least : Int) (h0 : 0 ≤ i) (hs : s.size ≤ 140737488351232) (hi : i < (s.size : Int)) (hn : 0 < n) (hn4 : n ≤ 4) :
    usufructref02_At.j5 (k + 2) s i n v least = if i + n > (s.size : Int) then some (0, 0) else usufructref02_At.l0 k s i n v least 1 := by
  rw [usufructref02_At.j5, if_neg (by omega), atwr64 (a := i + n) (by omega) (by omega), usufructref02_At.j6]
  by_cases h : i + n > (s.size : Int)
  · rw [decide_eq_true h, if_pos rfl, if_pos h]
  · rw [decide_eq_false h, if_neg (by decide), if_neg h]
theorem at_none (k : Nat) (s : ByteArray) (i v least : Int) : usufructref02_At.j5 (k + 2) s i 0 v least = some (0, 0) := by
  rw [usufructref02_At.j5, if_pos rfl, usufructref02_At.j6, if_pos rfl]

/-! ### the decoder by its lead byte -/
def rB (b : Nat) : Prop := 128 ≤ b ∧ b ≤ 191
instance (b : Nat) : Decidable (rB b) := inferInstanceAs (Decidable (_ ∧ _))
set_option maxRecDepth 100000 in
set_option maxHeartbeats 4000000 in
theorem dec2 (n b0 b1 b2 b3 : Nat) (h : 194 ≤ b0) (h' : b0 ≤ 223) (h1 : b1 < 256) : Lib.decodeN n b0 b1 b2 b3 = if 1 < n ∧ (128 ≤ b1 ∧ b1 ≤ 191) then (64 * (b0 - 192) + b1 - 128, 2) else (65533, 1) := by
  unfold Lib.decodeN
  repeat' split
  all_goals first | rfl | (exfalso; omega) | (apply Prod.ext <;> simp only <;> omega)
set_option maxRecDepth 100000 in
set_option maxHeartbeats 4000000 in
theorem dec3 (n b0 b1 b2 b3 : Nat) (h : 224 ≤ b0) (h' : b0 ≤ 239) (h1 : b1 < 256) (h2 : b2 < 256) : Lib.decodeN n b0 b1 b2 b3 = if 2 < n ∧ (128 ≤ b1 ∧ b1 ≤ 191) ∧ (128 ≤ b2 ∧ b2 ≤ 191) ∧ 2048 ≤ 64 * (64 * (b0 - 224) + b1 - 128) + b2 - 128 ∧ ¬ (55296 ≤ 64 * (64 * (b0 - 224) + b1 - 128) + b2 - 128 ∧ 64 * (64 * (b0 - 224) + b1 - 128) + b2 - 128 ≤ 57343) then (64 * (64 * (b0 - 224) + b1 - 128) + b2 - 128, 3) else (65533, 1) := by
  unfold Lib.decodeN
  repeat' split
  all_goals first | rfl | (exfalso; omega) | (apply Prod.ext <;> simp only <;> omega)
set_option maxRecDepth 100000 in
set_option maxHeartbeats 4000000 in
theorem dec4 (n b0 b1 b2 b3 : Nat) (h : 240 ≤ b0) (h' : b0 ≤ 244) (h1 : b1 < 256) (h2 : b2 < 256) (h3 : b3 < 256) : Lib.decodeN n b0 b1 b2 b3 = if 3 < n ∧ (128 ≤ b1 ∧ b1 ≤ 191) ∧ (128 ≤ b2 ∧ b2 ≤ 191) ∧ (128 ≤ b3 ∧ b3 ≤ 191) ∧ 65536 ≤ 64 * (64 * (64 * (b0 - 240) + b1 - 128) + b2 - 128) + b3 - 128 ∧ 64 * (64 * (64 * (b0 - 240) + b1 - 128) + b2 - 128) + b3 - 128 ≤ 1114111 then (64 * (64 * (64 * (b0 - 240) + b1 - 128) + b2 - 128) + b3 - 128, 4) else (65533, 1) := by
  unfold Lib.decodeN
  repeat' split
  all_goals first | rfl | (exfalso; omega) | (apply Prod.ext <;> simp only <;> omega)
/-- What At answers: the rune and its bytes; (0, 0): none. -/
def atD (x : Nat × Nat) : Int × Int := if x.1 = 65533 ∧ x.2 = 1 then (0, 0) else ((x.1 : Int), (x.2 : Int))
theorem atD_bad : atD (65533, 1) = (0, 0) := rfl
theorem atD_two (v n : Nat) (h : 2 ≤ n) : atD (v, n) = ((v : Int), (n : Int)) := by
  unfold atD
  rw [if_neg (by simp only; omega)]
set_option maxHeartbeats 4000000 in
theorem at_spec (s : ByteArray) (i : Int) (hs : s.size ≤ 140737488351232) (h0 : 0 ≤ i) (h1 : i < (s.size : Int)) (k : Nat) (hk : 20 ≤ k) : usufructref02_At.f k s i = some (atD (Utf8.decode s i.toNat)) := by
  obtain ⟨p, rfl⟩ : ∃ p : Nat, i = (p : Int) := ⟨i.toNat, by omega⟩
  rw [Int.toNat_natCast, Lib.decode_N s p, ← Lib.size_eq]
  have hp : p < s.size := by omega
  have hbt : ∀ j : Nat, p + j < s.size → bt s ((p : Int) + (j : Int)) = ((s.data.toList.getD (p + j) 0).toNat : Int) := fun j hj => by
    rw [show ((p : Int) + (j : Int)) = ((p + j : Nat) : Int) by omega, bt_getD s _ (by rw [Int.toNat_natCast]; exact hj), Int.toNat_natCast]
  have e0 : bt s (p : Int) = ((s.data.toList.getD p 0).toNat : Int) := by
    have := hbt 0 (by omega)
    rwa [show ((p : Int) + ((0 : Nat) : Int)) = (p : Int) by omega] at this
  have e1 : p + 1 < s.size → bt s ((p : Int) + 1) = ((s.data.toList.getD (p + 1) 0).toNat : Int) := hbt 1
  have e2 : p + 2 < s.size → bt s ((p : Int) + 2) = ((s.data.toList.getD (p + 2) 0).toNat : Int) := hbt 2
  have e3 : p + 3 < s.size → bt s ((p : Int) + 3) = ((s.data.toList.getD (p + 3) 0).toNat : Int) := hbt 3
  have l0 := (s.data.toList.getD p 0).toNat_lt
  have l1 := (s.data.toList.getD (p + 1) 0).toNat_lt
  have l2 := (s.data.toList.getD (p + 2) 0).toNat_lt
  have l3 := (s.data.toList.getD (p + 3) 0).toNat_lt
  generalize (s.data.toList.getD p 0).toNat = b0 at *
  generalize (s.data.toList.getD (p + 1) 0).toNat = b1 at *
  generalize (s.data.toList.getD (p + 2) 0).toNat = b2 at *
  generalize (s.data.toList.getD (p + 3) 0).toNat = b3 at *
  clear hbt
  obtain ⟨k, rfl⟩ : ∃ q, k = q + 20 := ⟨k - 20, by omega⟩
  unfold usufructref02_At.f
  rw [if_pos h0, if_pos h1, e0]
  by_cases c0 : b0 < 128
  · rw [if_pos (by omega), Lib.decodeN_ascii _ _ _ _ _ c0, atwr32 (by omega) (by omega)]
    unfold atD
    rw [if_neg (by simp only; omega)]
    rfl
  · rw [if_neg (by omega)]
    by_cases c1 : b0 < 194
    · rw [if_neg (by omega), usufructref02_At.j0, if_neg (by decide), usufructref02_At.j1, if_neg (by omega), usufructref02_At.j2, if_neg (by decide), usufructref02_At.j3, if_neg (by omega), usufructref02_At.j4, if_neg (by decide), at_none, Lib.decodeN_bad _ _ _ _ _ (.inl ⟨by omega, c1⟩), atD_bad]
    · rw [if_pos (by omega)]
      by_cases c2 : b0 ≤ 223
      · rw [decide_eq_true (by omega), usufructref02_At.j0, if_pos rfl, usufructref02_At.j1, if_neg (by omega), usufructref02_At.j2, if_neg (by decide), usufructref02_At.j3, if_neg (by omega), usufructref02_At.j4, if_neg (by decide), at_tail _ _ _ _ _ _ h0 hs h1 (by omega) (by omega), atwr32 (a := (b0 : Int)) (by omega) (by omega), atwr32 (by omega) (by omega), dec2 _ _ _ _ _ (by omega) c2 l1]
        by_cases hn : 1 < s.size - p
        · rw [if_neg (by omega), at_step _ _ _ _ _ _ _ h0 hs (by omega) (by omega) (by omega) (by omega) (by omega) (by omega), e1 (by omega)]
          by_cases hb : 128 ≤ b1 ∧ b1 ≤ 191
          · rw [if_neg (by omega), if_pos ⟨hn, hb⟩, atD_two _ _ (by omega), show ((1 : Int) + 1) = 2 from rfl, at_end, atFin, if_neg (by omega)]
            exact congrArg some (Prod.ext (by simp only; omega) rfl)
          · rw [if_pos (by omega), if_neg (fun h => hb h.2), atD_bad]
        · rw [if_pos (by omega), if_neg (fun h => hn h.1), atD_bad]
      · rw [decide_eq_false (by omega), usufructref02_At.j0, if_neg (by decide), usufructref02_At.j1, if_pos (by omega)]
        by_cases c3 : b0 ≤ 239
        · rw [decide_eq_true (by omega), usufructref02_At.j2, if_pos rfl, usufructref02_At.j3, if_neg (by omega), usufructref02_At.j4, if_neg (by decide), at_tail _ _ _ _ _ _ h0 hs h1 (by omega) (by omega), atwr32 (a := (b0 : Int)) (by omega) (by omega), atwr32 (by omega) (by omega), dec3 _ _ _ _ _ (by omega) c3 l1 l2]
          by_cases hn : 2 < s.size - p
          · rw [if_neg (by omega), at_step _ _ _ _ _ _ _ h0 hs (by omega) (by omega) (by omega) (by omega) (by omega) (by omega), e1 (by omega)]
            by_cases hb : 128 ≤ b1 ∧ b1 ≤ 191
            · rw [if_neg (by omega), show ((1 : Int) + 1) = 2 from rfl, at_step _ _ _ _ _ _ _ h0 hs (by omega) (by omega) (by omega) (by omega) (by omega) (by omega), e2 (by omega)]
              by_cases hb2 : 128 ≤ b2 ∧ b2 ≤ 191
              · rw [if_neg (by omega), show ((2 : Int) + 1) = 3 from rfl, at_end, atFin]
                split
                · rw [if_neg (by omega), atD_bad]
                · rw [if_pos ⟨hn, hb, hb2, by omega, by omega⟩, atD_two _ _ (by omega)]
                  exact congrArg some (Prod.ext (by simp only; omega) rfl)
              · rw [if_pos (by omega), if_neg (fun h => hb2 h.2.2.1), atD_bad]
            · rw [if_pos (by omega), if_neg (fun h => hb h.2.1), atD_bad]
          · rw [if_pos (by omega), if_neg (fun h => hn h.1), atD_bad]
        · rw [decide_eq_false (by omega), usufructref02_At.j2, if_neg (by decide), usufructref02_At.j3, if_pos (by omega)]
          by_cases c4 : b0 ≤ 244
          · rw [decide_eq_true (by omega), usufructref02_At.j4, if_pos rfl, at_tail _ _ _ _ _ _ h0 hs h1 (by omega) (by omega), atwr32 (a := (b0 : Int)) (by omega) (by omega), atwr32 (by omega) (by omega), dec4 _ _ _ _ _ (by omega) c4 l1 l2 l3]
            by_cases hn : 3 < s.size - p
            · rw [if_neg (by omega), at_step _ _ _ _ _ _ _ h0 hs (by omega) (by omega) (by omega) (by omega) (by omega) (by omega), e1 (by omega)]
              by_cases hb : 128 ≤ b1 ∧ b1 ≤ 191
              · rw [if_neg (by omega), show ((1 : Int) + 1) = 2 from rfl, at_step _ _ _ _ _ _ _ h0 hs (by omega) (by omega) (by omega) (by omega) (by omega) (by omega), e2 (by omega)]
                by_cases hb2 : 128 ≤ b2 ∧ b2 ≤ 191
                · rw [if_neg (by omega), show ((2 : Int) + 1) = 3 from rfl, at_step _ _ _ _ _ _ _ h0 hs (by omega) (by omega) (by omega) (by omega) (by omega) (by omega), e3 (by omega)]
                  by_cases hb3 : 128 ≤ b3 ∧ b3 ≤ 191
                  · rw [if_neg (by omega), show ((3 : Int) + 1) = 4 from rfl, at_end, atFin]
                    split
                    · rw [if_neg (by omega), atD_bad]
                    · rw [if_pos ⟨hn, hb, hb2, hb3, by omega, by omega⟩, atD_two _ _ (by omega)]
                      exact congrArg some (Prod.ext (by simp only; omega) rfl)
                  · rw [if_pos (by omega), if_neg (fun h => hb3 h.2.2.2.1), atD_bad]
                · rw [if_pos (by omega), if_neg (fun h => hb2 h.2.2.1), atD_bad]
              · rw [if_pos (by omega), if_neg (fun h => hb h.2.1), atD_bad]
            · rw [if_pos (by omega), if_neg (fun h => hn h.1), atD_bad]
          · rw [decide_eq_false (by omega), usufructref02_At.j4, if_neg (by decide), at_none, Lib.decodeN_bad _ _ _ _ _ (.inr ⟨by omega, l0⟩), atD_bad]
end Go.Proofs.YtkpmmikpdjhliaaDoor.Q
