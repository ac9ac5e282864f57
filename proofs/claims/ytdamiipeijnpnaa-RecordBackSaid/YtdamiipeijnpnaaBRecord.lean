/- What record.Get comes to, in plain bytes. -/
import Derived.Test.YtdamiipeijnpnaaBSumRefD
import Derived.Test.YtdamiipeijnpnaaQx23
import Derived.Test.YtdamiipeijnpnaaQx22
import Derived.Test.YtdamiipeijnpnaaQx21
import Derived.Test.YtdamiipeijnpnaaQx19
import Derived.Test.YtdamiipeijnpnaaQx19
import Derived.Test.YtdamiipeijnpnaaGClone
namespace Go.Proofs.Ytdamiipeijnpnaa.Q
set_option linter.unusedVariables false
set_option linter.unusedSimpArgs false
open Go.RowKit Go.Proofs.YtdamiipeijnpnaaW.PrintWords Go.Proofs.YtdamiipeijnpnaaW.PrintLast Go.Proofs.YtdamiipeijnpnaaW.PrintMore

def Bytes (l : List Int) : Prop := ∀ c ∈ l, IsByte c
theorem Bytes.drop {l : List Int} (h : Bytes l) (n : Nat) : Bytes (l.drop n) := fun c hc => h c (List.mem_of_mem_drop hc)
theorem Bytes.take {l : List Int} (h : Bytes l) (n : Nat) : Bytes (l.take n) := fun c hc => h c (List.mem_of_mem_take hc)
theorem rd_byte {l : List Int} (h : Bytes l) (i : Int) : IsByte (rd l i) := by
  unfold rd
  rw [List.getD_eq_getElem?_getD]
  cases hi : l[i.toNat]? with
  | none => exact ⟨by decide, by decide⟩
  | some c => exact h c (List.mem_of_getElem? hi)
theorem U_nat {n : Nat} (h : n < 4294967296) : U (BitVec.ofNat 32 n) = (n : Int) := by
  unfold U
  rw [BitVec.toNat_ofNat, Nat.mod_eq_of_lt (by omega)]
theorem or_add (i p r : Nat) (hr : r < 2 ^ i) (hp : p * 2 ^ i + r < 4294967296) : Go.bits .or .u32 ((p * 2 ^ i : Nat) : Int) (r : Int) = ((p * 2 ^ i + r : Nat) : Int) := by
  rw [← U_nat (n := p * 2 ^ i) (by omega), ← U_nat (n := r) (by omega), or_U]
  unfold U
  rw [BitVec.toNat_or, BitVec.toNat_ofNat, BitVec.toNat_ofNat, Nat.mod_eq_of_lt (by omega), Nat.mod_eq_of_lt (by omega), ← Nat.shiftLeft_eq, ← Nat.shiftLeft_add_eq_or_of_lt hr]
/-- Four bytes as a number, the highest first. -/
def b4 (ys : List Int) : Int := rd ys 0 * 16777216 + rd ys 1 * 65536 + rd ys 2 * 256 + rd ys 3
theorem b4_range {ys : List Int} (hb : Bytes ys) : 0 ≤ b4 ys ∧ b4 ys < 4294967296 := by
  unfold b4
  have h0 := rd_byte hb 0
  have h1 := rd_byte hb 1
  have h2 := rd_byte hb 2
  have h3 := rd_byte hb 3
  unfold IsByte at *
  omega
theorem back_eq {ys : List Int} (hb : Bytes ys) (hl : 4 ≤ ys.length) : record_back.f ys = some (b4 ys) := by
  unfold record_back.f b4
  rw [if_pos (by omega), if_pos (by omega), if_pos (by omega), if_pos (by omega)]
  have h0 := rd_byte hb 0
  have h1 := rd_byte hb 1
  have h2 := rd_byte hb 2
  have h3 := rd_byte hb 3
  unfold IsByte at *
  generalize rd ys 0 = a at *
  generalize rd ys 1 = b at *
  generalize rd ys 2 = c at *
  generalize rd ys 3 = d at *
  obtain ⟨a, rfl⟩ := Int.eq_ofNat_of_zero_le h0.1
  obtain ⟨b, rfl⟩ := Int.eq_ofNat_of_zero_le h1.1
  obtain ⟨c, rfl⟩ := Int.eq_ofNat_of_zero_le h2.1
  obtain ⟨d, rfl⟩ := Int.eq_ofNat_of_zero_le h3.1
  have e1 : (((a : Int) % 4294967296) * 16777216) % 4294967296 = ((a * 2 ^ 24 : Nat) : Int) := by omega
  have e2 : (((b : Int) % 4294967296) * 65536) % 4294967296 = ((b * 2 ^ 16 : Nat) : Int) := by omega
  have e3 : (((c : Int) % 4294967296) * 256) % 4294967296 = ((c * 2 ^ 8 : Nat) : Int) := by omega
  have e4 : (d : Int) % 4294967296 = (d : Int) := by omega
  rw [e1, e2, e3, e4, or_add 24 a (b * 2 ^ 16) (by omega) (by omega), show a * 2 ^ 24 + b * 2 ^ 16 = (a * 256 + b) * 2 ^ 16 by omega, or_add 16 (a * 256 + b) (c * 2 ^ 8) (by omega) (by omega),
    show (a * 256 + b) * 2 ^ 16 + c * 2 ^ 8 = ((a * 256 + b) * 256 + c) * 2 ^ 8 by omega, or_add 8 _ d (by omega) (by omega)]
  refine congrArg some ?_
  omega
theorem of_eq {l : List Int} (hb : Bytes l) : sum_Of.f l = some (U (crc l)) := by
  unfold sum_Of.f
  rw [more_zero hb]
  rfl
theorem recSize_eq (n : Int) (h0 : 0 ≤ n) (h1 : n ≤ 65536) : record_Size.f n = some (13 + n) := by
  unfold record_Size.f
  rw [if_neg (by omega), if_neg (by omega)]
  congr 1
  unfold wrap64
  omega
/-- The length that a head tells, or what is wrong with it. -/
def hdL (xs : List Int) : Int × Int :=
  if xs = [] then (0, 2) else if rd xs 0 ≠ 90 then (0, 3) else if xs.length < 9 then (0, 2) else if U (crc ((xs.take 5).drop 1)) ≠ b4 ((xs.take 9).drop 5) then (0, 5) else if b4 ((xs.take 5).drop 1) > 65536 then (0, 4) else (b4 ((xs.take 5).drop 1), 0)
theorem length_eq {xs : List Int} (hb : Bytes xs) {k : Nat} (hk : 1 ≤ k) : record_length.f k xs = some (hdL xs) := by
  obtain ⟨k, rfl⟩ : ∃ m, k = m + 1 := ⟨k - 1, by omega⟩
  unfold record_length.f hdL
  by_cases h0 : xs = []
  · subst h0
    rw [if_neg (by simp), record_length.j0, if_neg (by simp), if_pos (by simp), if_pos rfl]
  · have hl : 0 < xs.length := List.length_pos_iff.2 h0
    have i0 : ((xs.length : Int) > 0) := by omega
    have i1 : (0 < (xs.length : Int)) := by omega
    rw [if_pos i0, if_pos i1, if_neg h0, record_length.j0]
    by_cases h1 : rd xs 0 = 90
    · rw [if_neg (show ¬ ((rd xs 0 != 90) = true) by rw [h1]; decide), if_neg (show ¬ (rd xs 0 ≠ 90) from fun h => h h1)]
      by_cases h2 : xs.length < 9
      · rw [if_pos (show (xs.length : Int) < 9 by omega), if_pos h2]
      · have l1 : ((xs.take 5).drop 1).length = 4 := by rw [List.length_drop, List.length_take]; omega
        have l2 : ((xs.take 9).drop 5).length = 4 := by rw [List.length_drop, List.length_take]; omega
        rw [if_neg (show ¬ ((xs.length : Int) < 9) by omega), if_neg h2, if_pos (show 1 ≤ 5 by decide), if_pos (show (5 : Int) ≤ (xs.length : Int) by omega), of_eq ((hb.take 5).drop 1), Option.bind_some, if_pos (show 5 ≤ 9 by decide), if_pos (show (9 : Int) ≤ (xs.length : Int) by omega), back_eq ((hb.take 9).drop 5) (by omega), Option.bind_some]
        by_cases h3 : U (crc ((xs.take 5).drop 1)) = b4 ((xs.take 9).drop 5)
        · rw [if_pos h3, if_neg (show ¬ (U (crc ((xs.take 5).drop 1)) ≠ b4 ((xs.take 9).drop 5)) from fun h => h h3), back_eq ((hb.take 5).drop 1) (by omega), Option.bind_some]
          have hr := b4_range ((hb.take 5).drop 1)
          by_cases h4 : b4 ((xs.take 5).drop 1) > 65536
          · rw [if_pos h4, if_pos h4]
          · rw [if_neg h4, if_neg h4, show wrap64 (b4 ((xs.take 5).drop 1)) = b4 ((xs.take 5).drop 1) by unfold wrap64; omega]
        · rw [if_neg h3, if_pos (show U (crc ((xs.take 5).drop 1)) ≠ b4 ((xs.take 9).drop 5) from h3)]
    · rw [if_pos (show ((rd xs 0 != 90) = true) by simpa using h1), if_pos (show rd xs 0 ≠ 90 from h1)]
/-- What Get answers from the beginning of bytes. -/
def getG (xs : List Int) : List Int × Int × Int :=
  if (hdL xs).2 ≠ 0 then ([], 0, (hdL xs).2) else if (xs.length : Int) < 13 + (hdL xs).1 then ([], 0, 2) else
    if U (crc ((xs.take (9 + (hdL xs).1).toNat).drop 9)) ≠ b4 (xs.drop (9 + (hdL xs).1).toNat) then ([], 0, 5) else ((xs.take (9 + (hdL xs).1).toNat).drop 9, 13 + (hdL xs).1, 0)
theorem hdL_range {xs : List Int} (hb : Bytes xs) : 0 ≤ (hdL xs).1 ∧ (hdL xs).1 ≤ 65536 := by
  have hr := b4_range ((hb.take 5).drop 1)
  unfold hdL
  repeat' split
  all_goals simp only
  all_goals omega
theorem get_eq {xs : List Int} (hb : Bytes xs) (hl : xs.length ≤ 1000000) (a : Nat) (ha : a ≤ xs.length) {k : Nat} (hk : 2 ≤ k) : record_Get.f k xs (a : Int) = some (getG (xs.drop a)) := by
  obtain ⟨k, rfl⟩ : ∃ m, k = m + 1 := ⟨k - 1, by omega⟩
  unfold record_Get.f
  rw [if_neg (by omega), decide_eq_false (by omega), record_Get.j0, if_neg (by simp), if_pos (by omega), if_pos (by omega), Int.toNat_natCast, length_eq (hb.drop a) (by omega), Option.bind_some]
  have hr := hdL_range (hb.drop a)
  have hbd := hb.drop a
  have hld : (xs.drop a).length ≤ 1000000 := by rw [List.length_drop]; omega
  unfold getG
  generalize xs.drop a = ys at *
  generalize hh : hdL ys = g at *
  obtain ⟨n, e⟩ := g
  dsimp only at hr ⊢
  by_cases he : e = 0
  · rw [if_pos he, if_neg (show ¬ (e ≠ 0) from fun h => h he), recSize_eq n hr.1 hr.2, Option.bind_some]
    by_cases h1 : (ys.length : Int) < 13 + n
    · rw [if_pos h1, if_pos h1]
    · have hw : wrap64 (9 + n) = 9 + n := by unfold wrap64; omega
      have l1 : ((ys.take (9 + n).toNat).drop 9).length = n.toNat := by rw [List.length_drop, List.length_take]; omega
      have l2 : 4 ≤ (ys.drop (9 + n).toNat).length := by rw [List.length_drop]; omega
      rw [if_neg h1, if_neg h1, hw, if_pos (show (9 : Int) ≤ 9 + n by omega), if_pos (show 9 + n ≤ (ys.length : Int) by omega), of_eq ((hbd.take _).drop 9), Option.bind_some, if_pos (show (0 : Int) ≤ 9 + n by omega), back_eq (hbd.drop _) l2, Option.bind_some]
      by_cases h2 : U (crc ((ys.take (9 + n).toNat).drop 9)) = b4 (ys.drop (9 + n).toNat)
      · rw [if_pos h2, if_neg (show ¬ (U (crc ((ys.take (9 + n).toNat).drop 9)) ≠ b4 (ys.drop (9 + n).toNat)) from fun h => h h2)]
        unfold slices_Clone_byte_byte.f
        rw [if_pos (show ((ys.take (9 + n).toNat).drop 9).length < 140737488355328 by omega), Option.bind_some, Option.bind_some]
      · rw [if_neg h2, if_pos (show U (crc ((ys.take (9 + n).toNat).drop 9)) ≠ b4 (ys.drop (9 + n).toNat) from h2)]
  · rw [if_neg he, if_pos (show e ≠ 0 from he)]
end Go.Proofs.Ytdamiipeijnpnaa.Q
