/- The document's sum, bit by bit, is the sum; its sealed bytes are the sealed ones; what it opens is what is opened. -/
import Derived.Test.YtdbelgfkhollnaaBSeal
import Derived.Test.YtdbelgfkhollnaaQx5
import Derived.Lib.Bytes
namespace Go.Proofs.Ytdbelgfkhollnaa.Q
set_option linter.unusedVariables false
set_option linter.unusedSimpArgs false
open Go.RowKit Go.Proofs.YtdbelgfkhollnaaW.PrintWords Go.Proofs.YtdbelgfkhollnaaW.PrintLast Go.Proofs.YtdbelgfkhollnaaW.PrintMore

theorem stepN_first (x : BitVec 32) : ∀ n, stepN (n + 1) x = stepN n (step1 x)
  | 0 => rfl
  | n + 1 => by
    show step1 (stepN (n + 1) x) = step1 (stepN n (step1 x))
    rw [stepN_first x n]
theorem odd_U (x : BitVec 32) : (Int.tmod (U x) 2 = 1) ↔ x.getLsbD 0 = true := by
  have h1 : Int.tmod (U x) 2 = U x % 2 := Int.tmod_eq_emod_of_nonneg (U_lo x)
  rw [h1, BitVec.getLsbD, Nat.testBit_zero, decide_eq_true_iff]
  unfold U
  omega
theorem half_U (x : BitVec 32) : (Int.tdiv (U x) 2) % (4294967296 : Int) = U (x >>> 1) := by
  rw [Int.tdiv_eq_ediv_of_nonneg (U_lo x), div_U x 1 2 rfl]
  exact Int.emod_eq_of_lt (U_lo _) (U_hi _)
theorem ref_bits (l : List Int) (j : Int) : ∀ (n : Nat) (i : Nat) (x : BitVec 32) (m : Nat), i + n = 8 →
    usufructref03_Of.l1 (m + n + 1) l (U x) j (i : Int) = usufructref03_Of.l0 m l (U (stepN n x)) (wrap64 (j + 1))
  | 0, i, x, m, h => by
    show (if (i : Int) < 8 then _ else _) = _
    rw [if_neg (by omega)]
    rfl
  | n + 1, i, x, m, h => by
    have e1 : wrap64 ((i : Int) + 1) = ((i + 1 : Nat) : Int) := by unfold wrap64; omega
    show (if (i : Int) < 8 then _ else _) = _
    rw [if_pos (by omega), e1, stepN_first]
    by_cases hc : x.getLsbD 0 = true
    · rw [if_pos ((odd_U x).2 hc), half_U, show (3988292384 : Int) = U poly from rfl, xor_U]
      have e : step1 x = (x >>> 1) ^^^ poly := by unfold step1; rw [if_pos hc]
      rw [← e]
      exact ref_bits l j n (i + 1) (step1 x) m (by omega)
    · rw [if_neg (fun h => hc ((odd_U x).1 h)), half_U]
      have e : step1 x = x >>> 1 := by unfold step1; rw [if_neg hc, BitVec.xor_zero]
      rw [← e]
      exact ref_bits l j n (i + 1) (step1 x) m (by omega)
theorem ref_fold {l : List Int} (hb : ∀ c ∈ l, IsByte c) (hl : l.length ≤ 100000000) : ∀ (n i : Nat) (s : BitVec 32) (m : Nat), i + n = l.length →
    usufructref03_Of.l0 (m + 1 + 10 * n) l (U s) (i : Int) = some (Go.bits .xor .u32 (U (fold s (l.drop i))) 4294967295)
  | 0, i, s, m, h => by
    show (if (i : Int) < (l.length : Int) then _ else _) = _
    rw [if_neg (by omega), List.drop_eq_nil_of_le (by omega)]
    rfl
  | n + 1, i, s, m, h => by
    have hi : i < l.length := by omega
    have e1 : wrap64 ((i : Int) + 1) = ((i + 1 : Nat) : Int) := by unfold wrap64; omega
    have hc := hb _ (List.getElem_mem hi)
    rw [show m + 1 + 10 * (n + 1) = ((m + 1 + 10 * n) + 8 + 1) + 1 by omega]
    show (if (i : Int) < (l.length : Int) then _ else _) = _
    rw [if_pos (by omega), if_pos (by omega), rd_at hi, Int.emod_eq_of_lt hc.1 (by have := hc.2; omega)]
    conv => lhs; rw [show l[i] = U (B l[i]) from (U_B hc).symm]
    rw [xor_U, ← show ((0 : Nat) : Int) = (0 : Int) from rfl, ref_bits l (i : Int) 8 0 _ _ rfl, e1]
    have e2 : l.drop i = l[i] :: l.drop (i + 1) := List.drop_eq_getElem_cons hi
    rw [ref_fold hb hl n (i + 1) _ m (by omega), e2]
    rfl
theorem ref_of {l : List Int} (hb : ∀ c ∈ l, IsByte c) (hl : l.length ≤ 100000000) {k : Nat} (hk : 1 + 10 * l.length ≤ k) : usufructref03_Of.f k l = some (U (crc l)) := by
  obtain ⟨m, rfl⟩ : ∃ m, k = m + 1 + 10 * l.length := ⟨k - (1 + 10 * l.length), by omega⟩
  unfold usufructref03_Of.f
  have h := ref_fold hb hl l.length 0 (BitVec.allOnes 32) m (by omega)
  rw [show (U (BitVec.allOnes 32) : Int) = 4294967295 from rfl] at h
  rw [show ((0 : Nat) : Int) = (0 : Int) from rfl] at h
  rw [h]
  rw [show (4294967295 : Int) = U (BitVec.allOnes 32) from rfl, xor_U, BitVec.xor_allOnes]
  rfl
theorem ref_seal {l : List Int} (hb : ∀ c ∈ l, IsByte c) (hl : l.length ≤ 100000000) {k : Nat} (hk : 5 + 10 * l.length ≤ k) : usufructref03_Seal.f k l = some (l ++ le4 (U (crc l))) := by
  unfold usufructref03_Seal.f
  rw [ref_of hb hl (by omega), Option.bind_some, Option.bind_some, if_pos (by simp only [List.length_nil]; omega), List.nil_append]
  generalize crc l = x
  obtain ⟨m, rfl⟩ : ∃ m, k = m + 1 + 1 + 1 + 1 + 1 := ⟨k - 5, by omega⟩
  have h0 := U_lo x
  have h1 := U_hi x
  unfold le4
  generalize U x = u at *
  have d1 : (Int.tdiv u 256) % 4294967296 = u / 256 := by rw [Int.tdiv_eq_ediv_of_nonneg h0]; omega
  have d2 : (Int.tdiv (u / 256) 256) % 4294967296 = u / 65536 := by rw [Int.tdiv_eq_ediv_of_nonneg (by omega)]; omega
  have d3 : (Int.tdiv (u / 65536) 256) % 4294967296 = u / 16777216 := by rw [Int.tdiv_eq_ediv_of_nonneg (by omega)]; omega
  have m0 : (Int.tmod u 256) % 256 = u % 256 := by rw [Int.tmod_eq_emod_of_nonneg h0]; omega
  have m1 : (Int.tmod (u / 256) 256) % 256 = u / 256 % 256 := by rw [Int.tmod_eq_emod_of_nonneg (by omega)]; omega
  have m2 : (Int.tmod (u / 65536) 256) % 256 = u / 65536 % 256 := by rw [Int.tmod_eq_emod_of_nonneg (by omega)]; omega
  have m3 : (Int.tmod (u / 16777216) 256) % 256 = u / 16777216 % 256 := by rw [Int.tmod_eq_emod_of_nonneg (by omega)]; omega
  rw [usufructref03_Seal.l0, if_pos (by omega), if_pos (by omega), d1, m0, show wrap64 ((0 : Int) + 1) = 1 from by unfold wrap64; omega]
  rw [usufructref03_Seal.l0, if_pos (by omega), if_pos (by simp only [List.length_append, List.length_cons, List.length_nil]; omega), d2, m1, show wrap64 ((1 : Int) + 1) = 2 from by unfold wrap64; omega]
  rw [usufructref03_Seal.l0, if_pos (by omega), if_pos (by simp only [List.length_append, List.length_cons, List.length_nil]; omega), d3, m2, show wrap64 ((2 : Int) + 1) = 3 from by unfold wrap64; omega]
  rw [usufructref03_Seal.l0, if_pos (by omega), if_pos (by simp only [List.length_append, List.length_cons, List.length_nil]; omega), m3, show wrap64 ((3 : Int) + 1) = 4 from by unfold wrap64; omega]
  rw [usufructref03_Seal.l0, if_neg (by omega)]
  simp only [List.append_assoc, List.cons_append, List.nil_append]
theorem str_inj {l m : List Int} (hl : ∀ c ∈ l, IsByte c) (hm : ∀ c ∈ m, IsByte c) (h : (strOfNums l).toList = (strOfNums m).toList) : l = m := by
  rw [Lib.strOfNums_toList, Lib.strOfNums_toList] at h
  unfold Lib.bytesOf at h
  induction l generalizing m with
  | nil => cases m with
    | nil => rfl
    | cons d m => simp at h
  | cons c l ih => cases m with
    | nil => simp at h
    | cons d m =>
      simp only [List.map_cons, List.cons.injEq] at h
      have hc := hl c (by simp)
      have hd := hm d (by simp)
      have e : c = d := by
        have h1 := congrArg UInt8.toNat h.1
        rw [UInt8.toNat_ofNat', UInt8.toNat_ofNat'] at h1
        have := hc.1; have := hc.2; have := hd.1; have := hd.2
        omega
      rw [e, ih (fun x hx => hl x (by simp [hx])) (fun x hx => hm x (by simp [hx])) h.2]
end Go.Proofs.Ytdbelgfkhollnaa.Q
