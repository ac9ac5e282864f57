/- The document's sum, bit by bit, is the sum; its sealed bytes are the sealed ones; what it opens is what is opened. -/
import Derived.Test.YtdamiipeijnpnaaBCrc
import Derived.Test.YtdamiipeijnpnaaQx27
import Derived.Lib.Bytes
namespace Go.Proofs.Ytdamiipeijnpnaa.Q
set_option linter.unusedVariables false
set_option linter.unusedSimpArgs false
open Go.RowKit Go.Proofs.YtdamiipeijnpnaaW.PrintWords Go.Proofs.YtdamiipeijnpnaaW.PrintLast Go.Proofs.YtdamiipeijnpnaaW.PrintMore

theorem rd_at {l : List Int} {n : Nat} (h : n < l.length) : rd l (n : Int) = l[n] := by simp [rd, h]
theorem stepN_first (x : BitVec 32) : ∀ n, stepN (n + 1) x = stepN n (step1 x)
  | 0 => rfl
  | n + 1 => by
    show step1 (stepN (n + 1) x) = step1 (stepN n (step1 x))
    rw [stepN_first x n]
theorem odd_U (x : BitVec 32) : (Int.tmod (U x) 2 = 1) ↔ x.getLsbD 0 = true := by
  have h1 : Int.tmod (U x) 2 = U x % 2 := Int.tmod_eq_emod_of_nonneg (U_lo x)
  rw [h1, BitVec.getLsbD, Nat.testBit_zero, decide_eq_true_iff]
  unfold U
  omega
theorem half_U (x : BitVec 32) : (Int.tdiv (U x) 2) % (4294967296 : Int) = U (x >>> 1) := by
  rw [Int.tdiv_eq_ediv_of_nonneg (U_lo x), div_U x 1 2 rfl]
  exact Int.emod_eq_of_lt (U_lo _) (U_hi _)
theorem ref_bits (l : List Int) (j : Int) : ∀ (n : Nat) (i : Nat) (x : BitVec 32) (m : Nat), i + n = 8 →
    usufructref03_Of.l1 (m + n + 1) l (U x) j (i : Int) = usufructref03_Of.l0 m l (U (stepN n x)) (wrap64 (j + 1))
  | 0, i, x, m, h => by
    show (if (i : Int) < 8 then _ else _) = _
    rw [if_neg (by omega)]
    rfl
  | n + 1, i, x, m, h => by
    have e1 : wrap64 ((i : Int) + 1) = ((i + 1 : Nat) : Int) := by unfold wrap64; omega
    show (if (i : Int) < 8 then _ else _) = _
    rw [if_pos (by omega), e1, stepN_first]
    by_cases hc : x.getLsbD 0 = true
    · rw [if_pos ((odd_U x).2 hc), half_U, show (3988292384 : Int) = U poly from rfl, xor_U]
      have e : step1 x = (x >>> 1) ^^^ poly := by unfold step1; rw [if_pos hc]
      rw [← e]
      exact ref_bits l j n (i + 1) (step1 x) m (by omega)
    · rw [if_neg (fun h => hc ((odd_U x).1 h)), half_U]
      have e : step1 x = x >>> 1 := by unfold step1; rw [if_neg hc, BitVec.xor_zero]
      rw [← e]
      exact ref_bits l j n (i + 1) (step1 x) m (by omega)
theorem ref_fold {l : List Int} (hb : ∀ c ∈ l, IsByte c) (hl : l.length ≤ 100000000) : ∀ (n i : Nat) (s : BitVec 32) (m : Nat), i + n = l.length →
    usufructref03_Of.l0 (m + 1 + 10 * n) l (U s) (i : Int) = some (Go.bits .xor .u32 (U (fold s (l.drop i))) 4294967295)
  | 0, i, s, m, h => by
    show (if (i : Int) < (l.length : Int) then _ else _) = _
    rw [if_neg (by omega), List.drop_eq_nil_of_le (by omega)]
    rfl
  | n + 1, i, s, m, h => by
    have hi : i < l.length := by omega
    have e1 : wrap64 ((i : Int) + 1) = ((i + 1 : Nat) : Int) := by unfold wrap64; omega
    have hc := hb _ (List.getElem_mem hi)
    rw [show m + 1 + 10 * (n + 1) = ((m + 1 + 10 * n) + 8 + 1) + 1 by omega]
    show (if (i : Int) < (l.length : Int) then _ else _) = _
    rw [if_pos (by omega), if_pos (by omega), rd_at hi, Int.emod_eq_of_lt hc.1 (by have := hc.2; omega)]
    conv => lhs; rw [show l[i] = U (B l[i]) from (U_B hc).symm]
    rw [xor_U, ← show ((0 : Nat) : Int) = (0 : Int) from rfl, ref_bits l (i : Int) 8 0 _ _ rfl, e1]
    have e2 : l.drop i = l[i] :: l.drop (i + 1) := List.drop_eq_getElem_cons hi
    rw [ref_fold hb hl n (i + 1) _ m (by omega), e2]
    rfl
theorem ref_of {l : List Int} (hb : ∀ c ∈ l, IsByte c) (hl : l.length ≤ 100000000) {k : Nat} (hk : 1 + 10 * l.length ≤ k) : usufructref03_Of.f k l = some (U (crc l)) := by
  obtain ⟨m, rfl⟩ : ∃ m, k = m + 1 + 10 * l.length := ⟨k - (1 + 10 * l.length), by omega⟩
  unfold usufructref03_Of.f
  have h := ref_fold hb hl l.length 0 (BitVec.allOnes 32) m (by omega)
  rw [show (U (BitVec.allOnes 32) : Int) = 4294967295 from rfl] at h
  rw [show ((0 : Nat) : Int) = (0 : Int) from rfl] at h
  rw [h]
  rw [show (4294967295 : Int) = U (BitVec.allOnes 32) from rfl, xor_U, BitVec.xor_allOnes]
  rfl
theorem str_inj {l m : List Int} (hl : ∀ c ∈ l, IsByte c) (hm : ∀ c ∈ m, IsByte c) (h : (strOfNums l).toList = (strOfNums m).toList) : l = m := by
  rw [Lib.strOfNums_toList, Lib.strOfNums_toList] at h
  unfold Lib.bytesOf at h
  induction l generalizing m with
  | nil => cases m with
    | nil => rfl
    | cons d m => simp at h
  | cons c l ih => cases m with
    | nil => simp at h
    | cons d m =>
      simp only [List.map_cons, List.cons.injEq] at h
      have hc := hl c (by simp)
      have hd := hm d (by simp)
      have e : c = d := by
        have h1 := congrArg UInt8.toNat h.1
        rw [UInt8.toNat_ofNat', UInt8.toNat_ofNat'] at h1
        have := hc.1; have := hc.2; have := hd.1; have := hd.2
        omega
      rw [e, ih (fun x hx => hl x (by simp [hx])) (fun x hx => hm x (by simp [hx])) h.2]
end Go.Proofs.Ytdamiipeijnpnaa.Q
