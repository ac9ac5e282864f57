/- What layer 3's functions come to. -/
import Derived.Test.YtdbelgfkhollnaaBCrc
import Derived.Test.YtdbelgfkhollnaaGConcat
import Derived.Test.YtdbelgfkhollnaaQx1
import Derived.Test.YtdbelgfkhollnaaQx1
import Derived.Test.YtdbelgfkhollnaaQx7
import Derived.Test.YtdbelgfkhollnaaQx6
namespace Go.Proofs.Ytdbelgfkhollnaa.Q
open Go.RowKit Go.Proofs.YtdbelgfkhollnaaW.PrintWords Go.Proofs.YtdbelgfkhollnaaW.PrintLast Go.Proofs.YtdbelgfkhollnaaW.PrintMore
set_option linter.unusedVariables false

theorem bytes_of {l : List Int} (h : ∀ x ∈ l, (Lit.int .u8 x).wf = true) : ∀ c ∈ l, IsByte c := fun c hc => bounds_u8 (h c hc)
theorem of_eq {l : List Int} (h : ∀ c ∈ l, IsByte c) : sum_Of.f l = some (U (crc l)) := by
  unfold sum_Of.f
  rw [more_zero h]
  rfl
theorem seal_eq {l : List Int} (h : ∀ c ∈ l, IsByte c) (hl : l.length ≤ 100000000) : sum_Seal.f l = some (l ++ le4 (U (crc l))) := by
  unfold sum_Seal.f
  rw [of_eq h]
  simp only [Option.bind_some]
  unfold slices_Concat_byte_byte.f
  rw [if_pos (by simp; omega)]
  simp [le4]
theorem fits_eq {l : List Int} (h : ∀ c ∈ l, IsByte c) (s : Int) : sum_Fits.f l s = some (U (crc l) == s) := by
  unfold sum_Fits.f
  rw [of_eq h]
  rfl
theorem or_nat (a b : Nat) (ha : a < 4294967296) (hb : b < 4294967296) : Go.bits .or .u32 (a : Int) (b : Int) = ((a ||| b : Nat) : Int) := by
  have h1 : U (BitVec.ofNat 32 a) = (a : Int) := by unfold U; rw [BitVec.toNat_ofNat, Nat.mod_eq_of_lt ha]
  have h2 : U (BitVec.ofNat 32 b) = (b : Int) := by unfold U; rw [BitVec.toNat_ofNat, Nat.mod_eq_of_lt hb]
  rw [← h1, ← h2, or_U]
  unfold U
  rw [BitVec.toNat_or, BitVec.toNat_ofNat, BitVec.toNat_ofNat, Nat.mod_eq_of_lt ha, Nat.mod_eq_of_lt hb]
/-- A number out of its four bytes, the lowest first. -/
theorem dec4 {a b c d : Int} (ha : IsByte a) (hb : IsByte b) (hc : IsByte c) (hd : IsByte d) :
    Go.bits .or .u32 (Go.bits .or .u32 (Go.bits .or .u32 (a % 4294967296) ((b % 4294967296 * 256) % 4294967296)) ((c % 4294967296 * 65536) % 4294967296)) ((d % 4294967296 * 16777216) % 4294967296) = a + 256 * b + 65536 * c + 16777216 * d := by
  obtain ⟨a, rfl⟩ := Int.eq_ofNat_of_zero_le ha.1
  obtain ⟨b, rfl⟩ := Int.eq_ofNat_of_zero_le hb.1
  obtain ⟨c, rfl⟩ := Int.eq_ofNat_of_zero_le hc.1
  obtain ⟨d, rfl⟩ := Int.eq_ofNat_of_zero_le hd.1
  have a1 := ha.2; have b1 := hb.2; have c1 := hc.2; have d1 := hd.2
  have e0 : (a : Int) % 4294967296 = (a : Nat) := by omega
  have e1 : ((b : Int) % 4294967296 * 256) % 4294967296 = ((2 ^ 8 * b : Nat) : Int) := by omega
  have e2 : ((c : Int) % 4294967296 * 65536) % 4294967296 = ((2 ^ 16 * c : Nat) : Int) := by omega
  have e3 : ((d : Int) % 4294967296 * 16777216) % 4294967296 = ((2 ^ 24 * d : Nat) : Int) := by omega
  have o1 : a ||| 2 ^ 8 * b = 2 ^ 8 * b + a := by rw [Nat.or_comm]; exact (Nat.two_pow_add_eq_or_of_lt (by omega) _).symm
  have o2 : (2 ^ 8 * b + a) ||| 2 ^ 16 * c = 2 ^ 16 * c + (2 ^ 8 * b + a) := by rw [Nat.or_comm]; exact (Nat.two_pow_add_eq_or_of_lt (by omega) _).symm
  have o3 : (2 ^ 16 * c + (2 ^ 8 * b + a)) ||| 2 ^ 24 * d = 2 ^ 24 * d + (2 ^ 16 * c + (2 ^ 8 * b + a)) := by rw [Nat.or_comm]; exact (Nat.two_pow_add_eq_or_of_lt (by omega) _).symm
  rw [e0, e1, or_nat _ _ (by omega) (by omega), o1, e2, or_nat _ _ (by omega) (by omega), o2, e3, or_nat _ _ (by omega) (by omega), o3]
  omega
theorem rd_at {l : List Int} {n : Nat} (h : n < l.length) : rd l (n : Int) = l[n] := by simp [rd, h]
/-- What is opened: bytes, and four behind them. -/
theorem open_eq {m : List Int} {a b c d : Int} (hm : ∀ x ∈ m, IsByte x) (ha : IsByte a) (hb : IsByte b) (hc : IsByte c) (hd : IsByte d) (hl : m.length ≤ 100000000) :
    sum_Open.f (m ++ [a, b, c, d]) = some (if U (crc m) = a + 256 * b + 65536 * c + 16777216 * d then (m, true) else ([], false)) := by
  have hlen : (m ++ [a, b, c, d]).length = m.length + 4 := by simp
  have e0 : wrap64 (((m ++ [a, b, c, d]).length : Int) - 4) = (m.length : Int) := by rw [hlen]; unfold wrap64; omega
  have e1 : wrap64 ((m.length : Int) + 1) = ((m.length + 1 : Nat) : Int) := by unfold wrap64; omega
  have e2 : wrap64 ((m.length : Int) + 2) = ((m.length + 2 : Nat) : Int) := by unfold wrap64; omega
  have e3 : wrap64 ((m.length : Int) + 3) = ((m.length + 3 : Nat) : Int) := by unfold wrap64; omega
  unfold sum_Open.f
  rw [e0, e1, e2, e3, hlen]
  rw [if_neg (by omega), if_pos (by omega), if_pos (by omega), if_pos (by omega), if_pos (by omega), if_pos (by omega), if_pos (by omega), if_pos (by omega), if_pos (by omega), if_pos (by omega)]
  rw [Int.toNat_natCast, rd_at (by omega), rd_at (by omega), rd_at (by omega), rd_at (by omega)]
  have t : (m ++ [a, b, c, d]).take m.length = m := by simp
  rw [t]
  simp only [List.getElem_append_right (Nat.le_refl m.length), List.getElem_append_right (Nat.le_add_right m.length _), Nat.sub_self, Nat.add_sub_cancel_left, List.getElem_cons_zero, List.getElem_cons_succ]
  rw [dec4 ha hb hc hd, fits_eq hm]
  simp only [Option.bind_some]
  unfold slices_Clone_byte_byte.f
  by_cases h : U (crc m) = a + 256 * b + 65536 * c + 16777216 * d
  · rw [if_pos (by simpa using h), if_pos (by omega), if_pos h]
    rfl
  · rw [if_neg (by simpa using h), if_neg h]
theorem le4_dec (x : BitVec 32) : U x % 256 + 256 * (U x / 256 % 256) + 65536 * (U x / 65536 % 256) + 16777216 * (U x / 16777216 % 256) = U x := by
  have := U_lo x; have := U_hi x
  omega
end Go.Proofs.Ytdbelgfkhollnaa.Q
