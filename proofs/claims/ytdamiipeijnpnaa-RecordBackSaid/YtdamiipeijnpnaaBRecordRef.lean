/- The document's Get and All, and record.All, in plain bytes: one and the same. -/
import Derived.Test.YtdamiipeijnpnaaBRecord
import Derived.Test.YtdamiipeijnpnaaGRefGet
import Derived.Test.YtdamiipeijnpnaaGRecAll
import Derived.Test.YtdamiipeijnpnaaQx29
namespace Go.Proofs.Ytdamiipeijnpnaa.Q
set_option linter.unusedVariables false
set_option linter.unusedSimpArgs false
open Go.RowKit Go.Proofs.YtdamiipeijnpnaaW.PrintWords Go.Proofs.YtdamiipeijnpnaaW.PrintLast Go.Proofs.YtdamiipeijnpnaaW.PrintMore

theorem btS {b : List Int} (h : Bytes b) (i : Int) : bt (strOfNums b) i = rd b i := by
  have hr := rd_byte h i
  unfold IsByte bt rd at *
  have hs : (strOfNums b).size = b.length := by simp [strOfNums, ByteArray.size]
  by_cases hi : i.toNat < b.length
  · rw [dif_pos (by rw [hs]; exact hi)]
    rw [List.getD_eq_getElem?_getD, List.getElem?_eq_getElem hi] at *
    simp only [Option.getD_some] at *
    have : ((strOfNums b)[i.toNat]'(by rw [hs]; exact hi)) = UInt8.ofNat (b[i.toNat]).toNat := by
      simp [strOfNums, ByteArray.getElem_eq_getElem_data]
    rw [this, UInt8.toNat_ofNat']
    omega
  · rw [dif_neg (by rw [hs]; exact hi), List.getD_eq_getElem?_getD, List.getElem?_eq_none (by omega)]
    rfl
theorem extS (b : List Int) (i j : Nat) : (strOfNums b).extract i j = strOfNums ((b.take j).drop i) := by
  apply ByteArray.ext
  simp [strOfNums, List.extract, ByteArray.data_extract, List.drop_take, List.map_drop, List.map_take]
theorem bytesOfS {l : List Int} (h : Bytes l) : bytesOf (strOfNums l) = l := by
  unfold bytesOf strOfNums
  simp only [List.map_map]
  conv => rhs; rw [← List.map_id l]
  apply List.map_congr_left
  intro c hc
  have := h c hc
  unfold IsByte at this
  simp only [Function.comp, UInt8.toNat_ofNat', id]
  omega
theorem seg4 (b : List Int) (n : Nat) (h : n + 4 ≤ b.length) : (b.take (n + 4)).drop n = [rd b n, rd b (n + 1 : Nat), rd b (n + 2 : Nat), rd b (n + 3 : Nat)] := by
  have e : ∀ m : Nat, m < b.length → b.drop m = rd b (m : Int) :: b.drop (m + 1) := fun m hm => by
    rw [List.drop_eq_getElem_cons hm]
    unfold rd
    rw [Int.toNat_natCast, List.getD_eq_getElem?_getD, List.getElem?_eq_getElem hm]
    rfl
  rw [List.drop_take, show n + 4 - n = 4 by omega, e n (by omega), e (n + 1) (by omega), e (n + 2) (by omega), e (n + 3) (by omega)]
  simp
/-- A number's four bytes, the highest first. -/
def bh4 (v : Int) : List Int := [(v / 16777216) % 256, (v / 65536) % 256, (v / 256) % 256, v % 256]
theorem bh4_bytes (v : Int) : Bytes (bh4 v) := by
  intro c hc
  unfold bh4 at hc
  simp only [List.mem_cons, List.not_mem_nil, or_false] at hc
  unfold IsByte
  omega
theorem fourS {c : Int} (h0 : 0 ≤ c) (h1 : c < 4294967296) : usufructref06_four.f c = some (strOfNums (bh4 c)) := by
  unfold usufructref06_four.f bh4
  rw [Int.tdiv_eq_ediv_of_nonneg h0, Int.tdiv_eq_ediv_of_nonneg h0, Int.tdiv_eq_ediv_of_nonneg h0, Int.tmod_eq_emod_of_nonneg h0]
  rw [show c / 16777216 % 4294967296 % 256 = c / 16777216 % 256 by omega, show c / 65536 % 4294967296 % 256 = c / 65536 % 256 by omega, show c / 256 % 4294967296 % 256 = c / 256 % 256 by omega, show c % 256 % 256 = c % 256 by omega]
theorem four_iff {c : Int} (h0 : 0 ≤ c) (h1 : c < 4294967296) {ys : List Int} (hb : Bytes ys) (hl : ys.length = 4) : (strOfNums (bh4 c)).toList = (strOfNums ys).toList ↔ c = b4 ys := by
  constructor
  · intro h
    have := str_inj (bh4_bytes c) hb h
    rw [← this]
    show c = (c / 16777216) % 256 * 16777216 + (c / 65536) % 256 * 65536 + (c / 256) % 256 * 256 + c % 256
    omega
  · intro h
    obtain ⟨a, b, d, e, rfl⟩ : ∃ a b d e, ys = [a, b, d, e] := by
      match ys, hl with
      | [a, b, d, e], _ => exact ⟨a, b, d, e, rfl⟩
    have ha := hb a (by simp); have hb' := hb b (by simp); have hd := hb d (by simp); have he := hb e (by simp)
    unfold IsByte at *
    have h' : c = a * 16777216 + b * 65536 + d * 256 + e := h
    have e1 : bh4 c = [a, b, d, e] := by
      unfold bh4
      rw [show (c / 16777216) % 256 = a by omega, show (c / 65536) % 256 = b by omega, show (c / 256) % 256 = d by omega, show c % 256 = e by omega]
    rw [e1]
theorem num4S {xs : List Int} (hb : Bytes xs) (hl : 5 ≤ xs.length) : num4 (strOfNums xs) = b4 ((xs.take 5).drop 1) := by
  rw [show (5 : Nat) = 1 + 4 from rfl, seg4 xs 1 (by omega)]
  show 256 * (256 * (256 * (256 * 0 + bt (strOfNums xs) 1) + bt (strOfNums xs) 2) + bt (strOfNums xs) 3) + bt (strOfNums xs) 4 = rd xs 1 * 16777216 + rd xs 2 * 65536 + rd xs 3 * 256 + rd xs 4
  rw [btS hb, btS hb, btS hb, btS hb]
  omega
theorem refget_eq {xs : List Int} (hb : Bytes xs) (hl : xs.length ≤ 1000000) {k : Nat} (hk : 10 * xs.length + 10 ≤ k) : usufructref06_Get.f k (strOfNums xs) = some (strOfNums (getG xs).1, (getG xs).2.1, (getG xs).2.2) := by
  have hs : (strOfNums xs).size = xs.length := strOfNums_size xs
  have hn : strOfNums [] = (⟨#[]⟩ : ByteArray) := rfl
  unfold usufructref06_Get.f getG hdL
  rw [hs, if_pos (show xs.length ≤ 140737488351232 by omega)]
  by_cases z0 : xs = []
  · subst z0
    rw [if_pos (show ([] : List Int).length = 0 from rfl), if_pos rfl, if_pos (show ((0 : Int), (2 : Int)).2 ≠ 0 by decide)]
    rfl
  have hp : 0 < xs.length := List.length_pos_iff.2 z0
  rw [if_neg (show ¬ xs.length = 0 by omega), if_neg z0, btS hb]
  by_cases z1 : rd xs 0 = 90
  · rw [if_pos z1, if_neg (show ¬ (rd xs 0 ≠ 90) from fun h => h z1)]
    by_cases z2 : xs.length < 9
    · rw [if_pos (show (xs.length : Int) < 9 by omega), if_pos z2, if_pos (show ((0 : Int), (2 : Int)).2 ≠ 0 by decide)]
      rfl
    · have hb1 := (hb.take 5).drop 1
      have hb2 := (hb.take 9).drop 5
      have l1 : ((xs.take 5).drop 1).length = 4 := by rw [List.length_drop, List.length_take]; omega
      have l2 : ((xs.take 9).drop 5).length = 4 := by rw [List.length_drop, List.length_take]; omega
      have hr := b4_range hb1
      rw [if_neg (show ¬ ((xs.length : Int) < 9) by omega), if_neg z2, extS, bytesOfS hb1, ref_of hb1 (by omega) (by omega), Option.bind_some, fourS (U_lo _) (U_hi _), Option.bind_some, extS]
      by_cases z3 : U (crc ((xs.take 5).drop 1)) = b4 ((xs.take 9).drop 5)
      · rw [if_pos ((four_iff (U_lo _) (U_hi _) hb2 l2).2 z3), if_neg (show ¬ (U (crc ((xs.take 5).drop 1)) ≠ b4 ((xs.take 9).drop 5)) from fun h => h z3), num4S hb (by omega)]
        generalize b4 ((xs.take 5).drop 1) = n at *
        by_cases z4 : n > 65536
        · rw [if_pos z4, if_pos z4, if_pos (show ((0 : Int), (4 : Int)).2 ≠ 0 by decide)]
          rfl
        · rw [if_neg z4, if_neg z4]
          dsimp only
          rw [if_neg (show ¬ ((0 : Int) ≠ 0) from fun h => h rfl)]
          by_cases z5 : (xs.length : Int) < 13 + n
          · rw [if_pos z5, if_pos z5]
            rfl
          · have hb3 := (hb.take (9 + n).toNat).drop 9
            have hb4 := (hb.take (13 + n).toNat).drop (9 + n).toNat
            have l4 : ((xs.take (13 + n).toNat).drop (9 + n).toNat).length = 4 := by rw [List.length_drop, List.length_take]; omega
            have l3 : ((xs.take (9 + n).toNat).drop 9).length ≤ xs.length := by rw [List.length_drop, List.length_take]; omega
            have e4 : b4 ((xs.take (13 + n).toNat).drop (9 + n).toNat) = b4 (xs.drop (9 + n).toNat) := by
              rw [List.drop_take, show (13 + n).toNat - (9 + n).toNat = 4 by omega]
              have hlen : 4 ≤ (xs.drop (9 + n).toNat).length := by rw [List.length_drop]; omega
              generalize xs.drop (9 + n).toNat = ys at *
              match ys, hlen with
              | a :: b :: c :: d :: r, _ => rfl
            rw [if_neg z5, if_neg z5, extS, bytesOfS hb3, ref_of hb3 (by omega) (by omega), Option.bind_some, fourS (U_lo _) (U_hi _), Option.bind_some, extS]
            by_cases z6 : U (crc ((xs.take (9 + n).toNat).drop 9)) = b4 (xs.drop (9 + n).toNat)
            · rw [if_pos ((four_iff (U_lo _) (U_hi _) hb4 l4).2 (z6.trans e4.symm)), if_neg (show ¬ (U (crc ((xs.take (9 + n).toNat).drop 9)) ≠ b4 (xs.drop (9 + n).toNat)) from fun h => h z6)]
            · rw [if_neg (fun h => z6 (((four_iff (U_lo _) (U_hi _) hb4 l4).1 h).trans e4)), if_pos (show U (crc ((xs.take (9 + n).toNat).drop 9)) ≠ b4 (xs.drop (9 + n).toNat) from z6)]
              rfl
      · rw [if_neg (fun h => z3 ((four_iff (U_lo _) (U_hi _) hb2 l2).1 h)), if_pos (show U (crc ((xs.take 5).drop 1)) ≠ b4 ((xs.take 9).drop 5) from z3), if_pos (show ((0 : Int), (5 : Int)).2 ≠ 0 by decide)]
        rfl
  · rw [if_neg z1, if_pos (show rd xs 0 ≠ 90 from z1), if_pos (show ((0 : Int), (3 : Int)).2 ≠ 0 by decide)]
    rfl
theorem getG_size {xs : List Int} (hb : Bytes xs) (h : (getG xs).2.2 = 0) : 13 ≤ (getG xs).2.1 ∧ (getG xs).2.1 ≤ (xs.length : Int) := by
  have hr := hdL_range hb
  unfold getG at h ⊢
  by_cases e1 : (hdL xs).2 ≠ 0
  · rw [if_pos e1] at h
    exact absurd h e1
  rw [if_neg e1] at h ⊢
  by_cases e2 : (xs.length : Int) < 13 + (hdL xs).1
  · rw [if_pos e2] at h
    cases h
  rw [if_neg e2] at h ⊢
  by_cases e3 : U (crc ((xs.take (9 + (hdL xs).1).toNat).drop 9)) ≠ b4 (xs.drop (9 + (hdL xs).1).toNat)
  · rw [if_pos e3] at h
    cases h
  rw [if_neg e3]
  dsimp only
  omega
def lastD (a : Int) (l : List (Int × List Int)) : Int := (l.getLast?.map (·.1)).getD a
theorem lastD_cons (a b : Int) (p : List Int) (l : List (Int × List Int)) : lastD a ((b, p) :: l) = lastD b l := by
  unfold lastD
  cases l with
  | nil => rfl
  | cons c l => simp [List.getLast?_cons]
theorem getG_nil : getG [] = ([], 0, 2) := rfl
theorem all_both {xs : List Int} (hb : Bytes xs) (hl : xs.length ≤ 1000000) : ∀ (d a : Nat), a + d = xs.length → ∃ (Z : List (Int × List Int)) (a' : Nat) (e : Int), a' ≤ xs.length ∧ Z.length ≤ d ∧ lastD (a : Int) Z = (a' : Int) ∧
    (e = if a' = xs.length then 0 else if (getG (xs.drop a')).2.2 = 2 then 2 else 18) ∧
    (∀ k n, 2 ≤ k → d + 1 ≤ n → recsF k xs n (a : Int) = some Z) ∧
    (∀ k (acc : List ByteArray), d + 10 * xs.length + 20 ≤ k → acc.length + d ≤ 2000000 → usufructref06_All.l0 k (strOfNums xs) acc (a : Int) = some (acc ++ Z.map (fun z => strOfNums z.2), (a' : Int), e)) := by
  intro d
  induction d using Nat.strongRecOn with
  | ind d ih =>
    intro a had
    have hs : (strOfNums xs).size = xs.length := strOfNums_size xs
    have hbd := hb.drop a
    have hget : ∀ k, 2 ≤ k → record_Get.f k xs (a : Int) = some (getG (xs.drop a)) := fun k hk => get_eq hb hl a (by omega) hk
    have hext : (strOfNums xs).extract a xs.length = strOfNums (xs.drop a) := by rw [extS, List.take_length]
    have href : ∀ k, 10 * xs.length + 10 ≤ k → usufructref06_Get.f k (strOfNums (xs.drop a)) = some (strOfNums (getG (xs.drop a)).1, (getG (xs.drop a)).2.1, (getG (xs.drop a)).2.2) := fun k hk => refget_eq hbd (by rw [List.length_drop]; omega) (by rw [List.length_drop]; omega)
    by_cases he : (getG (xs.drop a)).2.2 = 0
    · have hsz := getG_size hbd he
      rw [List.length_drop] at hsz
      obtain ⟨m, hm⟩ := Int.eq_ofNat_of_zero_le (show 0 ≤ (getG (xs.drop a)).2.1 by omega)
      have hw : wrap64 ((a : Int) + (getG (xs.drop a)).2.1) = ((a + m : Nat) : Int) := by unfold wrap64; omega
      obtain ⟨Z, a', e, h1, h2, h3, h4, h5, h6⟩ := ih (d - m) (by omega) (a + m) (by omega)
      refine ⟨(((a + m : Nat) : Int), (getG (xs.drop a)).1) :: Z, a', e, h1, by rw [List.length_cons]; omega, by rw [lastD_cons]; exact h3, h4, ?_, ?_⟩
      · intro k n hk hn
        obtain ⟨n, rfl⟩ : ∃ q, n = q + 1 := ⟨n - 1, by omega⟩
        rw [recsF, hget k hk, Option.bind_some, if_pos he, hw, h5 k n hk (by omega)]
        rfl
      · intro k acc hk hacc
        obtain ⟨k, rfl⟩ : ∃ q, k = q + 1 := ⟨k - 1, by omega⟩
        rw [usufructref06_All.l0, hs, if_pos (show (a : Int) < (xs.length : Int) by omega), if_pos (show (0 : Int) ≤ (a : Int) by omega), if_pos (show (a : Int) ≤ (xs.length : Int) by omega), Int.toNat_natCast, hext, href k (by omega), Option.bind_some]
        dsimp only
        rw [he, if_neg (show ¬ ((0 : Int) = 2) by decide), if_pos rfl, if_pos (show acc.length < 8796093022208 by omega), hw, h6 k _ (by omega) (by rw [List.length_append, List.length_singleton]; omega)]
        simp
    · have hrec : ∀ k n, 2 ≤ k → d + 1 ≤ n → recsF k xs n (a : Int) = some [] := by
        intro k n hk hn
        obtain ⟨n, rfl⟩ : ∃ q, n = q + 1 := ⟨n - 1, by omega⟩
        rw [recsF, hget k hk, Option.bind_some, if_neg he]
      refine ⟨[], a, _, by omega, Nat.zero_le _, rfl, rfl, hrec, ?_⟩
      intro k acc hk hacc
      obtain ⟨k, rfl⟩ : ∃ q, k = q + 1 := ⟨k - 1, by omega⟩
      rw [usufructref06_All.l0, hs]
      by_cases hlt : a = xs.length
      · rw [if_neg (show ¬ ((a : Int) < (xs.length : Int)) by omega), if_pos hlt]
        simp
      · rw [if_pos (show (a : Int) < (xs.length : Int) by omega), if_pos (show (0 : Int) ≤ (a : Int) by omega), if_pos (show (a : Int) ≤ (xs.length : Int) by omega), Int.toNat_natCast, hext, href k (by omega), Option.bind_some, if_neg hlt]
        dsimp only
        by_cases h2 : (getG (xs.drop a)).2.2 = 2
        · rw [if_pos h2, if_pos h2]
          simp
        · rw [if_neg h2, if_neg he, if_neg h2]
          simp
theorem all_eq {xs : List Int} (hb : Bytes xs) (hl : xs.length ≤ 900000) : ∃ (Z : List (List Int)) (a' e : Int), Z.length ≤ xs.length ∧ (∀ k, 11 * xs.length + 25 ≤ k → record_All.f k xs = some (Z, a', e) ∧ usufructref06_All.f k (strOfNums xs) = some (Z.map strOfNums, a', e)) := by
  obtain ⟨Z, a', e, h1, h2, h3, h4, h5, h6⟩ := all_both hb (by omega) xs.length 0 (by omega)
  refine ⟨Z.map (·.2), (a' : Int), e, by rw [List.length_map]; exact h2, fun k hk => ⟨?_, ?_⟩⟩
  · have h5' := h5 k k (by omega) (by omega)
    have h3' : lastI Z = (a' : Int) := h3
    unfold record_All.f
    have h5'' : recsF k xs k 0 = some Z := h5'
    rw [if_pos (show xs.length < 1000000 by omega), h5'', Option.bind_some, if_pos (show Z.length < 1000000 by omega), h3']
    by_cases hlt : a' = xs.length
    · rw [if_pos (show (a' : Int) = (xs.length : Int) by omega), h4, if_pos hlt]
    · rw [if_neg (show ¬ ((a' : Int) = (xs.length : Int)) by omega), get_eq hb (by omega) a' h1 (by omega), Option.bind_some, h4, if_neg hlt]
  · have := h6 k [] (by omega) (by simp; omega)
    unfold usufructref06_All.f
    rw [show ((0 : Nat) : Int) = 0 from rfl] at this
    rw [this]
    simp [Function.comp]
end Go.Proofs.Ytdamiipeijnpnaa.Q
