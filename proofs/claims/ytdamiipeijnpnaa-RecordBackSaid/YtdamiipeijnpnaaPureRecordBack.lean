/- Records that were put one behind the other are read as they were; cut off anywhere, those that are whole are. -/
import Derived.Test.YtdamiipeijnpnaaBRecordBack
import Derived.Test.YtdamiipeijnpnaaBOpenZ
import Derived.OpenShut
import Derived.Test.YtdamiipeijnpnaaQx33
import Derived.Test.YtdamiipeijnpnaaQx30
namespace Go.Proofs.Ytdamiipeijnpnaa.Walk
set_option linter.unusedVariables false
set_option linter.unusedSimpArgs false
open Go.RowKit Go.Proofs.Ytdamiipeijnpnaa.Q Go.Proofs.YtdamiipeijnpnaaW.PrintWords Go.Proofs.YtdamiipeijnpnaaW.PrintLast Go.Proofs.YtdamiipeijnpnaaW.PrintMore Go.Proofs.Ytdamiipeijnpnaa.Opn

theorem sameB_loop (Z : List (List Int)) (hZ : Z.length < 1000000) : ∀ (d i k : Nat), i + d = Z.length → d < k → usufructlaw06_same.l0 k Z (Z.map strOfNums) (i : Int) = some true := by
  intro d
  induction d with
  | zero =>
    intro i k hi hk
    obtain ⟨k, rfl⟩ : ∃ q, k = q + 1 := ⟨k - 1, by omega⟩
    rw [usufructlaw06_same.l0, if_neg (by omega)]
  | succ d ih =>
    intro i k hi hk
    obtain ⟨k, rfl⟩ : ∃ q, k = q + 1 := ⟨k - 1, by omega⟩
    have hlt : i < Z.length := by omega
    have e1 : rd_L5 Z (i : Int) = Z[i] := by
      unfold rd_L5
      rw [Int.toNat_natCast, List.getD_eq_getElem?_getD, List.getElem?_eq_getElem hlt]
      rfl
    have e2 : rdOf ByteArray.empty (Z.map strOfNums) (i : Int) = strOfNums Z[i] := by
      unfold rdOf
      rw [Int.toNat_natCast, List.getD_eq_getElem?_getD, List.getElem?_map, List.getElem?_eq_getElem hlt]
      rfl
    rw [usufructlaw06_same.l0, if_pos (by omega), if_pos (by omega), if_pos (by rw [List.length_map]; omega), e1, e2, if_pos rfl, show wrap64 ((i : Int) + 1) = ((i + 1 : Nat) : Int) by unfold wrap64; omega]
    exact ih (i + 1) k (by omega) (by omega)
theorem sameB (Z : List (List Int)) (hZ : Z.length < 1000000) {k : Nat} (hk : Z.length < k) : usufructlaw06_same.f k Z (Z.map strOfNums) = some true := by
  unfold usufructlaw06_same.f
  rw [if_pos (by rw [List.length_map])]
  have := sameB_loop Z hZ Z.length 0 k (by omega) hk
  simpa using this

/-- Where each of the first i forms ends. -/
def ends (ls : List (List Int)) (i : Nat) : List Int := (List.range i).map fun j => ((cat (ls.take (j + 1))).length : Int)
theorem ends_succ (ls : List (List Int)) (i : Nat) : ends ls (i + 1) = ends ls i ++ [((cat (ls.take (i + 1))).length : Int)] := by
  unfold ends
  rw [List.range_succ, List.map_append]
  rfl
theorem ends_len (ls : List (List Int)) (i : Nat) : (ends ls i).length = i := by simp [ends]
theorem ends_rd (ls : List (List Int)) (n i : Nat) (h : i < n) : rd (ends ls n) (i : Int) = ((cat (ls.take (i + 1))).length : Int) := by
  unfold rd ends
  rw [Int.toNat_natCast, List.getD_eq_getElem?_getD, List.getElem?_map, List.getElem?_range h]
  rfl
theorem cat_le : ∀ (ls : List (List Int)), (∀ l ∈ ls, l.length ≤ 60) → (cat ls).length ≤ 73 * ls.length
  | [], _ => Nat.zero_le _
  | l :: ls, h => by
    rw [cat_cons, List.length_append, Fm_len, List.length_cons]
    have h1 := h l (by simp)
    have h2 := cat_le ls (fun m hm => h m (by simp [hm]))
    omega
theorem cat_take_succ (ls : List (List Int)) (i : Nat) (h : i < ls.length) : cat (ls.take (i + 1)) = cat (ls.take i) ++ Fm ls[i] := by
  rw [List.take_succ_eq_append_getElem h, cat_app]
  simp [cat]

section
variable {ls : List (List Int)} (hb : ∀ l ∈ ls, Bytes l) (hs : ∀ l ∈ ls, l.length ≤ 60) (hn : ls.length ≤ 12)
include hb hs hn
/-- The end: what is told of the bytes cut off at c. -/
theorem back_end (i c : Nat) (hi : i ≤ ls.length) (hc : c ≤ (cat ls).length) (hat : (cat (ls.take i)).length ≤ c) (hex : i = ls.length ∨ ∃ h : i < ls.length, c < (cat (ls.take i)).length + (ls[i].length + 13)) (k : Nat) (hk : 50 ≤ k) :
    (if 0 ≤ (c : Int) then (if (c : Int) ≤ ((cat ls).length : Int) then ((record_All.f k ((cat ls).take (c : Int).toNat)).bind fun bt496 => (if 0 ≤ (i : Int) then (if (i : Int) ≤ ((ls.map strOfNums).length : Int) then ((usufructlaw06_same.f k bt496.1 ((ls.map strOfNums).take (i : Int).toNat)).bind fun t505 => (if t505 = true then (if bt496.2.1 = ((cat (ls.take i)).length : Int) then (if ((bt496.2.2 == 0) == (((cat (ls.take i)).length : Int) == (c : Int))) = true then (if bt496.2.2 = 0 then (some true) else (some (bt496.2.2 == 2))) else (some false)) else (some false)) else (some false))) else (none)) else (none))) else (none)) else (none)) = some true := by
  have hcat : cat ls = cat (ls.take i) ++ cat (ls.drop i) := by rw [← cat_app, List.take_append_drop]
  have hcl := cat_le ls hs
  have hlen := congrArg List.length hcat
  rw [List.length_append] at hlen
  obtain ⟨t, ht⟩ : ∃ t, t = (cat (ls.drop i)).take (c - (cat (ls.take i)).length) := ⟨_, rfl⟩
  have htake : (cat ls).take c = cat (ls.take i) ++ t := by
    rw [ht, hcat, List.take_append, List.take_of_length_le hat]
  have htl : t.length = c - (cat (ls.take i)).length := by rw [ht, List.length_take]; omega
  have htg : (getG t).2.2 = 2 := by
    rcases hex with h | ⟨h, hlt⟩
    · have : t = [] := by rw [ht, h, List.drop_length]; simp [cat]
      rw [this]
      rfl
    · have e : ls.drop i = ls[i] :: ls.drop (i + 1) := List.drop_eq_getElem_cons h
      rw [ht, e, cat_cons, take_app _ _ _ (by rw [Fm_len]; omega)]
      exact getShort (hb _ (List.getElem_mem h)) (by have := hs _ (List.getElem_mem h); omega) _ (by omega)
  have htb : Bytes (cat (ls.take i) ++ t) := by rw [← htake]; exact (cat_bytes hb).take c
  have hall := all_cat (ls.take i) t (fun l hl => ⟨hb l (List.mem_of_mem_take hl), by have := hs l (List.mem_of_mem_take hl); omega⟩) htb (by rw [← htake, List.length_take]; omega) (by rw [List.length_take]; omega) htg (k := k) (by rw [List.length_take]; omega)
  rw [if_pos (show (0 : Int) ≤ (c : Int) by omega), if_pos (show (c : Int) ≤ ((cat ls).length : Int) by omega), Int.toNat_natCast, htake, hall, Option.bind_some]
  dsimp only
  rw [if_pos (show (0 : Int) ≤ (i : Int) by omega), if_pos (show (i : Int) ≤ ((ls.map strOfNums).length : Int) by rw [List.length_map]; omega), Int.toNat_natCast, ← List.map_take, sameB _ (by rw [List.length_take]; omega) (by rw [List.length_take]; omega), Option.bind_some, if_pos rfl, if_pos rfl]
  by_cases e : t = []
  · rw [e] at htl
    have hc' : (cat (ls.take i)).length = c := by simp at htl; omega
    rw [if_pos e, hc']
    simp
  · have htp := List.length_pos_iff.2 e
    rw [if_neg e]
    have hne : (((cat (ls.take i)).length : Int) == (c : Int)) = false := beq_eq_false_iff_ne.mpr (by omega)
    rw [hne]
    rfl
theorem back_l1 (c : Nat) (hc : c ≤ (cat ls).length) : ∀ (d i k : Nat), i + d = ls.length → (cat (ls.take i)).length ≤ c → d + 51 ≤ k → usufructlaw06_RecordBack.l1 k (cat ls) (ends ls ls.length) (ls.map strOfNums) (c : Int) (i : Int) ((cat (ls.take i)).length : Int) (i : Int) = some true := by
  intro d
  induction d with
  | zero =>
    intro i k hi hat hk
    obtain ⟨k, rfl⟩ : ∃ q, k = q + 1 := ⟨k - 1, by omega⟩
    rw [usufructlaw06_RecordBack.l1, ends_len, if_neg (by omega)]
    exact back_end hb hs hn i c (by omega) hc hat (.inl (by omega)) k (by omega)
  | succ d ih =>
    intro i k hi hat hk
    obtain ⟨k, rfl⟩ : ∃ q, k = q + 1 := ⟨k - 1, by omega⟩
    have hlt : i < ls.length := by omega
    rw [usufructlaw06_RecordBack.l1, ends_len, if_pos (by omega), if_pos (by omega), ends_rd ls _ i hlt]
    by_cases h : ((cat (ls.take (i + 1))).length : Int) ≤ (c : Int)
    · rw [if_pos h, show wrap64 ((i : Int) + 1) = ((i + 1 : Nat) : Int) by unfold wrap64; omega]
      exact ih (i + 1) k (by omega) (by omega) (by omega)
    · rw [if_neg h]
      have e := congrArg List.length (cat_take_succ ls i hlt)
      rw [List.length_append, Fm_len] at e
      exact back_end hb hs hn i c (by omega) hc hat (.inr ⟨hlt, by omega⟩) k (by omega)
end
theorem back_l0 {ls : List (List Int)} (hb : ∀ l ∈ ls, Bytes l) (hn : ls.length ≤ 12) (a1 : Int) (ha : 0 ≤ a1 ∧ a1 ≤ 65535) : ∀ (d i k : Nat), i + d = ls.length → 900 + d ≤ k → (∀ l ∈ ls.take i, l.length ≤ 60) →
    usufructlaw06_RecordBack.l0 k ls a1 (cat (ls.take i)) (ends ls i) ((ls.take i).map strOfNums) (i : Int) = some true := by
  intro d
  induction d with
  | zero =>
    intro i k hi hk hsm
    obtain ⟨k, rfl⟩ : ∃ q, k = q + 1 + 1 := ⟨k - 2, by omega⟩
    have hi' : i = ls.length := by omega
    subst hi'
    rw [List.take_length] at hsm ⊢
    have hcl := cat_le ls hsm
    have hall := all_cat ls [] (fun l hl => ⟨hb l hl, by have := hsm l hl; omega⟩) (by rw [List.append_nil]; exact cat_bytes hb) (by rw [List.append_nil]; omega) (by omega) rfl (k := k + 1) (by omega)
    rw [List.append_nil, if_pos rfl] at hall
    rw [usufructlaw06_RecordBack.l0, if_neg (by omega), hall, Option.bind_some]
    dsimp only
    rw [sameB ls (by omega) (by omega), Option.bind_some, if_pos rfl, if_pos rfl, show ((0 : Int) != 0) = false from rfl, usufructlaw06_RecordBack.j1, if_neg (by decide)]
    have hw1 : wrap64 (((cat ls).length : Int) + 1) = ((cat ls).length : Int) + 1 := by unfold wrap64; omega
    have hw2 : wrap64 a1 = a1 := by unfold wrap64; omega
    rw [hw1, hw2, if_neg (by omega)]
    have hk0 : 0 ≤ Int.tmod a1 (((cat ls).length : Int) + 1) := Int.tmod_nonneg _ ha.1
    have hk1 : Int.tmod a1 (((cat ls).length : Int) + 1) < ((cat ls).length : Int) + 1 := Int.tmod_lt_of_pos _ (by omega)
    obtain ⟨c, hc⟩ := Int.eq_ofNat_of_zero_le hk0
    rw [hc] at hk1 ⊢
    exact back_l1 hb hsm hn c (by omega) ls.length 0 k (by omega) (by simp [cat]) (by omega)
  | succ d ih =>
    intro i k hi hk hsm
    obtain ⟨k, rfl⟩ : ∃ q, k = q + 1 := ⟨k - 1, by omega⟩
    have hlt : i < ls.length := by omega
    have e1 : rd_L5 ls (i : Int) = ls[i] := by
      unfold rd_L5
      rw [Int.toNat_natCast, List.getD_eq_getElem?_getD, List.getElem?_eq_getElem hlt]
      rfl
    have hbl := hb _ (List.getElem_mem hlt)
    have hcl := cat_le (ls.take i) hsm
    rw [List.length_take] at hcl
    rw [usufructlaw06_RecordBack.l0, if_pos (by omega), if_pos (by omega), e1]
    by_cases h60 : ((ls[i].length : Int)) > 60
    · rw [if_pos h60]
    · have hfl := Fm_len ls[i]
      rw [if_neg h60, putF hbl (by omega), Option.bind_some]
      dsimp only
      rw [if_pos rfl, refputF hbl (by omega) (by omega), Option.bind_some, if_pos rfl, recSize_eq _ (by omega) (by omega), Option.bind_some, if_pos (show ((Fm ls[i]).length : Int) = 13 + (ls[i].length : Int) by omega), if_pos (show (cat (ls.take i)).length + (Fm ls[i]).length < 140737488355328 by omega), Option.bind_some, ends_len, if_pos (show i < 17592186044416 by omega), if_pos (show ((ls.take i).map strOfNums).length < 8796093022208 by rw [List.length_map, List.length_take]; omega)]
      rw [← cat_take_succ ls i hlt, ← ends_succ, show (ls.take i).map strOfNums ++ [strOfNums ls[i]] = (ls.take (i + 1)).map strOfNums by rw [List.take_succ_eq_append_getElem hlt, List.map_append]; rfl, show wrap64 ((i : Int) + 1) = ((i + 1 : Nat) : Int) by unfold wrap64; omega]
      refine ih (i + 1) k (by omega) (by omega) (fun l hl => ?_)
      rw [List.take_succ_eq_append_getElem hlt] at hl
      rcases List.mem_append.1 hl with h | h
      · exact hsm l h
      · rw [List.mem_singleton] at h
        rw [h]
        omega
theorem RecordBack.pure (ls : List (List Int)) (a1 : Int) (hb : ∀ l ∈ ls, Bytes l) (ha : 0 ≤ a1 ∧ a1 ≤ 65535) : usufructlaw06_RecordBack.f 1000 ls a1 = some true := by
  unfold usufructlaw06_RecordBack.f
  rw [show usufructlaw06_awake.f = some true from rfl, Option.bind_some, if_pos rfl]
  by_cases hl : (ls.length : Int) > 12
  · rw [if_pos hl]
  · rw [if_neg hl]
    have := back_l0 hb (by omega) a1 ha ls.length 0 1000 (by omega) (by omega) (by simp)
    simpa [cat, ends] using this
theorem RecordBack.walk (w : World) (A0 : Option Addr) (c0 : Nat) (l0 : List (List Int)) (a1 : Int)
    (hr0 : Kd.C (Kd.slice 5 (Kd.int .u8)) w A0 l0.length l0) (hc0 : l0.length ≤ c0) (hm0 : c0 ≤ maxLen) (ok0 : ∀ x ∈ l0, (fun xs => xs.length ≤ maxLen ∧ ∀ x ∈ xs, (fun x => (Lit.int .u8 x).wf = true) x) x) (w1 : (Lit.int .u16 a1).wf = true) :
    Calls Try.prog 8 #[.slice A0 l0.length c0, .int .u16 a1] w fun e w' => e = .returned (.bool true) ∧ Below w.heap.size w w' :=
  usufructlaw06_RecordBack.calls 1000 A0 c0 l0 a1 true w hr0 hc0 (RecordBack.pure l0 a1 (fun l hl x hx => bounds_u8 ((ok0 l hl).2 x hx)) (bounds_u16 w1)) rfl
end Go.Proofs.Ytdamiipeijnpnaa.Walk
