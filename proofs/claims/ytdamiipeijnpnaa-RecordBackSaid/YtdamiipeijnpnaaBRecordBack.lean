/- Records put one behind the other, cut off anywhere: what All tells. -/
import Derived.Test.YtdamiipeijnpnaaBRecordRef
import Derived.Test.YtdamiipeijnpnaaGConcat
import Derived.Test.YtdamiipeijnpnaaGRefPut
import Derived.Test.YtdamiipeijnpnaaQx20
namespace Go.Proofs.Ytdamiipeijnpnaa.Q
set_option linter.unusedVariables false
set_option linter.unusedSimpArgs false
open Go.RowKit Go.Proofs.YtdamiipeijnpnaaW.PrintWords Go.Proofs.YtdamiipeijnpnaaW.PrintLast Go.Proofs.YtdamiipeijnpnaaW.PrintMore

theorem b4_bh4 {v : Int} (h0 : 0 ≤ v) (h1 : v < 4294967296) : b4 (bh4 v) = v := by
  show (v / 16777216) % 256 * 16777216 + (v / 65536) % 256 * 65536 + (v / 256) % 256 * 256 + v % 256 = v
  omega
theorem bh4_len (v : Int) : (bh4 v).length = 4 := rfl
/-- A payload's form. -/
def Fm (l : List Int) : List Int := 90 :: (bh4 (l.length : Int) ++ (bh4 (U (crc (bh4 (l.length : Int)))) ++ (l ++ bh4 (U (crc l)))))
theorem Fm_len (l : List Int) : (Fm l).length = l.length + 13 := by unfold Fm; simp [bh4_len]; omega
theorem Fm_bytes {l : List Int} (hb : Bytes l) : Bytes (Fm l) := by
  intro c hcc
  unfold Fm at hcc
  simp only [List.mem_cons, List.mem_append] at hcc
  rcases hcc with rfl | h | h | h | h
  · exact ⟨by decide, by decide⟩
  · exact bh4_bytes _ c h
  · exact bh4_bytes _ c h
  · exact hb c h
  · exact bh4_bytes _ c h
theorem putF {l : List Int} (hb : Bytes l) (hl : l.length ≤ 65536) : record_Put.f l = some (Fm l, 0) := by
  unfold record_Put.f
  rw [if_neg (by omega)]
  have f : ∀ v, record_four.f v = some (bh4 v) := fun v => rfl
  have e : ((l.length : Int)) % 4294967296 = (l.length : Int) := by omega
  rw [f, Option.bind_some, e, of_eq (bh4_bytes _), Option.bind_some, f, Option.bind_some, of_eq hb, Option.bind_some, f, Option.bind_some]
  unfold slices_Concat_byte_byte.f
  have e2 : ([[90], bh4 (l.length : Int), bh4 (U (crc (bh4 (l.length : Int)))), l, bh4 (U (crc l))] : List (List Int)).flatten = Fm l := by simp [Fm]
  rw [e2, if_pos (by rw [Fm_len]; omega), Option.bind_some]
theorem strApp (xs ys : List Int) : strOfNums (xs ++ ys) = strOfNums xs ++ strOfNums ys := by
  apply ByteArray.ext
  simp [strOfNums]
theorem refputF {l : List Int} (hb : Bytes l) (hl : l.length ≤ 65536) {k : Nat} (hk : 10 * l.length + 50 ≤ k) : usufructref06_Put.f k (strOfNums l) = some (strOfNums (Fm l)) := by
  have hs : (strOfNums l).size = l.length := strOfNums_size l
  have h4 : ∀ v, (strOfNums (bh4 v)).size = 4 := fun v => strOfNums_size _
  unfold usufructref06_Put.f
  rw [hs, if_pos (show l.length ≤ 1000000 by omega), fourS (by omega) (by omega), Option.bind_some, if_pos (h4 _), bytesOfS (bh4_bytes _), ref_of (bh4_bytes _) (by rw [bh4_len]; omega) (by rw [bh4_len]; omega), Option.bind_some, fourS (U_lo _) (U_hi _), Option.bind_some, if_pos (h4 _), bytesOfS hb, ref_of hb (by omega) (by omega), Option.bind_some, fourS (U_lo _) (U_hi _), Option.bind_some, if_pos (h4 _)]
  congr 1
  rw [show Fm l = [90] ++ bh4 (l.length : Int) ++ bh4 (U (crc (bh4 (l.length : Int)))) ++ l ++ bh4 (U (crc l)) by simp [Fm], strApp, strApp, strApp, strApp]
  rfl
theorem take_app {α : Type} (l m : List α) (n : Nat) (h : n ≤ l.length) : (l ++ m).take n = l.take n := List.take_append_of_le_length h
/-- The head of a form, or of more than nine bytes of it. -/
theorem hdF {l : List Int} (hb : Bytes l) (hl : l.length ≤ 65536) (t : List Int) (h9 : 9 ≤ t.length) (ht : t.take 9 = (Fm l).take 9) : hdL t = ((l.length : Int), 0) := by
  have e9 : (Fm l).take 9 = 90 :: (bh4 (l.length : Int) ++ bh4 (U (crc (bh4 (l.length : Int))))) := rfl
  have e0 : rd t 0 = 90 := by
    have : rd (t.take 9) 0 = 90 := by rw [ht, e9]; rfl
    cases t with
    | nil => simp at h9
    | cons a t => exact this
  have e1 : (t.take 5).drop 1 = bh4 (l.length : Int) := by
    rw [show t.take 5 = (t.take 9).take 5 by rw [List.take_take]; rfl, ht, e9]
    rfl
  have e2 : (t.take 9).drop 5 = bh4 (U (crc (bh4 (l.length : Int)))) := by rw [ht, e9]; rfl
  have hn := b4_bh4 (v := (l.length : Int)) (by omega) (by omega)
  have hc := b4_bh4 (v := U (crc (bh4 (l.length : Int)))) (U_lo _) (U_hi _)
  unfold hdL
  rw [if_neg (show t ≠ [] from fun e => by rw [e] at h9; simp at h9), if_neg (show ¬ (rd t 0 ≠ 90) from fun h => h e0), if_neg (show ¬ (t.length < 9) by omega), e1, e2, hc, if_neg (show ¬ (U (crc (bh4 (l.length : Int))) ≠ U (crc (bh4 (l.length : Int)))) from fun h => h rfl), hn, if_neg (show ¬ ((l.length : Int) > 65536) by omega)]
theorem getF {l : List Int} (hb : Bytes l) (hl : l.length ≤ 65536) (r : List Int) : getG (Fm l ++ r) = (l, 13 + (l.length : Int), 0) := by
  have hfl := Fm_len l
  have hh := hdF hb hl (Fm l ++ r) (by rw [List.length_append]; omega) (take_app _ _ _ (by omega))
  have t3 : (9 + (l.length : Int)).toNat = l.length + 9 := by omega
  have t4 : ((Fm l ++ r).take (l.length + 9)).drop 9 = l := by
    rw [take_app _ _ _ (by omega)]
    show (l ++ bh4 (U (crc l))).take l.length = l
    rw [take_app _ _ _ (Nat.le_refl _), List.take_length]
  have t5 : b4 ((Fm l ++ r).drop (l.length + 9)) = U (crc l) := by
    have : (Fm l ++ r).drop (l.length + 9) = bh4 (U (crc l)) ++ r := by
      rw [List.drop_append_of_le_length (by omega)]
      congr 1
      show (l ++ bh4 (U (crc l))).drop l.length = _
      rw [List.drop_append_of_le_length (Nat.le_refl _), List.drop_length, List.nil_append]
    rw [this]
    exact b4_bh4 (U_lo _) (U_hi _)
  unfold getG
  rw [hh]
  dsimp only
  rw [if_neg (show ¬ ((0 : Int) ≠ 0) from fun h => h rfl), if_neg (by rw [List.length_append]; omega), t3, t4, t5, if_neg (show ¬ (U (crc l) ≠ U (crc l)) from fun h => h rfl)]
theorem getShort {l : List Int} (hb : Bytes l) (hl : l.length ≤ 65536) (m : Nat) (hm : m < l.length + 13) : (getG ((Fm l).take m)).2.2 = 2 := by
  have hfl := Fm_len l
  have hlen : ((Fm l).take m).length = m := by rw [List.length_take]; omega
  by_cases h9 : 9 ≤ m
  · have hh := hdF hb hl ((Fm l).take m) (by omega) (by rw [List.take_take, show min 9 m = 9 by omega])
    unfold getG
    rw [hh]
    dsimp only
    rw [if_neg (show ¬ ((0 : Int) ≠ 0) from fun h => h rfl), if_pos (by rw [hlen]; omega)]
  · cases m with
    | zero => rfl
    | succ m =>
      have e0 : rd ((Fm l).take (m + 1)) 0 = 90 := rfl
      have hh : hdL ((Fm l).take (m + 1)) = (0, 2) := by
        unfold hdL
        rw [if_neg (show (Fm l).take (m + 1) ≠ [] from fun e => by have := congrArg List.length e; rw [hlen] at this; simp at this), if_neg (show ¬ (rd ((Fm l).take (m + 1)) 0 ≠ 90) from fun h => h e0), if_pos (by omega)]
      unfold getG
      rw [hh, if_pos (show ((0 : Int), (2 : Int)).2 ≠ 0 by decide)]
/-- Forms one behind the other. -/
def cat (ls : List (List Int)) : List Int := (ls.map Fm).flatten
theorem cat_cons (l : List Int) (ls : List (List Int)) : cat (l :: ls) = Fm l ++ cat ls := by simp [cat]
theorem cat_app (ls ms : List (List Int)) : cat (ls ++ ms) = cat ls ++ cat ms := by simp [cat]
theorem cat_bytes : ∀ {ls : List (List Int)}, (∀ l ∈ ls, Bytes l) → Bytes (cat ls)
  | [], _ => fun c h => by simp [cat] at h
  | l :: ls, h => by
    rw [cat_cons]
    intro c hc
    rcases List.mem_append.1 hc with hc | hc
    · exact Fm_bytes (h l (by simp)) c hc
    · exact cat_bytes (fun m hm => h m (by simp [hm])) c hc
theorem recs_cat (k : Nat) (hk : 2 ≤ k) (xs t : List Int) (hx : Bytes xs) (hxl : xs.length ≤ 900000) (ht : (getG t).2.2 = 2) : ∀ (ls : List (List Int)) (a n : Nat), (∀ l ∈ ls, Bytes l ∧ l.length ≤ 65536) → a ≤ xs.length → xs.drop a = cat ls ++ t → ls.length + 1 ≤ n →
    ∃ Z : List (Int × List Int), recsF k xs n (a : Int) = some Z ∧ Z.map (·.2) = ls ∧ Z.length = ls.length ∧ lastD (a : Int) Z = ((a + (cat ls).length : Nat) : Int)
  | [], a, n, _, ha, hd, hn => by
    obtain ⟨n, rfl⟩ : ∃ q, n = q + 1 := ⟨n - 1, by omega⟩
    refine ⟨[], ?_, rfl, rfl, by simp [lastD, cat]⟩
    rw [recsF, get_eq hx (by omega) a ha hk, Option.bind_some, hd, show cat [] ++ t = t from rfl, ht, if_neg (by decide)]
  | l :: ls, a, n, hls, ha, hd, hn => by
    obtain ⟨n, rfl⟩ : ∃ q, n = q + 1 := ⟨n - 1, by omega⟩
    obtain ⟨hlb, hll⟩ := hls l (by simp)
    have hfl := Fm_len l
    have hlen := congrArg List.length hd
    rw [List.length_drop, cat_cons, List.length_append, List.length_append, hfl] at hlen
    have hd2 : xs.drop (a + (l.length + 13)) = cat ls ++ t := by
      rw [← List.drop_drop, hd, cat_cons, List.append_assoc, ← hfl, List.drop_append_of_le_length (Nat.le_refl _), List.drop_length, List.nil_append]
    obtain ⟨Z, h1, h2, h3, h4⟩ := recs_cat k hk xs t hx hxl ht ls (a + (l.length + 13)) n (fun m hm => hls m (by simp [hm])) (by omega) hd2 (by simp at hn; omega)
    have hg : getG (xs.drop a) = (l, 13 + (l.length : Int), 0) := by rw [hd, cat_cons, List.append_assoc]; exact getF hlb hll _
    have hw : wrap64 ((a : Int) + (13 + (l.length : Int))) = ((a + (l.length + 13) : Nat) : Int) := by unfold wrap64; omega
    refine ⟨(((a + (l.length + 13) : Nat) : Int), l) :: Z, ?_, by rw [List.map_cons, h2], by rw [List.length_cons, List.length_cons, h3], ?_⟩
    · rw [recsF, get_eq hx (by omega) a ha hk, Option.bind_some, hg]
      dsimp only
      rw [if_pos rfl, hw, h1]
      rfl
    · rw [lastD_cons, h4, cat_cons, List.length_append, hfl]
      congr 1
      omega
/-- What All tells of forms one behind the other, and of what stands behind them, too short to be one. -/
theorem all_cat (ls : List (List Int)) (t : List Int) (hls : ∀ l ∈ ls, Bytes l ∧ l.length ≤ 65536) (hb : Bytes (cat ls ++ t)) (hl : (cat ls ++ t).length ≤ 900000) (hn : ls.length < 1000000) (ht : (getG t).2.2 = 2) {k : Nat} (hk : ls.length + 3 ≤ k) :
    record_All.f k (cat ls ++ t) = some (ls, ((cat ls).length : Int), if t = [] then 0 else 2) := by
  obtain ⟨Z, h1, h2, h3, h4⟩ := recs_cat k (by omega) (cat ls ++ t) t hb hl ht ls 0 k hls (by omega) rfl (by omega)
  have h1' : recsF k (cat ls ++ t) k 0 = some Z := h1
  have h4' : lastI Z = ((cat ls).length : Int) := by
    have : lastI Z = ((0 + (cat ls).length : Nat) : Int) := h4
    rw [this]
    omega
  unfold record_All.f
  rw [if_pos (show (cat ls ++ t).length < 1000000 by omega), h1', Option.bind_some, if_pos (show Z.length < 1000000 by omega), h4']
  have hlen : (cat ls ++ t).length = (cat ls).length + t.length := List.length_append
  by_cases e : t = []
  · rw [if_pos e, e, List.append_nil, if_pos rfl]
    congr 1
    rw [h2]
  · have htl := List.length_pos_iff.2 e
    rw [if_neg (show ¬ (((cat ls).length : Int) = ((cat ls ++ t).length : Int)) by omega), get_eq hb (by omega) _ (by omega) (by omega), Option.bind_some, if_neg e, List.drop_append_of_le_length (Nat.le_refl _), List.drop_length, List.nil_append, if_pos ht, h2]
end Go.Proofs.Ytdamiipeijnpnaa.Q
