/- One byte turned in a form makes it none. -/
import Derived.Test.YtdamiipeijnpnaaBRecord
import Derived.Test.YtdamiipeijnpnaaGConcat
import Derived.Test.YtdamiipeijnpnaaQx34
import Derived.Test.YtdamiipeijnpnaaQx20
namespace Go.Proofs.Ytdamiipeijnpnaa.Pure
set_option linter.unusedVariables false
set_option linter.unusedSimpArgs false
open Go.RowKit Go.Proofs.Ytdamiipeijnpnaa.Q Go.Proofs.YtdamiipeijnpnaaW.PrintWords Go.Proofs.YtdamiipeijnpnaaW.PrintLast Go.Proofs.YtdamiipeijnpnaaW.PrintMore

/-- A number's four bytes, the highest first. -/
def be4 (v : Int) : List Int := [(v / 16777216) % 256, (v / 65536) % 256, (v / 256) % 256, v % 256]
theorem be4_bytes (v : Int) : Bytes (be4 v) := by
  intro c hc
  unfold be4 at hc
  simp only [List.mem_cons, List.not_mem_nil, or_false] at hc
  unfold IsByte
  omega
theorem b4_four (a b c d : Int) : b4 [a, b, c, d] = a * 16777216 + b * 65536 + c * 256 + d := rfl
theorem b4_be4 {v : Int} (h0 : 0 ≤ v) (h1 : v < 4294967296) : b4 (be4 v) = v := by
  unfold be4
  rw [b4_four]
  omega
theorem put_eq {l : List Int} (hb : Bytes l) (hl : l.length ≤ 65536) : record_Put.f l = some (90 :: (be4 (l.length : Int) ++ (be4 (U (crc (be4 (l.length : Int)))) ++ (l ++ be4 (U (crc l))))), 0) := by
  unfold record_Put.f
  rw [if_neg (by omega)]
  have f : ∀ v, record_four.f v = some (be4 v) := fun v => rfl
  have e : ((l.length : Int)) % 4294967296 = (l.length : Int) := by omega
  rw [f, Option.bind_some, e, of_eq (be4_bytes _), Option.bind_some, f, Option.bind_some, of_eq hb, Option.bind_some, f, Option.bind_some]
  unfold slices_Concat_byte_byte.f
  have e2 : ([[90], be4 (l.length : Int), be4 (U (crc (be4 (l.length : Int)))), l, be4 (U (crc l))] : List (List Int)).flatten = 90 :: (be4 (l.length : Int) ++ (be4 (U (crc (be4 (l.length : Int)))) ++ (l ++ be4 (U (crc l))))) := by simp
  rw [e2, if_pos (by simp [be4]; omega), Option.bind_some]

/-- What must hold where Get takes a record of as many bytes as there are. -/
theorem getG_ok {z h0 h1 h2 h3 c0 c1 c2 c3 : Int} {l T : List Int} (h : (getG (z :: h0 :: h1 :: h2 :: h3 :: c0 :: c1 :: c2 :: c3 :: (l ++ T))).2.2 = 0) :
    z = 90 ∧ U (crc [h0, h1, h2, h3]) = b4 [c0, c1, c2, c3] ∧ (b4 [h0, h1, h2, h3] = (l.length : Int) → U (crc l) = b4 T) := by
  generalize hx : (z :: h0 :: h1 :: h2 :: h3 :: c0 :: c1 :: c2 :: c3 :: (l ++ T)) = xs at h
  have t1 : (xs.take 5).drop 1 = [h0, h1, h2, h3] := by rw [← hx]; rfl
  have t2 : (xs.take 9).drop 5 = [c0, c1, c2, c3] := by rw [← hx]; rfl
  have t0 : rd xs 0 = z := by rw [← hx]; rfl
  have hne : xs ≠ [] := by rw [← hx]; simp
  unfold getG at h
  by_cases e1 : (hdL xs).2 ≠ 0
  · rw [if_pos e1] at h
    exact absurd h e1
  rw [if_neg e1] at h
  have e1' : (hdL xs).2 = 0 := by simpa using e1
  by_cases e2 : (xs.length : Int) < 13 + (hdL xs).1
  · rw [if_pos e2] at h
    cases h
  rw [if_neg e2] at h
  by_cases e3 : U (crc ((xs.take (9 + (hdL xs).1).toNat).drop 9)) ≠ b4 (xs.drop (9 + (hdL xs).1).toNat)
  · rw [if_pos e3] at h
    cases h
  have e3' : U (crc ((xs.take (9 + (hdL xs).1).toNat).drop 9)) = b4 (xs.drop (9 + (hdL xs).1).toNat) := by simpa using e3
  clear e1 e2 e3 h
  unfold hdL at e1' e3'
  rw [if_neg hne, t1, t2, t0] at e1' e3'
  by_cases z1 : z ≠ 90
  · rw [if_pos z1] at e1'
    cases e1'
  rw [if_neg z1] at e1' e3'
  by_cases z2 : xs.length < 9
  · rw [if_pos z2] at e1'
    cases e1'
  rw [if_neg z2] at e1' e3'
  by_cases z3 : U (crc [h0, h1, h2, h3]) ≠ b4 [c0, c1, c2, c3]
  · rw [if_pos z3] at e1'
    cases e1'
  rw [if_neg z3] at e1' e3'
  by_cases z4 : b4 [h0, h1, h2, h3] > 65536
  · rw [if_pos z4] at e1'
    cases e1'
  rw [if_neg z4] at e1' e3'
  refine ⟨by simpa using z1, by simpa using z3, fun hn => ?_⟩
  dsimp only at e3'
  rw [hn] at e3'
  have t3 : (9 + (l.length : Int)).toNat = l.length + 9 := by omega
  rw [t3] at e3'
  have t4 : (xs.take (l.length + 9)).drop 9 = l := by
    rw [← hx]
    show (l ++ T).take l.length = l
    rw [List.take_append_of_le_length (Nat.le_refl _), List.take_length]
  have t5 : xs.drop (l.length + 9) = T := by
    rw [← hx]
    show (l ++ T).drop l.length = T
    rw [List.drop_append_of_le_length (Nat.le_refl _), List.drop_length, List.nil_append]
  rw [t4, t5] at e3'
  exact e3'
theorem getG_bad {xs : List Int} (h : (getG xs).2.2 ≠ 0) : (getG xs).2.1 = 0 := by
  unfold getG at h ⊢
  split
  · rfl
  · split
    · rfl
    · split
      · rfl
      · rename_i a b c
        rw [if_neg a, if_neg b, if_neg c] at h
        exact absurd rfl h
theorem b4_inj {a b c d a' b' c' d' : Int} (h : b4 [a, b, c, d] = b4 [a', b', c', d']) (ha : IsByte a) (hb : IsByte b) (hc : IsByte c) (hd : IsByte d) (ha' : IsByte a') (hb' : IsByte b') (hc' : IsByte c') (hd' : IsByte d') : a = a' ∧ b = b' ∧ c = c' ∧ d = d' := by
  rw [b4_four, b4_four] at h
  unfold IsByte at *
  omega

/-- A form with one byte turned is none. -/
theorem turned_bad {l : List Int} (hb : Bytes l) (hl : l.length ≤ 60) (i : Nat) (c : Int) (hc : IsByte c) (F : List Int) (hF : F = 90 :: (be4 (l.length : Int) ++ (be4 (U (crc (be4 (l.length : Int)))) ++ (l ++ be4 (U (crc l)))))) (hi : i < F.length) (hne : rd F (i : Int) ≠ c) : (getG (F.set i c)).2.2 ≠ 0 := by
  have hn := b4_be4 (v := (l.length : Int)) (by omega) (by omega)
  have hcc := b4_be4 (v := U (crc (be4 (l.length : Int)))) (U_lo _) (U_hi _)
  have ht := b4_be4 (v := U (crc l)) (U_lo _) (U_hi _)
  have hB1 := be4_bytes (l.length : Int)
  have hB2 := be4_bytes (U (crc (be4 (l.length : Int))))
  have hB3 := be4_bytes (U (crc l))
  obtain ⟨x0, x1, x2, x3, hx⟩ : ∃ x0 x1 x2 x3, be4 (l.length : Int) = [x0, x1, x2, x3] := ⟨_, _, _, _, rfl⟩
  rw [hx] at hn hcc hB1 hB2 hF
  obtain ⟨y0, y1, y2, y3, hy⟩ : ∃ y0 y1 y2 y3, be4 (U (crc [x0, x1, x2, x3])) = [y0, y1, y2, y3] := ⟨_, _, _, _, rfl⟩
  rw [hy] at hcc hB2 hF
  obtain ⟨t0, t1, t2, t3, htt⟩ : ∃ t0 t1 t2 t3, be4 (U (crc l)) = [t0, t1, t2, t3] := ⟨_, _, _, _, rfl⟩
  rw [htt] at ht hB3 hF
  have bx0 := hB1 x0 (by simp); have bx1 := hB1 x1 (by simp); have bx2 := hB1 x2 (by simp); have bx3 := hB1 x3 (by simp)
  have by0 := hB2 y0 (by simp); have by1 := hB2 y1 (by simp); have by2 := hB2 y2 (by simp); have by3 := hB2 y3 (by simp)
  have bt0 := hB3 t0 (by simp); have bt1 := hB3 t1 (by simp); have bt2 := hB3 t2 (by simp); have bt3 := hB3 t3 (by simp)
  have hF' : F = 90 :: x0 :: x1 :: x2 :: x3 :: y0 :: y1 :: y2 :: y3 :: (l ++ [t0, t1, t2, t3]) := hF
  subst hF'
  intro h0
  clear hF hx hy htt hB1 hB2 hB3
  rcases i with _ | _ | _ | _ | _ | _ | _ | _ | _ | j
  · exact hne (getG_ok h0).1.symm
  · have h := (getG_ok h0).2.1
    exact hne (crc_inj_at (l := []) (m := [x1, x2, x3]) bx0 hc (U_inj (hcc.symm.trans h.symm)))
  · have h := (getG_ok h0).2.1
    exact hne (crc_inj_at (l := [x0]) (m := [x2, x3]) bx1 hc (U_inj (hcc.symm.trans h.symm)))
  · have h := (getG_ok h0).2.1
    exact hne (crc_inj_at (l := [x0, x1]) (m := [x3]) bx2 hc (U_inj (hcc.symm.trans h.symm)))
  · have h := (getG_ok h0).2.1
    exact hne (crc_inj_at (l := [x0, x1, x2]) (m := []) bx3 hc (U_inj (hcc.symm.trans h.symm)))
  · have h := (getG_ok h0).2.1
    exact hne (b4_inj (hcc.trans h) by0 by1 by2 by3 hc by1 by2 by3).1
  · have h := (getG_ok h0).2.1
    exact hne (b4_inj (hcc.trans h) by0 by1 by2 by3 by0 hc by2 by3).2.1
  · have h := (getG_ok h0).2.1
    exact hne (b4_inj (hcc.trans h) by0 by1 by2 by3 by0 by1 hc by3).2.2.1
  · have h := (getG_ok h0).2.1
    exact hne (b4_inj (hcc.trans h) by0 by1 by2 by3 by0 by1 by2 hc).2.2.2
  · have hs : (90 :: x0 :: x1 :: x2 :: x3 :: y0 :: y1 :: y2 :: y3 :: (l ++ [t0, t1, t2, t3])).set (j + 9) c = 90 :: x0 :: x1 :: x2 :: x3 :: y0 :: y1 :: y2 :: y3 :: ((l ++ [t0, t1, t2, t3]).set j c) := rfl
    have hr : rd (90 :: x0 :: x1 :: x2 :: x3 :: y0 :: y1 :: y2 :: y3 :: (l ++ [t0, t1, t2, t3])) ((j + 9 : Nat) : Int) = rd (l ++ [t0, t1, t2, t3]) (j : Int) := by
      unfold rd
      rw [Int.toNat_natCast, Int.toNat_natCast]
      rfl
    have hne' : rd (l ++ [t0, t1, t2, t3]) (j : Int) ≠ c := fun e => hne (hr.trans e)
    have hj : j < l.length + 4 := by simp at hi; omega
    have h0' : (getG (90 :: x0 :: x1 :: x2 :: x3 :: y0 :: y1 :: y2 :: y3 :: ((l ++ [t0, t1, t2, t3]).set j c))).2.2 = 0 := h0
    clear h0 hs hr hne hi
    rw [List.set_append] at h0'
    by_cases hjl : j < l.length
    · rw [if_pos hjl] at h0'
      have h := (getG_ok h0').2.2 (by rw [List.length_set]; exact hn)
      have e1 : l.set j c = l.take j ++ c :: l.drop (j + 1) := by rw [List.set_eq_take_append_cons_drop, if_pos hjl]
      have e2 : l = l.take j ++ l[j] :: l.drop (j + 1) := by rw [← List.drop_eq_getElem_cons hjl, List.take_append_drop]
      have e3 : rd (l ++ [t0, t1, t2, t3]) (j : Int) = l[j] := by
        unfold rd
        rw [Int.toNat_natCast, List.getD_eq_getElem?_getD, List.getElem?_append_left hjl, List.getElem?_eq_getElem hjl]
        rfl
      rw [e1, ht] at h
      have h2 := (U_inj h).trans (congrArg crc e2)
      rw [e3] at hne'
      exact hne' (crc_inj_at hc (hb _ (List.getElem_mem hjl)) h2).symm
    · rw [if_neg hjl] at h0'
      have h := (getG_ok h0').2.2 hn
      have e3 : rd (l ++ [t0, t1, t2, t3]) (j : Int) = rd [t0, t1, t2, t3] ((j - l.length : Nat) : Int) := by
        unfold rd
        rw [Int.toNat_natCast, Int.toNat_natCast, List.getD_eq_getElem?_getD, List.getD_eq_getElem?_getD, List.getElem?_append_right (by omega)]
      rw [e3] at hne'
      obtain ⟨m, hm⟩ : ∃ m, j - l.length = m := ⟨_, rfl⟩
      rw [hm] at h hne'
      have hm4 : m < 4 := by omega
      rw [← ht] at h
      rcases m with _ | _ | _ | _ | m
      · exact hne' (b4_inj h bt0 bt1 bt2 bt3 hc bt1 bt2 bt3).1
      · exact hne' (b4_inj h bt0 bt1 bt2 bt3 bt0 hc bt2 bt3).2.1
      · exact hne' (b4_inj h bt0 bt1 bt2 bt3 bt0 bt1 hc bt3).2.2.1
      · exact hne' (b4_inj h bt0 bt1 bt2 bt3 bt0 bt1 bt2 hc).2.2.2
      · omega

theorem RecordTurned : usufructlaw06_RecordTurned.Pure := by
  intro l a1 a2 _ _ hb hw1 hw2
  have hB : Bytes l := fun x hx => bounds_u8 (hb x hx)
  have ha1 := bounds_u16 hw1
  have hc : IsByte a2 := bounds_u8 hw2
  refine ⟨10, ?_⟩
  unfold usufructlaw06_RecordTurned.f
  rw [show usufructlaw06_awake.f = some true from rfl, Option.bind_some, if_pos rfl]
  by_cases hl : (l.length : Int) > 60
  · rw [if_pos hl]
  rw [if_neg hl, put_eq hB (by omega), Option.bind_some]
  dsimp only
  rw [if_pos rfl]
  obtain ⟨F, hF⟩ : ∃ F, F = 90 :: (be4 (l.length : Int) ++ (be4 (U (crc (be4 (l.length : Int)))) ++ (l ++ be4 (U (crc l))))) := ⟨_, rfl⟩
  rw [← hF]
  have hlen : F.length = l.length + 13 := by rw [hF]; simp [be4]
  have hFb : Bytes F := by
    intro c hcc
    rw [hF] at hcc
    simp only [List.mem_cons, List.mem_append] at hcc
    rcases hcc with rfl | h | h | h | h
    · exact ⟨by decide, by decide⟩
    · exact be4_bytes _ c h
    · exact be4_bytes _ c h
    · exact hB c h
    · exact be4_bytes _ c h
  have hz : ((F.length : Int) == 0) = false := beq_eq_false_iff_ne.mpr (by omega)
  rw [hz, show (10 : Nat) = 9 + 1 from rfl, usufructlaw06_RecordTurned.j0, if_neg (by decide), if_neg (show ¬ ((F.length : Int) = 0) by omega)]
  have hw : wrap64 a1 = a1 := by unfold wrap64; omega
  rw [hw]
  have hk0 : 0 ≤ Int.tmod a1 (F.length : Int) := Int.tmod_nonneg _ ha1.1
  have hk1 : Int.tmod a1 (F.length : Int) < (F.length : Int) := Int.tmod_lt_of_pos _ (by omega)
  obtain ⟨i, hi⟩ := Int.eq_ofNat_of_zero_le hk0
  rw [hi] at hk0 hk1 ⊢
  rw [if_pos hk0, if_pos hk1]
  by_cases hrd : rd F (i : Int) = a2
  · rw [if_pos hrd]
  rw [if_neg hrd, Option.bind_some, Int.toNat_natCast]
  have hbad := turned_bad hB (by omega) i a2 hc F hF (by omega) hrd
  obtain ⟨G, hG⟩ : ∃ G, G = F.set i a2 := ⟨_, rfl⟩
  rw [← hG] at hbad ⊢
  have hGl : G.length = l.length + 13 := by rw [hG, List.length_set, hlen]
  have hGb : Bytes G := by
    intro c hcc
    rw [hG] at hcc
    rcases List.mem_or_eq_of_mem_set hcc with h | h
    · exact hFb c h
    · rw [h]; exact hc
  have hget : ∀ k, 2 ≤ k → record_Get.f k G 0 = some (getG G) := fun k hk => by
    have := get_eq hGb (by omega) 0 (Nat.zero_le _) hk
    simpa using this
  have hall : record_All.f 9 G = some ([], 0, if (getG G).2.2 = 2 then 2 else 18) := by
    unfold record_All.f
    rw [if_pos (by omega), show (9 : Nat) = 8 + 1 from rfl, recsF, hget _ (by omega), Option.bind_some, if_neg hbad, Option.bind_some, if_pos (by decide)]
    rw [show lastI [] = 0 from rfl, if_neg (by omega), hget _ (by omega), Option.bind_some]
    rfl
  rw [hget 9 (by omega), Option.bind_some, hall, Option.bind_some]
  dsimp only
  have hx : ((if (getG G).2.2 = 2 then (2 : Int) else 18) != 0) = true := by split <;> rfl
  rw [if_neg hbad, if_pos (getG_bad hbad), if_pos (show ((([] : List (List Int)).length : Nat) : Int) = 0 from rfl), if_pos rfl, hx]
end Go.Proofs.Ytdamiipeijnpnaa.Pure
