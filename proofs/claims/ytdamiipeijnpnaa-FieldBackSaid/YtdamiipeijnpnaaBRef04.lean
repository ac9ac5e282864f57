/- A reader's steps beside the document's: each answers alike, and both stand at the same place with the same error. -/
import Derived.Test.YtdamiipeijnpnaaBReader
import Derived.Test.YtdamiipeijnpnaaQx10
import Derived.Test.YtdamiipeijnpnaaQx11
import Derived.Test.YtdamiipeijnpnaaQx12
import Derived.Test.YtdamiipeijnpnaaQx13
import Derived.Test.YtdamiipeijnpnaaQx15
namespace Go.Proofs.Ytdamiipeijnpnaa.Q
set_option linter.unusedVariables false
set_option linter.unusedSimpArgs false
open Go.RowKit Go.Proofs.YtdamiipeijnpnaaW.PrintWords Go.Proofs.YtdamiipeijnpnaaW.PrintLast Go.Proofs.YtdamiipeijnpnaaW.PrintMore

/-- All are bytes. -/
def BB (b : List Int) : Prop := ∀ x ∈ b, 0 ≤ x ∧ x ≤ 255
theorem rd_BB {b : List Int} (h : BB b) (i : Int) : 0 ≤ rd b i ∧ rd b i ≤ 255 := by
  unfold rd
  rw [List.getD_eq_getElem?_getD]
  cases hq : b[i.toNat]? with
  | none => simp
  | some y => exact h y (List.mem_of_getElem? hq)
theorem bt_str {b : List Int} (h : BB b) (i : Int) : bt (strOfNums b) i = rd b i := by
  have hr := rd_BB h i
  unfold bt rd at *
  have hs : (strOfNums b).size = b.length := by simp [strOfNums, ByteArray.size]
  by_cases hi : i.toNat < b.length
  · rw [dif_pos (by rw [hs]; exact hi)]
    rw [List.getD_eq_getElem?_getD, List.getElem?_eq_getElem hi] at *
    simp only [Option.getD_some] at *
    have : ((strOfNums b)[i.toNat]'(by rw [hs]; exact hi)) = UInt8.ofNat (b[i.toNat]).toNat := by
      simp [strOfNums, ByteArray.getElem_eq_getElem_data]
    rw [this, UInt8.toNat_ofNat']
    omega
  · rw [dif_neg (by rw [hs]; exact hi), List.getD_eq_getElem?_getD, List.getElem?_eq_none (by omega)]
    rfl
theorem str_ext (b : List Int) (i j : Nat) : (strOfNums b).extract i j = strOfNums ((b.take j).drop i) := by
  apply ByteArray.ext
  simp [strOfNums, List.extract, ByteArray.data_extract, List.drop_take, List.map_drop, List.map_take]
theorem vstep_eq (v c : Int) (h0 : 0 ≤ v) (h1 : v < 72057594037927936) (c0 : 0 ≤ c) (c1 : c ≤ 255) : vstep v c = 256 * v + c := by
  unfold vstep
  rw [show (v * 256) % 18446744073709551616 = v * 256 by omega, show c % 18446744073709551616 = c by omega]
  rw [bits_join .u64 64 (by decide) (fun n a b => by have e : ∀ x : Int, IntKind.u64.wrap x = x % 18446744073709551616 := fun x => by simp [IntKind.wrap, IntKind.bits, IntKind.signed]
                                                     rw [e]; omega) 8 (v * 256) c (by omega) (by omega) (by omega) c0 (by omega) (by omega)]
  omega
theorem seg8 (b : List Int) (n : Nat) (h : n + 8 ≤ b.length) : (b.take (n + 8)).drop n = [rd b n, rd b (n + 1 : Nat), rd b (n + 2 : Nat), rd b (n + 3 : Nat), rd b (n + 4 : Nat), rd b (n + 5 : Nat), rd b (n + 6 : Nat), rd b (n + 7 : Nat)] := by
  have e : ∀ m : Nat, m < b.length → b.drop m = rd b (m : Int) :: b.drop (m + 1) := fun m hm => by
    rw [List.drop_eq_getElem_cons hm]
    unfold rd
    rw [Int.toNat_natCast, List.getD_eq_getElem?_getD, List.getElem?_eq_getElem hm]
    rfl
  rw [List.drop_take, show n + 8 - n = 8 by omega, e n (by omega), e (n + 1) (by omega), e (n + 2) (by omega), e (n + 3) (by omega), e (n + 4) (by omega), e (n + 5) (by omega), e (n + 6) (by omega), e (n + 7) (by omega)]
  simp
theorem seg7 (b : List Int) (n : Nat) (h : n + 8 ≤ b.length) : (b.take (n + 8)).drop (n + 1) = [rd b (n + 1 : Nat), rd b (n + 2 : Nat), rd b (n + 3 : Nat), rd b (n + 4 : Nat), rd b (n + 5 : Nat), rd b (n + 6 : Nat), rd b (n + 7 : Nat)] := by
  rw [← List.drop_drop, seg8 b n h]
  rfl
theorem vfold8 (c0 c1 c2 c3 c4 c5 c6 c7 : Int) (h0 : 0 ≤ c0 ∧ c0 ≤ 255) (h1 : 0 ≤ c1 ∧ c1 ≤ 255) (h2 : 0 ≤ c2 ∧ c2 ≤ 255) (h3 : 0 ≤ c3 ∧ c3 ≤ 255) (h4 : 0 ≤ c4 ∧ c4 ≤ 255) (h5 : 0 ≤ c5 ∧ c5 ≤ 255) (h6 : 0 ≤ c6 ∧ c6 ≤ 255) (h7 : 0 ≤ c7 ∧ c7 ≤ 255) :
    vfold [c0, c1, c2, c3, c4, c5, c6, c7] = 256 * (256 * (256 * (256 * (256 * (256 * (256 * (256 * 0 + c0) + c1) + c2) + c3) + c4) + c5) + c6) + c7 := by
  unfold vfold
  simp only [List.foldl]
  rw [vstep_eq 0 c0 (by omega) (by omega) h0.1 h0.2, vstep_eq _ c1 (by omega) (by omega) h1.1 h1.2, vstep_eq _ c2 (by omega) (by omega) h2.1 h2.2, vstep_eq _ c3 (by omega) (by omega) h3.1 h3.2, vstep_eq _ c4 (by omega) (by omega) h4.1 h4.2, vstep_eq _ c5 (by omega) (by omega) h5.1 h5.2, vstep_eq _ c6 (by omega) (by omega) h6.1 h6.2, vstep_eq _ c7 (by omega) (by omega) h7.1 h7.2]
theorem take_step {b : List Int} (hB : BB b) (hl : b.length ≤ 100000) (n : Nat) (h : n + 8 ≤ b.length) (e o N : Int) (S : ByteArray) (Y : Bool) (k : Nat) (p : Int) (j : Nat) (j8 : j < 8) (p0 : 0 ≤ p) (p1 : 256 * p + rd b (n + j : Nat) ≤ 4611686018427387904) :
    usufructref04_Take.l0 (k + 1) p (j : Int) (strOfNums b) n e o N S Y = usufructref04_Take.l0 k (256 * p + rd b (n + j : Nat)) ((j + 1 : Nat) : Int) (strOfNums b) n e o N S Y := by
  have hr := rd_BB hB (n + j : Nat)
  have hs : ((strOfNums b).size : Int) = b.length := by simp [strOfNums, ByteArray.size]
  have e1 : wrap64 ((n : Int) + (j : Int)) = ((n + j : Nat) : Int) := by unfold wrap64; omega
  have e2 : wrap64 (256 * p) = 256 * p := by unfold wrap64; omega
  have e3 : wrap64 ((j : Int) + 1) = ((j + 1 : Nat) : Int) := by unfold wrap64; omega
  have e4 : wrap64 (rd b (n + j : Nat)) = rd b (n + j : Nat) := by unfold wrap64; omega
  have e5 : wrap64 (256 * p + rd b (n + j : Nat)) = 256 * p + rd b (n + j : Nat) := by unfold wrap64; omega
  rw [usufructref04_Take.l0, if_pos (by omega), hs, e1, if_pos (by omega), if_pos (by omega), bt_str hB, e2, e3, e4, e5]
theorem take_nums {b : List Int} (hB : BB b) (hl : b.length ≤ 100000) (n : Nat) (h : n + 8 ≤ b.length) (k : Nat) (hv : vfold ((b.take (n + 8)).drop n) ≤ 4611686018427387904) (e o N : Int) (S : ByteArray) (Y : Bool) :
    usufructref04_Take.l0 (k + 9) 0 0 (strOfNums b) n e o N S Y = some (strOfNums b, (n : Int) + 8, e, o, N, S, Y, vfold ((b.take (n + 8)).drop n)) := by
  rw [seg8 b n h] at *
  have r0 := rd_BB hB n
  have r1 := rd_BB hB (n + 1 : Nat)
  have r2 := rd_BB hB (n + 2 : Nat)
  have r3 := rd_BB hB (n + 3 : Nat)
  have r4 := rd_BB hB (n + 4 : Nat)
  have r5 := rd_BB hB (n + 5 : Nat)
  have r6 := rd_BB hB (n + 6 : Nat)
  have r7 := rd_BB hB (n + 7 : Nat)
  have s := take_step hB hl n h e o N S Y
  rw [vfold8 _ _ _ _ _ _ _ _ r0 r1 r2 r3 r4 r5 r6 r7] at *
  refine (s (k + 8) 0 0 (by omega) (by omega) (by simp only [Nat.add_zero]; omega)).trans ?_
  refine (s (k + 7) _ 1 (by omega) (by simp only [Nat.add_zero]; omega) (by simp only [Nat.add_zero]; omega)).trans ?_
  refine (s (k + 6) _ 2 (by omega) (by simp only [Nat.add_zero]; omega) (by simp only [Nat.add_zero]; omega)).trans ?_
  refine (s (k + 5) _ 3 (by omega) (by simp only [Nat.add_zero]; omega) (by simp only [Nat.add_zero]; omega)).trans ?_
  refine (s (k + 4) _ 4 (by omega) (by simp only [Nat.add_zero]; omega) (by simp only [Nat.add_zero]; omega)).trans ?_
  refine (s (k + 3) _ 5 (by omega) (by simp only [Nat.add_zero]; omega) (by simp only [Nat.add_zero]; omega)).trans ?_
  refine (s (k + 2) _ 6 (by omega) (by simp only [Nat.add_zero]; omega) (by simp only [Nat.add_zero]; omega)).trans ?_
  refine (s (k + 1) _ 7 (by omega) (by simp only [Nat.add_zero]; omega) (by simp only [Nat.add_zero]; omega)).trans ?_
  rw [usufructref04_Take.l0, if_neg (by omega), show wrap64 ((n : Int) + 8) = (n : Int) + 8 by unfold wrap64; omega]
  rfl
/-- A number, both ways. -/
theorem take_eq {b : List Int} {a fa fe : Int} (hB : BB b) (h : Rd b a fa fe) (k : Nat) (N : Int) (S : ByteArray) (Y : Bool) : ∃ r a' f' e', field_Reader_Num.f b a fa fe = some (r, a', f', e') ∧ Rd b a' f' e' ∧ usufructref04_Take.f (k + 10) (strOfNums b) a fe fa N S Y = some (strOfNums b, a', e', f', N, S, Y, r) ∧ (fe ≠ 0 → e' ≠ 0) ∧ 0 ≤ r ∧ r ≤ 4611686018427387904 := by
  obtain ⟨r, a', f', e', hn, hr, hz, q0, q1⟩ := num_step h
  refine ⟨r, a', f', e', hn, hr, ?_, fun he => by have := (hz he).2.2; omega, q0, q1⟩
  · have hl := h.len; have h0 := h.a0; have h1 := h.a1
    unfold field_Reader_Num.f at hn
    unfold usufructref04_Take.f
    rw [h.ok] at hn
    obtain ⟨n, rfl⟩ := Int.eq_ofNat_of_zero_le h0
    have hs : ((strOfNums b).size : Int) = b.length := by simp [strOfNums, ByteArray.size]
    have w1 : wrap64 ((b.length : Int) - n) = (b.length : Int) - n := by unfold wrap64; omega
    have w2 : wrap64 ((n : Int) + 1) = ((n + 1 : Nat) : Int) := by unfold wrap64; omega
    have w3 : wrap64 ((n : Int) + 8) = ((n + 8 : Nat) : Int) := by unfold wrap64; omega
    have fl : ∀ x y e, usufructref04_fail.f (strOfNums b) x y fa N S Y n e = some (strOfNums b, (n : Int), e, (n : Int), N, S, Y) := fun _ _ _ => rfl
    rw [hs, w1, w2, w3]
    rw [w1] at hn
    by_cases he : fe = 0
    · subst he
      rw [if_pos (decide_eq_true rfl)] at hn
      rw [if_pos rfl]
      by_cases hsh : (b.length : Int) - n < 8
      · rw [if_pos hsh] at hn ⊢
        simp only [Option.some.injEq, Prod.mk.injEq] at hn
        obtain ⟨rfl, rfl, rfl, rfl⟩ := hn
        first | rfl | (intro hh; omega)
      · rw [if_neg hsh] at hn ⊢
        rw [if_pos ⟨h0, by omega⟩, show ((n : Int) + 8).toNat = n + 8 by omega, Int.toNat_natCast] at hn
        rw [if_pos h0, if_pos (by omega), bt_str hB]
        have hlen : n + 8 ≤ b.length := by omega
        have r0 := rd_BB hB n
        have r1 := rd_BB hB (n + 1 : Nat)
        have r2 := rd_BB hB (n + 2 : Nat)
        have r3 := rd_BB hB (n + 3 : Nat)
        have r4 := rd_BB hB (n + 4 : Nat)
        have r5 := rd_BB hB (n + 5 : Nat)
        have r6 := rd_BB hB (n + 6 : Nat)
        have r7 := rd_BB hB (n + 7 : Nat)
        have hV := vfold8 _ _ _ _ _ _ _ _ r0 r1 r2 r3 r4 r5 r6 r7
        rw [← seg8 b n hlen] at hV
        have hT := fun k hv => take_nums hB hl n hlen k hv 0 fa N S Y
        have hx : ((strOfNums b).extract (((n + 1 : Nat) : Int)).toNat (((n + 8 : Nat) : Int)).toNat).toList = [UInt8.ofNat (rd b (n + 1 : Nat)).toNat, UInt8.ofNat (rd b (n + 2 : Nat)).toNat, UInt8.ofNat (rd b (n + 3 : Nat)).toNat, UInt8.ofNat (rd b (n + 4 : Nat)).toNat, UInt8.ofNat (rd b (n + 5 : Nat)).toNat, UInt8.ofNat (rd b (n + 6 : Nat)).toNat, UInt8.ofNat (rd b (n + 7 : Nat)).toNat] := by
          rw [Int.toNat_natCast, Int.toNat_natCast, str_ext, seg7 b n hlen, ByteArray.toList_eq]
          rfl
        rw [hx]
        clear hx w2 w3
        generalize vfold ((b.take (n + 8)).drop n) = v at *
        generalize rd b n = c0 at *
        generalize rd b (n + 1 : Nat) = c1 at *
        generalize rd b (n + 2 : Nat) = c2 at *
        generalize rd b (n + 3 : Nat) = c3 at *
        generalize rd b (n + 4 : Nat) = c4 at *
        generalize rd b (n + 5 : Nat) = c5 at *
        generalize rd b (n + 6 : Nat) = c6 at *
        generalize rd b (n + 7 : Nat) = c7 at *
        have j1 : usufructref04_Take.j0 (k + 10) true (strOfNums b) n 0 fa N S Y = some (strOfNums b, (n : Int), 4, (n : Int), N, S, Y, 0) := by
          rw [usufructref04_Take.j0, if_pos rfl]
          rfl
        have j2 : v ≤ 4611686018427387904 → usufructref04_Take.j0 (k + 10) false (strOfNums b) n 0 fa N S Y = some (strOfNums b, (n : Int) + 8, 0, fa, N, S, Y, v) := fun hv => by
          rw [usufructref04_Take.j0, if_neg (by decide)]
          exact hT k hv
        by_cases hv : v > 4611686018427387904
        · rw [if_pos hv] at hn
          simp only [Option.some.injEq, Prod.mk.injEq] at hn
          obtain ⟨rfl, rfl, rfl, rfl⟩ := hn
          first
          | (intro hh; omega)
          | (split
             · exact j1
             · split
               · rw [if_pos (by omega), if_pos (by omega), if_pos (by omega)]
                 have hne : ¬ (c1 = 0 ∧ c2 = 0 ∧ c3 = 0 ∧ c4 = 0 ∧ c5 = 0 ∧ c6 = 0 ∧ c7 = 0) := by omega
                 have z : ∀ c : Int, 0 ≤ c ∧ c ≤ 255 → UInt8.ofNat c.toNat = 0 → c = 0 := fun c hc h => by
                   have := congrArg UInt8.toNat h
                   rw [UInt8.toNat_ofNat'] at this
                   simp at this
                   omega
                 rw [show (([UInt8.ofNat c1.toNat, UInt8.ofNat c2.toNat, UInt8.ofNat c3.toNat, UInt8.ofNat c4.toNat, UInt8.ofNat c5.toNat, UInt8.ofNat c6.toNat, UInt8.ofNat c7.toNat] : List UInt8) != [0, 0, 0, 0, 0, 0, 0]) = true from by
                   rw [bne_iff_ne]
                   intro hq
                   simp only [List.cons.injEq, and_true] at hq
                   obtain ⟨q1, q2, q3, q4, q5, q6, q7⟩ := hq
                   exact hne ⟨z _ r1 q1, z _ r2 q2, z _ r3 q3, z _ r4 q4, z _ r5 q5, z _ r6 q6, z _ r7 q7⟩]
                 exact j1
               · omega)
        · rw [if_neg hv] at hn
          have w4 : wrap64 v = v := by unfold wrap64; omega
          rw [w4] at hn
          simp only [Option.some.injEq, Prod.mk.injEq] at hn
          obtain ⟨rfl, rfl, rfl, rfl⟩ := hn
          first
          | (intro hh; omega)
          | (rw [if_neg (by omega)]
             split
             · rw [if_pos (by omega), if_pos (by omega), if_pos (by omega)]
               have z1 : c1 = 0 := by omega
               have z2 : c2 = 0 := by omega
               have z3 : c3 = 0 := by omega
               have z4 : c4 = 0 := by omega
               have z5 : c5 = 0 := by omega
               have z6 : c6 = 0 := by omega
               have z7 : c7 = 0 := by omega
               subst z1 z2 z3 z4 z5 z6 z7
               exact j2 (by omega)
             · exact j2 (by omega))
    · rw [if_neg (by rw [decide_eq_false he]; decide)] at hn
      simp only [Option.some.injEq, Prod.mk.injEq] at hn
      obtain ⟨rfl, rfl, rfl, rfl⟩ := hn
      first
      | (intro hh; omega)
      | rw [if_neg he]
/-- A text, both ways. -/
theorem text_eq {b : List Int} {a fa fe : Int} (hB : BB b) (h : Rd b a fa fe) (k : Nat) (N : Int) (S : ByteArray) (Y : Bool) (m : Int) : ∃ r a' f' e', field_Reader_Text.f b a fa fe m = some (r, a', f', e') ∧ Rd b a' f' e' ∧ usufructref04_Text.f (k + 10) (strOfNums b) a fe fa N S Y m = some (strOfNums b, a', e', f', N, S, Y, r) := by
  obtain ⟨n, a1, f1, e1, hn, hr, ht, hz, n0, n1⟩ := take_eq hB h k N S Y
  unfold field_Reader_Text.f usufructref04_Text.f
  rw [hn, ht, Option.bind_some, Option.bind_some]
  dsimp only
  rw [hr.ok]
  have hl := hr.len; have h0 := hr.a0; have h1 := hr.a1
  have hs : ((strOfNums b).size : Int) = b.length := by simp [strOfNums, ByteArray.size]
  by_cases he : e1 = 0
  · rw [if_pos (decide_eq_true he), if_pos he]
    by_cases hm : n > m
    · rw [if_pos hm, if_pos hm]
      exact ⟨_, _, _, _, rfl, ⟨h.len, h.a0, h.a1, fun h => by omega⟩, rfl⟩
    · rw [if_neg hm, if_neg hm, hs]
      have e2 : wrap64 ((b.length : Int) - a1) = (b.length : Int) - a1 := by unfold wrap64; omega
      rw [e2]
      by_cases hsh : n > (b.length : Int) - a1
      · rw [if_pos hsh, if_pos hsh]
        exact ⟨_, _, _, _, rfl, ⟨h.len, h.a0, h.a1, fun h => by omega⟩, rfl⟩
      · have e3 : wrap64 (a1 + n) = a1 + n := by unfold wrap64; omega
        rw [if_neg hsh, if_neg hsh, if_pos ⟨h0, n0, by omega⟩, if_pos h0, e3, if_pos (by omega), if_pos (by omega)]
        exact ⟨_, _, _, _, rfl, ⟨hl, by omega, by omega, hr.e0⟩, by rw [str_ext]⟩
  · rw [if_neg (by rw [decide_eq_false he]; decide), if_neg he]
    exact ⟨_, _, _, _, rfl, hr, rfl⟩
/-- A count, both ways. -/
theorem count_eq {b : List Int} {a fa fe : Int} (hB : BB b) (h : Rd b a fa fe) (k : Nat) (N : Int) (S : ByteArray) (Y : Bool) (m least : Int) : ∃ r a' f' e', field_Reader_Count.f b a fa fe m least = some (r, a', f', e') ∧ Rd b a' f' e' ∧ usufructref04_Count.f (k + 10) (strOfNums b) a fe fa N S Y m least = some (strOfNums b, a', e', f', N, S, Y, r) := by
  obtain ⟨n, a1, f1, e1, hn, hr, ht, hz, n0, n1⟩ := take_eq hB h k N S Y
  unfold field_Reader_Count.f usufructref04_Count.f
  rw [hn, ht, Option.bind_some, Option.bind_some]
  dsimp only
  rw [okR_f, Option.bind_some]
  dsimp only
  have hl := hr.len; have h0 := hr.a0; have h1 := hr.a1
  have hk := hr.ok
  have hs : ((strOfNums b).size : Int) = b.length := by simp [strOfNums, ByteArray.size]
  by_cases he : e1 = 0
  · rw [decide_eq_true he] at hk
    rw [if_pos hk, if_pos he]
    by_cases hm : n > m
    · rw [if_pos hm, if_pos hm, fail_ok hk, Option.bind_some]
      exact ⟨_, _, _, _, rfl, ⟨h.len, h.a0, h.a1, fun h => by simp at h⟩, rfl⟩
    · rw [if_neg hm, if_neg hm, leftR_f, Option.bind_some]
      dsimp only
      have hx : mx least 1 = if least < 1 then 1 else least := by unfold mx; split <;> first | rfl | (split <;> omega) | omega
      have hx1 : 1 ≤ mx least 1 := by unfold mx; split <;> omega
      have hj : (if least < 1 then usufructref04_Count.j0 (k + 10) 1 n (strOfNums b) a fe fa N S Y (strOfNums b) a1 e1 f1 N S Y else usufructref04_Count.j0 (k + 10) least n (strOfNums b) a fe fa N S Y (strOfNums b) a1 e1 f1 N S Y) = usufructref04_Count.j0 (k + 10) (mx least 1) n (strOfNums b) a fe fa N S Y (strOfNums b) a1 e1 f1 N S Y := by
        rw [hx]
        split <;> rfl
      rw [hj]
      rw [usufructref04_Count.j0]
      clear hx hj
      generalize mx least 1 = x at *
      rw [if_neg (show ¬ x = 0 by omega), if_neg (show ¬ x = 0 by omega), hs]
      split
      · rw [fail_ok hk, Option.bind_some]
        exact ⟨_, _, _, _, rfl, ⟨h.len, h.a0, h.a1, fun h => by simp at h⟩, rfl⟩
      · exact ⟨_, _, _, _, rfl, hr, rfl⟩
  · rw [decide_eq_false he] at hk
    rw [if_neg (by rw [hk]; decide), if_neg he]
    exact ⟨_, _, _, _, rfl, hr, rfl⟩
/-- A flag, both ways. -/
theorem flag_eq {b : List Int} {a fa fe : Int} (hB : BB b) (h : Rd b a fa fe) (N : Int) (S : ByteArray) (Y : Bool) : ∃ r a' f' e', field_Reader_Flag.f b a fa fe = some (r, a', f', e') ∧ Rd b a' f' e' ∧ usufructref04_Flag.f (strOfNums b) a fe fa N S Y = some (strOfNums b, a', e', f', N, S, Y, r) := by
  unfold field_Reader_Flag.f usufructref04_Flag.f
  rw [okR_f, Option.bind_some]
  dsimp only
  have hl := h.len; have h0 := h.a0; have h1 := h.a1
  have hk := h.ok
  have hs : ((strOfNums b).size : Int) = b.length := by simp [strOfNums, ByteArray.size]
  by_cases he : fe = 0
  · rw [decide_eq_true he] at hk
    rw [if_pos hk, if_pos he, leftR_f, Option.bind_some]
    dsimp only
    have e1 : wrap64 ((b.length : Int) - a) = (b.length : Int) - a := by unfold wrap64; omega
    have e2 : wrap64 (a + 1) = a + 1 := by unfold wrap64; omega
    have e3 : wrap64 (a + 1 - 1) = a := by unfold wrap64; omega
    rw [e1, e2, e3, hs, bt_str hB]
    by_cases hsh : (b.length : Int) - a = 0
    · rw [if_pos hsh, if_pos (show a = (b.length : Int) by omega), fail_ok hk, Option.bind_some]
      exact ⟨_, _, _, _, rfl, ⟨hl, h0, h1, fun h => by simp at h⟩, rfl⟩
    · rw [if_neg hsh, if_neg (show ¬ a = (b.length : Int) by omega)]
      rw [if_pos h0, if_pos (show a < (b.length : Int) by omega)]
      by_cases hv : rd b a > 1
      · rw [if_pos hv, fail_ok hk, Option.bind_some]
        refine ⟨_, _, _, _, rfl, ⟨hl, h0, h1, fun h => by simp at h⟩, ?_⟩
        rw [if_pos h0, if_pos (show a < (b.length : Int) by omega), if_pos hv]
        rfl
      · rw [if_neg hv, if_pos h0, if_pos (by omega)]
        refine ⟨_, _, _, _, rfl, ⟨hl, by omega, by omega, h.e0⟩, ?_⟩
        rw [if_pos h0, if_pos (show a < (b.length : Int) by omega), if_neg hv, if_pos h0, if_pos (by omega)]
  · rw [decide_eq_false he] at hk
    rw [if_neg (by rw [hk]; decide), if_neg he]
    exact ⟨_, _, _, _, rfl, h, rfl⟩
/-- The end, both ways. -/
theorem end_eq {b : List Int} {a fa fe : Int} (h : Rd b a fa fe) (k : Nat) (N : Int) (S : ByteArray) (Y : Bool) : ∃ r a' f' e', field_Reader_End.f (k + 1) b a fa fe = some (r, a', f', e') ∧ Rd b a' f' e' ∧ usufructref04_End.f (strOfNums b) a fe fa N S Y = some (strOfNums b, a', e', f', N, S, Y) ∧ r = decide (e' = 0) := by
  unfold field_Reader_End.f usufructref04_End.f
  rw [okR_f, Option.bind_some]
  dsimp only
  have hl := h.len; have h0 := h.a0; have h1 := h.a1
  have hk := h.ok
  have hs : ((strOfNums b).size : Int) = b.length := by simp [strOfNums, ByteArray.size]
  by_cases he : fe = 0
  · rw [decide_eq_true he] at hk
    have e1 : wrap64 ((b.length : Int) - a) = (b.length : Int) - a := by unfold wrap64; omega
    rw [if_pos hk, if_pos he, leftR_f, Option.bind_some]
    dsimp only
    rw [field_Reader_End.j0, e1, hs]
    by_cases hp : a < (b.length : Int)
    · rw [if_pos (decide_eq_true (show (b.length : Int) - a > 0 by omega)), if_pos hp, fail_ok hk, Option.bind_some, okR_f, Option.bind_some]
      exact ⟨_, _, _, _, rfl, ⟨h.len, h.a0, h.a1, fun h => by simp at h⟩, rfl, by dsimp only [okR]; simp⟩
    · rw [if_neg (by rw [decide_eq_false (show ¬ (b.length : Int) - a > 0 by omega)]; decide), if_neg hp, okR_f, Option.bind_some]
      exact ⟨_, _, _, _, rfl, h, rfl, h.ok⟩
  · rw [decide_eq_false he] at hk
    rw [if_neg (by rw [hk]; decide), if_neg he, field_Reader_End.j0, if_neg (by decide), okR_f, Option.bind_some]
    exact ⟨_, _, _, _, rfl, h, rfl, h.ok⟩
end Go.Proofs.Ytdamiipeijnpnaa.Q
