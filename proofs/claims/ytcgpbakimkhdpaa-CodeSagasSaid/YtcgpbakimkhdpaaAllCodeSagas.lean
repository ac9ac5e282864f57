/- A saga's form, and the saga of any bytes, or what is wrong, and where, are as the document says; a right one is taken as it was. -/
import Derived.Test.YtcgpbakimkhdpaaGReaderText
import Derived.Test.YtcgpbakimkhdpaaQx19
import Derived.Test.YtcgpbakimkhdpaaQx20
import Derived.Test.YtcgpbakimkhdpaaQx21
import Derived.Test.YtcgpbakimkhdpaaQx5
import Derived.Test.YtcgpbakimkhdpaaQx7
import Derived.Test.YtcgpbakimkhdpaaQx9
import Derived.Test.YtcgpbakimkhdpaaQx11
import Derived.Test.YtcgpbakimkhdpaaGWriterText
import Derived.Test.YtcgpbakimkhdpaaQx13
import Derived.Test.YtcgpbakimkhdpaaGPutSaga
import Derived.Test.YtcgpbakimkhdpaaQx6
import Derived.Test.YtcgpbakimkhdpaaQx8
import Derived.Test.YtcgpbakimkhdpaaQx10
import Derived.Test.YtcgpbakimkhdpaaGTakeSaga
import Derived.Test.YtcgpbakimkhdpaaQx15
import Derived.Test.YtcgpbakimkhdpaaQx12
import Derived.Test.YtcgpbakimkhdpaaQx16
import Derived.Test.YtcgpbakimkhdpaaBOpen
import Derived.OpenShut
section
namespace Go.Proofs.Ytcgpbakimkhdpaa.Q
set_option linter.unusedVariables false
set_option linter.unusedSimpArgs false
open Go.RowKit Go.Proofs.YtcgpbakimkhdpaaW.PrintWords Go.Proofs.YtcgpbakimkhdpaaW.PrintLast Go.Proofs.YtcgpbakimkhdpaaW.PrintMore

/-- What holds of a reader at all times. -/
structure Rd (b : List Int) (a fa fe : Int) : Prop where
  len : b.length ≤ 100000
  a0 : 0 ≤ a
  a1 : a ≤ (b.length : Int)
  e0 : fe = 0 → fa = 0
theorem Rd.ok {b : List Int} {a fa fe : Int} (h : Rd b a fa fe) : okR fa fe = decide (fe = 0) := by
  unfold okR
  by_cases he : fe = 0
  · rw [he, h.e0 he]; rfl
  · rw [decide_eq_false he]
    have : (fe == 0) = false := beq_eq_false_iff_ne.mpr he
    rw [this, Bool.and_false]
theorem u64_lo (v c : Int) : 0 ≤ Go.bits .or .u64 v c := by
  have h : ∀ x : Int, IntKind.u64.wrap x = x % 18446744073709551616 := fun x => by simp [IntKind.wrap, IntKind.bits, IntKind.signed]
  unfold Go.bits
  simp only [h]
  exact Int.emod_nonneg _ (by decide)
theorem vfold_lo (l : List Int) : 0 ≤ vfold l := by
  unfold vfold
  suffices h : ∀ (l : List Int) (v : Int), 0 ≤ v → 0 ≤ l.foldl vstep v from h l 0 (Int.le_refl _)
  intro l
  induction l with
  | nil => exact fun v h => h
  | cons c l ih => exact fun v h => ih _ (u64_lo _ _)
/-- A number is taken. -/
theorem num_step {b : List Int} {a fa fe : Int} (h : Rd b a fa fe) : ∃ r a' f' e', field_Reader_Num.f b a fa fe = some (r, a', f', e') ∧ Rd b a' f' e' ∧ (fe ≠ 0 → r = 0 ∧ f' = fa ∧ e' = fe) ∧ 0 ≤ r ∧ r ≤ 4611686018427387904 := by
  have hl := h.len; have h0 := h.a0; have h1 := h.a1
  unfold field_Reader_Num.f
  rw [h.ok]
  by_cases he : fe = 0
  · rw [if_pos (decide_eq_true he)]
    have e1 : wrap64 ((b.length : Int) - a) = (b.length : Int) - a := by unfold wrap64; omega
    rw [e1]
    by_cases hs : (b.length : Int) - a < 8
    · rw [if_pos hs]
      exact ⟨_, _, _, _, rfl, ⟨hl, h0, h1, fun h => by omega⟩, fun hn => absurd he hn, by omega, by omega⟩
    · rw [if_neg hs, if_pos ⟨h0, by omega⟩]
      have hv := vfold_lo ((b.take (a + 8).toNat).drop a.toNat)
      generalize vfold ((b.take (a + 8).toNat).drop a.toNat) = v at *
      by_cases hv2 : v > 4611686018427387904
      · rw [if_pos hv2]
        exact ⟨_, _, _, _, rfl, ⟨hl, h0, h1, fun h => by omega⟩, fun hn => absurd he hn, by omega, by omega⟩
      · rw [if_neg hv2]
        have e2 : wrap64 v = v := by unfold wrap64; omega
        rw [e2]
        exact ⟨_, _, _, _, rfl, ⟨hl, by omega, by omega, h.e0⟩, fun hn => absurd he hn, hv, by omega⟩
  · rw [if_neg (by rw [decide_eq_false he]; decide)]
    exact ⟨_, _, _, _, rfl, h, fun _ => ⟨rfl, rfl, rfl⟩, by omega, by omega⟩
/-- A text is taken. -/
theorem text_step {b : List Int} {a fa fe : Int} (h : Rd b a fa fe) (m : Int) : ∃ r a' f' e', field_Reader_Text.f b a fa fe m = some (r, a', f', e') ∧ Rd b a' f' e' ∧ (fe ≠ 0 → r = ⟨#[]⟩ ∧ f' = fa ∧ e' = fe) := by
  obtain ⟨n, a1, f1, e1, hn, hr, hz, n0, n1⟩ := num_step h
  unfold field_Reader_Text.f
  rw [hn, Option.bind_some]
  dsimp only
  rw [hr.ok]
  have hl := hr.len; have h0 := hr.a0; have h1 := hr.a1
  by_cases he : e1 = 0
  · rw [if_pos (decide_eq_true he)]
    have hfe : fe = 0 := by
      by_cases hf : fe = 0
      · exact hf
      · have := (hz hf).2.2; omega
    by_cases hm : n > m
    · rw [if_pos hm]
      exact ⟨_, _, _, _, rfl, ⟨h.len, h.a0, h.a1, fun h => by omega⟩, fun hn => absurd hfe hn⟩
    · rw [if_neg hm]
      have e2 : wrap64 ((b.length : Int) - a1) = (b.length : Int) - a1 := by unfold wrap64; omega
      rw [e2]
      by_cases hs : n > (b.length : Int) - a1
      · rw [if_pos hs]
        exact ⟨_, _, _, _, rfl, ⟨h.len, h.a0, h.a1, fun h => by omega⟩, fun hn => absurd hfe hn⟩
      · rw [if_neg hs, if_pos ⟨h0, n0, by omega⟩]
        exact ⟨_, _, _, _, rfl, ⟨hl, by omega, by omega, hr.e0⟩, fun hn => absurd hfe hn⟩
  · rw [if_neg (by rw [decide_eq_false he]; decide)]
    exact ⟨_, _, _, _, rfl, hr, fun hn => ⟨rfl, (hz hn).2⟩⟩
theorem fail_ok {b : List Int} {a fa fe : Int} (h : okR fa fe = true) (x e : Int) : field_Reader_fail.f b a fa fe x e = some (x, x, e) := failR_f b a fa fe x e h
/-- A flag is taken. -/
theorem flag_step {b : List Int} {a fa fe : Int} (h : Rd b a fa fe) : ∃ r a' f' e', field_Reader_Flag.f b a fa fe = some (r, a', f', e') ∧ Rd b a' f' e' ∧ (fe ≠ 0 → r = false ∧ f' = fa ∧ e' = fe) := by
  unfold field_Reader_Flag.f
  rw [okR_f, Option.bind_some]
  dsimp only
  have hl := h.len; have h0 := h.a0; have h1 := h.a1
  have hk := h.ok
  by_cases he : fe = 0
  · rw [decide_eq_true he] at hk
    rw [if_pos hk, leftR_f, Option.bind_some]
    dsimp only
    have e1 : wrap64 ((b.length : Int) - a) = (b.length : Int) - a := by unfold wrap64; omega
    have e2 : wrap64 (a + 1) = a + 1 := by unfold wrap64; omega
    have e3 : wrap64 (a + 1 - 1) = a := by unfold wrap64; omega
    rw [e1, e2, e3]
    by_cases hs : (b.length : Int) - a = 0
    · rw [if_pos hs, fail_ok hk, Option.bind_some]
      exact ⟨_, _, _, _, rfl, ⟨hl, h0, h1, fun h => by simp at h⟩, fun hn => absurd he hn⟩
    · rw [if_neg hs, if_pos h0, if_pos (by omega)]
      by_cases hv : rd b a > 1
      · rw [if_pos hv, fail_ok hk, Option.bind_some]
        exact ⟨_, _, _, _, rfl, ⟨hl, h0, h1, fun h => by simp at h⟩, fun hn => absurd he hn⟩
      · rw [if_neg hv, if_pos h0, if_pos (by omega)]
        exact ⟨_, _, _, _, rfl, ⟨hl, by omega, by omega, h.e0⟩, fun hn => absurd he hn⟩
  · rw [decide_eq_false he] at hk
    rw [if_neg (by rw [hk]; decide)]
    exact ⟨_, _, _, _, rfl, h, fun _ => ⟨rfl, rfl, rfl⟩⟩
/-- The end is asked for. -/
theorem end_step {b : List Int} {a fa fe : Int} (h : Rd b a fa fe) (k : Nat) : ∃ r a' f' e', field_Reader_End.f (k + 1) b a fa fe = some (r, a', f', e') ∧ Rd b a' f' e' ∧ (fe ≠ 0 → r = false ∧ f' = fa ∧ e' = fe) := by
  unfold field_Reader_End.f
  rw [okR_f, Option.bind_some]
  dsimp only
  have hk := h.ok
  by_cases he : fe = 0
  · rw [decide_eq_true he] at hk
    rw [if_pos hk, leftR_f, Option.bind_some]
    dsimp only
    rw [field_Reader_End.j0]
    split
    · rw [fail_ok hk, Option.bind_some, okR_f, Option.bind_some]
      exact ⟨_, _, _, _, rfl, ⟨h.len, h.a0, h.a1, fun h => by simp at h⟩, fun hn => absurd he hn⟩
    · rw [okR_f, Option.bind_some]
      exact ⟨_, _, _, _, rfl, h, fun hn => absurd he hn⟩
  · rw [decide_eq_false he] at hk
    rw [if_neg (by rw [hk]; decide), field_Reader_End.j0, if_neg (by decide), okR_f, Option.bind_some]
    exact ⟨_, _, _, _, rfl, h, fun _ => ⟨hk, rfl, rfl⟩⟩
theorem err_eq (b : List Int) (a fa fe : Int) : field_Reader_Err.f b a fa fe = some (fa, fe, a, fa, fe) := rfl
end Go.Proofs.Ytcgpbakimkhdpaa.Q
end

section
namespace Go.Proofs.Ytcgpbakimkhdpaa.Q
set_option linter.unusedVariables false
set_option linter.unusedSimpArgs false
open Go.RowKit Go.Proofs.YtcgpbakimkhdpaaW.PrintWords Go.Proofs.YtcgpbakimkhdpaaW.PrintLast Go.Proofs.YtcgpbakimkhdpaaW.PrintMore

/-- All are bytes. -/
def BB (b : List Int) : Prop := ∀ x ∈ b, 0 ≤ x ∧ x ≤ 255
theorem rd_BB {b : List Int} (h : BB b) (i : Int) : 0 ≤ rd b i ∧ rd b i ≤ 255 := by
  unfold rd
  rw [List.getD_eq_getElem?_getD]
  cases hq : b[i.toNat]? with
  | none => simp
  | some y => exact h y (List.mem_of_getElem? hq)
theorem bt_str {b : List Int} (h : BB b) (i : Int) : bt (strOfNums b) i = rd b i := by
  have hr := rd_BB h i
  unfold bt rd at *
  have hs : (strOfNums b).size = b.length := by simp [strOfNums, ByteArray.size]
  by_cases hi : i.toNat < b.length
  · rw [dif_pos (by rw [hs]; exact hi)]
    rw [List.getD_eq_getElem?_getD, List.getElem?_eq_getElem hi] at *
    simp only [Option.getD_some] at *
    have : ((strOfNums b)[i.toNat]'(by rw [hs]; exact hi)) = UInt8.ofNat (b[i.toNat]).toNat := by
      simp [strOfNums, ByteArray.getElem_eq_getElem_data]
    rw [this, UInt8.toNat_ofNat']
    omega
  · rw [dif_neg (by rw [hs]; exact hi), List.getD_eq_getElem?_getD, List.getElem?_eq_none (by omega)]
    rfl
theorem str_ext (b : List Int) (i j : Nat) : (strOfNums b).extract i j = strOfNums ((b.take j).drop i) := by
  apply ByteArray.ext
  simp [strOfNums, List.extract, ByteArray.data_extract, List.drop_take, List.map_drop, List.map_take]
theorem vstep_eq (v c : Int) (h0 : 0 ≤ v) (h1 : v < 72057594037927936) (c0 : 0 ≤ c) (c1 : c ≤ 255) : vstep v c = 256 * v + c := by
  unfold vstep
  rw [show (v * 256) % 18446744073709551616 = v * 256 by omega, show c % 18446744073709551616 = c by omega]
  rw [bits_join .u64 64 (by decide) (fun n a b => by have e : ∀ x : Int, IntKind.u64.wrap x = x % 18446744073709551616 := fun x => by simp [IntKind.wrap, IntKind.bits, IntKind.signed]
                                                     rw [e]; omega) 8 (v * 256) c (by omega) (by omega) (by omega) c0 (by omega) (by omega)]
  omega
theorem seg8 (b : List Int) (n : Nat) (h : n + 8 ≤ b.length) : (b.take (n + 8)).drop n = [rd b n, rd b (n + 1 : Nat), rd b (n + 2 : Nat), rd b (n + 3 : Nat), rd b (n + 4 : Nat), rd b (n + 5 : Nat), rd b (n + 6 : Nat), rd b (n + 7 : Nat)] := by
  have e : ∀ m : Nat, m < b.length → b.drop m = rd b (m : Int) :: b.drop (m + 1) := fun m hm => by
    rw [List.drop_eq_getElem_cons hm]
    unfold rd
    rw [Int.toNat_natCast, List.getD_eq_getElem?_getD, List.getElem?_eq_getElem hm]
    rfl
  rw [List.drop_take, show n + 8 - n = 8 by omega, e n (by omega), e (n + 1) (by omega), e (n + 2) (by omega), e (n + 3) (by omega), e (n + 4) (by omega), e (n + 5) (by omega), e (n + 6) (by omega), e (n + 7) (by omega)]
  simp
theorem seg7 (b : List Int) (n : Nat) (h : n + 8 ≤ b.length) : (b.take (n + 8)).drop (n + 1) = [rd b (n + 1 : Nat), rd b (n + 2 : Nat), rd b (n + 3 : Nat), rd b (n + 4 : Nat), rd b (n + 5 : Nat), rd b (n + 6 : Nat), rd b (n + 7 : Nat)] := by
  rw [← List.drop_drop, seg8 b n h]
  rfl
theorem vfold8 (c0 c1 c2 c3 c4 c5 c6 c7 : Int) (h0 : 0 ≤ c0 ∧ c0 ≤ 255) (h1 : 0 ≤ c1 ∧ c1 ≤ 255) (h2 : 0 ≤ c2 ∧ c2 ≤ 255) (h3 : 0 ≤ c3 ∧ c3 ≤ 255) (h4 : 0 ≤ c4 ∧ c4 ≤ 255) (h5 : 0 ≤ c5 ∧ c5 ≤ 255) (h6 : 0 ≤ c6 ∧ c6 ≤ 255) (h7 : 0 ≤ c7 ∧ c7 ≤ 255) :
    vfold [c0, c1, c2, c3, c4, c5, c6, c7] = 256 * (256 * (256 * (256 * (256 * (256 * (256 * (256 * 0 + c0) + c1) + c2) + c3) + c4) + c5) + c6) + c7 := by
  unfold vfold
  simp only [List.foldl]
  rw [vstep_eq 0 c0 (by omega) (by omega) h0.1 h0.2, vstep_eq _ c1 (by omega) (by omega) h1.1 h1.2, vstep_eq _ c2 (by omega) (by omega) h2.1 h2.2, vstep_eq _ c3 (by omega) (by omega) h3.1 h3.2, vstep_eq _ c4 (by omega) (by omega) h4.1 h4.2, vstep_eq _ c5 (by omega) (by omega) h5.1 h5.2, vstep_eq _ c6 (by omega) (by omega) h6.1 h6.2, vstep_eq _ c7 (by omega) (by omega) h7.1 h7.2]
theorem take_step {b : List Int} (hB : BB b) (hl : b.length ≤ 100000) (n : Nat) (h : n + 8 ≤ b.length) (e o N : Int) (S : ByteArray) (Y : Bool) (k : Nat) (p : Int) (j : Nat) (j8 : j < 8) (p0 : 0 ≤ p) (p1 : 256 * p + rd b (n + j : Nat) ≤ 4611686018427387904) :
    usufructref04_Take.l0 (k + 1) p (j : Int) (strOfNums b) n e o N S Y = usufructref04_Take.l0 k (256 * p + rd b (n + j : Nat)) ((j + 1 : Nat) : Int) (strOfNums b) n e o N S Y := by
  have hr := rd_BB hB (n + j : Nat)
  have hs : ((strOfNums b).size : Int) = b.length := by simp [strOfNums, ByteArray.size]
  have e1 : wrap64 ((n : Int) + (j : Int)) = ((n + j : Nat) : Int) := by unfold wrap64; omega
  have e2 : wrap64 (256 * p) = 256 * p := by unfold wrap64; omega
  have e3 : wrap64 ((j : Int) + 1) = ((j + 1 : Nat) : Int) := by unfold wrap64; omega
  have e4 : wrap64 (rd b (n + j : Nat)) = rd b (n + j : Nat) := by unfold wrap64; omega
  have e5 : wrap64 (256 * p + rd b (n + j : Nat)) = 256 * p + rd b (n + j : Nat) := by unfold wrap64; omega
  rw [usufructref04_Take.l0, if_pos (by omega), hs, e1, if_pos (by omega), if_pos (by omega), bt_str hB, e2, e3, e4, e5]
theorem take_nums {b : List Int} (hB : BB b) (hl : b.length ≤ 100000) (n : Nat) (h : n + 8 ≤ b.length) (k : Nat) (hv : vfold ((b.take (n + 8)).drop n) ≤ 4611686018427387904) (e o N : Int) (S : ByteArray) (Y : Bool) :
    usufructref04_Take.l0 (k + 9) 0 0 (strOfNums b) n e o N S Y = some (strOfNums b, (n : Int) + 8, e, o, N, S, Y, vfold ((b.take (n + 8)).drop n)) := by
  rw [seg8 b n h] at *
  have r0 := rd_BB hB n
  have r1 := rd_BB hB (n + 1 : Nat)
  have r2 := rd_BB hB (n + 2 : Nat)
  have r3 := rd_BB hB (n + 3 : Nat)
  have r4 := rd_BB hB (n + 4 : Nat)
  have r5 := rd_BB hB (n + 5 : Nat)
  have r6 := rd_BB hB (n + 6 : Nat)
  have r7 := rd_BB hB (n + 7 : Nat)
  have s := take_step hB hl n h e o N S Y
  rw [vfold8 _ _ _ _ _ _ _ _ r0 r1 r2 r3 r4 r5 r6 r7] at *
  refine (s (k + 8) 0 0 (by omega) (by omega) (by simp only [Nat.add_zero]; omega)).trans ?_
  refine (s (k + 7) _ 1 (by omega) (by simp only [Nat.add_zero]; omega) (by simp only [Nat.add_zero]; omega)).trans ?_
  refine (s (k + 6) _ 2 (by omega) (by simp only [Nat.add_zero]; omega) (by simp only [Nat.add_zero]; omega)).trans ?_
  refine (s (k + 5) _ 3 (by omega) (by simp only [Nat.add_zero]; omega) (by simp only [Nat.add_zero]; omega)).trans ?_
  refine (s (k + 4) _ 4 (by omega) (by simp only [Nat.add_zero]; omega) (by simp only [Nat.add_zero]; omega)).trans ?_
  refine (s (k + 3) _ 5 (by omega) (by simp only [Nat.add_zero]; omega) (by simp only [Nat.add_zero]; omega)).trans ?_
  refine (s (k + 2) _ 6 (by omega) (by simp only [Nat.add_zero]; omega) (by simp only [Nat.add_zero]; omega)).trans ?_
  refine (s (k + 1) _ 7 (by omega) (by simp only [Nat.add_zero]; omega) (by simp only [Nat.add_zero]; omega)).trans ?_
  rw [usufructref04_Take.l0, if_neg (by omega), show wrap64 ((n : Int) + 8) = (n : Int) + 8 by unfold wrap64; omega]
  rfl
/-- A number, both ways. -/
theorem take_eq {b : List Int} {a fa fe : Int} (hB : BB b) (h : Rd b a fa fe) (k : Nat) (N : Int) (S : ByteArray) (Y : Bool) : ∃ r a' f' e', field_Reader_Num.f b a fa fe = some (r, a', f', e') ∧ Rd b a' f' e' ∧ usufructref04_Take.f (k + 10) (strOfNums b) a fe fa N S Y = some (strOfNums b, a', e', f', N, S, Y, r) ∧ (fe ≠ 0 → e' ≠ 0) ∧ 0 ≤ r ∧ r ≤ 4611686018427387904 := by
  obtain ⟨r, a', f', e', hn, hr, hz, q0, q1⟩ := num_step h
  refine ⟨r, a', f', e', hn, hr, ?_, fun he => by have := (hz he).2.2; omega, q0, q1⟩
  · have hl := h.len; have h0 := h.a0; have h1 := h.a1
    unfold field_Reader_Num.f at hn
    unfold usufructref04_Take.f
    rw [h.ok] at hn
    obtain ⟨n, rfl⟩ := Int.eq_ofNat_of_zero_le h0
    have hs : ((strOfNums b).size : Int) = b.length := by simp [strOfNums, ByteArray.size]
    have w1 : wrap64 ((b.length : Int) - n) = (b.length : Int) - n := by unfold wrap64; omega
    have w2 : wrap64 ((n : Int) + 1) = ((n + 1 : Nat) : Int) := by unfold wrap64; omega
    have w3 : wrap64 ((n : Int) + 8) = ((n + 8 : Nat) : Int) := by unfold wrap64; omega
    have fl : ∀ x y e, usufructref04_fail.f (strOfNums b) x y fa N S Y n e = some (strOfNums b, (n : Int), e, (n : Int), N, S, Y) := fun _ _ _ => rfl
    rw [hs, w1, w2, w3]
    rw [w1] at hn
    by_cases he : fe = 0
    · subst he
      rw [if_pos (decide_eq_true rfl)] at hn
      rw [if_pos rfl]
      by_cases hsh : (b.length : Int) - n < 8
      · rw [if_pos hsh] at hn ⊢
        simp only [Option.some.injEq, Prod.mk.injEq] at hn
        obtain ⟨rfl, rfl, rfl, rfl⟩ := hn
        first | rfl | (intro hh; omega)
      · rw [if_neg hsh] at hn ⊢
        rw [if_pos ⟨h0, by omega⟩, show ((n : Int) + 8).toNat = n + 8 by omega, Int.toNat_natCast] at hn
        rw [if_pos h0, if_pos (by omega), bt_str hB]
        have hlen : n + 8 ≤ b.length := by omega
        have r0 := rd_BB hB n
        have r1 := rd_BB hB (n + 1 : Nat)
        have r2 := rd_BB hB (n + 2 : Nat)
        have r3 := rd_BB hB (n + 3 : Nat)
        have r4 := rd_BB hB (n + 4 : Nat)
        have r5 := rd_BB hB (n + 5 : Nat)
        have r6 := rd_BB hB (n + 6 : Nat)
        have r7 := rd_BB hB (n + 7 : Nat)
        have hV := vfold8 _ _ _ _ _ _ _ _ r0 r1 r2 r3 r4 r5 r6 r7
        rw [← seg8 b n hlen] at hV
        have hT := fun k hv => take_nums hB hl n hlen k hv 0 fa N S Y
        have hx : ((strOfNums b).extract (((n + 1 : Nat) : Int)).toNat (((n + 8 : Nat) : Int)).toNat).toList = [UInt8.ofNat (rd b (n + 1 : Nat)).toNat, UInt8.ofNat (rd b (n + 2 : Nat)).toNat, UInt8.ofNat (rd b (n + 3 : Nat)).toNat, UInt8.ofNat (rd b (n + 4 : Nat)).toNat, UInt8.ofNat (rd b (n + 5 : Nat)).toNat, UInt8.ofNat (rd b (n + 6 : Nat)).toNat, UInt8.ofNat (rd b (n + 7 : Nat)).toNat] := by
          rw [Int.toNat_natCast, Int.toNat_natCast, str_ext, seg7 b n hlen, ByteArray.toList_eq]
          rfl
        rw [hx]
        clear hx w2 w3
        generalize vfold ((b.take (n + 8)).drop n) = v at *
        generalize rd b n = c0 at *
        generalize rd b (n + 1 : Nat) = c1 at *
        generalize rd b (n + 2 : Nat) = c2 at *
        generalize rd b (n + 3 : Nat) = c3 at *
        generalize rd b (n + 4 : Nat) = c4 at *
        generalize rd b (n + 5 : Nat) = c5 at *
        generalize rd b (n + 6 : Nat) = c6 at *
        generalize rd b (n + 7 : Nat) = c7 at *
        have j1 : usufructref04_Take.j0 (k + 10) true (strOfNums b) n 0 fa N S Y = some (strOfNums b, (n : Int), 4, (n : Int), N, S, Y, 0) := by
          rw [usufructref04_Take.j0, if_pos rfl]
          rfl
        have j2 : v ≤ 4611686018427387904 → usufructref04_Take.j0 (k + 10) false (strOfNums b) n 0 fa N S Y = some (strOfNums b, (n : Int) + 8, 0, fa, N, S, Y, v) := fun hv => by
          rw [usufructref04_Take.j0, if_neg (by decide)]
          exact hT k hv
        by_cases hv : v > 4611686018427387904
        · rw [if_pos hv] at hn
          simp only [Option.some.injEq, Prod.mk.injEq] at hn
          obtain ⟨rfl, rfl, rfl, rfl⟩ := hn
          first
          | (intro hh; omega)
          | (split
             · exact j1
             · split
               · rw [if_pos (by omega), if_pos (by omega), if_pos (by omega)]
                 have hne : ¬ (c1 = 0 ∧ c2 = 0 ∧ c3 = 0 ∧ c4 = 0 ∧ c5 = 0 ∧ c6 = 0 ∧ c7 = 0) := by omega
                 have z : ∀ c : Int, 0 ≤ c ∧ c ≤ 255 → UInt8.ofNat c.toNat = 0 → c = 0 := fun c hc h => by
                   have := congrArg UInt8.toNat h
                   rw [UInt8.toNat_ofNat'] at this
                   simp at this
                   omega
                 rw [show (([UInt8.ofNat c1.toNat, UInt8.ofNat c2.toNat, UInt8.ofNat c3.toNat, UInt8.ofNat c4.toNat, UInt8.ofNat c5.toNat, UInt8.ofNat c6.toNat, UInt8.ofNat c7.toNat] : List UInt8) != [0, 0, 0, 0, 0, 0, 0]) = true from by
                   rw [bne_iff_ne]
                   intro hq
                   simp only [List.cons.injEq, and_true] at hq
                   obtain ⟨q1, q2, q3, q4, q5, q6, q7⟩ := hq
                   exact hne ⟨z _ r1 q1, z _ r2 q2, z _ r3 q3, z _ r4 q4, z _ r5 q5, z _ r6 q6, z _ r7 q7⟩]
                 exact j1
               · omega)
        · rw [if_neg hv] at hn
          have w4 : wrap64 v = v := by unfold wrap64; omega
          rw [w4] at hn
          simp only [Option.some.injEq, Prod.mk.injEq] at hn
          obtain ⟨rfl, rfl, rfl, rfl⟩ := hn
          first
          | (intro hh; omega)
          | (rw [if_neg (by omega)]
             split
             · rw [if_pos (by omega), if_pos (by omega), if_pos (by omega)]
               have z1 : c1 = 0 := by omega
               have z2 : c2 = 0 := by omega
               have z3 : c3 = 0 := by omega
               have z4 : c4 = 0 := by omega
               have z5 : c5 = 0 := by omega
               have z6 : c6 = 0 := by omega
               have z7 : c7 = 0 := by omega
               subst z1 z2 z3 z4 z5 z6 z7
               exact j2 (by omega)
             · exact j2 (by omega))
    · rw [if_neg (by rw [decide_eq_false he]; decide)] at hn
      simp only [Option.some.injEq, Prod.mk.injEq] at hn
      obtain ⟨rfl, rfl, rfl, rfl⟩ := hn
      first
      | (intro hh; omega)
      | rw [if_neg he]
/-- A text, both ways. -/
theorem text_eq {b : List Int} {a fa fe : Int} (hB : BB b) (h : Rd b a fa fe) (k : Nat) (N : Int) (S : ByteArray) (Y : Bool) (m : Int) : ∃ r a' f' e', field_Reader_Text.f b a fa fe m = some (r, a', f', e') ∧ Rd b a' f' e' ∧ usufructref04_Text.f (k + 10) (strOfNums b) a fe fa N S Y m = some (strOfNums b, a', e', f', N, S, Y, r) := by
  obtain ⟨n, a1, f1, e1, hn, hr, ht, hz, n0, n1⟩ := take_eq hB h k N S Y
  unfold field_Reader_Text.f usufructref04_Text.f
  rw [hn, ht, Option.bind_some, Option.bind_some]
  dsimp only
  rw [hr.ok]
  have hl := hr.len; have h0 := hr.a0; have h1 := hr.a1
  have hs : ((strOfNums b).size : Int) = b.length := by simp [strOfNums, ByteArray.size]
  by_cases he : e1 = 0
  · rw [if_pos (decide_eq_true he), if_pos he]
    by_cases hm : n > m
    · rw [if_pos hm, if_pos hm]
      exact ⟨_, _, _, _, rfl, ⟨h.len, h.a0, h.a1, fun h => by omega⟩, rfl⟩
    · rw [if_neg hm, if_neg hm, hs]
      have e2 : wrap64 ((b.length : Int) - a1) = (b.length : Int) - a1 := by unfold wrap64; omega
      rw [e2]
      by_cases hsh : n > (b.length : Int) - a1
      · rw [if_pos hsh, if_pos hsh]
        exact ⟨_, _, _, _, rfl, ⟨h.len, h.a0, h.a1, fun h => by omega⟩, rfl⟩
      · have e3 : wrap64 (a1 + n) = a1 + n := by unfold wrap64; omega
        rw [if_neg hsh, if_neg hsh, if_pos ⟨h0, n0, by omega⟩, if_pos h0, e3, if_pos (by omega), if_pos (by omega)]
        exact ⟨_, _, _, _, rfl, ⟨hl, by omega, by omega, hr.e0⟩, by rw [str_ext]⟩
  · rw [if_neg (by rw [decide_eq_false he]; decide), if_neg he]
    exact ⟨_, _, _, _, rfl, hr, rfl⟩
/-- A flag, both ways. -/
theorem flag_eq {b : List Int} {a fa fe : Int} (hB : BB b) (h : Rd b a fa fe) (N : Int) (S : ByteArray) (Y : Bool) : ∃ r a' f' e', field_Reader_Flag.f b a fa fe = some (r, a', f', e') ∧ Rd b a' f' e' ∧ usufructref04_Flag.f (strOfNums b) a fe fa N S Y = some (strOfNums b, a', e', f', N, S, Y, r) := by
  unfold field_Reader_Flag.f usufructref04_Flag.f
  rw [okR_f, Option.bind_some]
  dsimp only
  have hl := h.len; have h0 := h.a0; have h1 := h.a1
  have hk := h.ok
  have hs : ((strOfNums b).size : Int) = b.length := by simp [strOfNums, ByteArray.size]
  by_cases he : fe = 0
  · rw [decide_eq_true he] at hk
    rw [if_pos hk, if_pos he, leftR_f, Option.bind_some]
    dsimp only
    have e1 : wrap64 ((b.length : Int) - a) = (b.length : Int) - a := by unfold wrap64; omega
    have e2 : wrap64 (a + 1) = a + 1 := by unfold wrap64; omega
    have e3 : wrap64 (a + 1 - 1) = a := by unfold wrap64; omega
    rw [e1, e2, e3, hs, bt_str hB]
    by_cases hsh : (b.length : Int) - a = 0
    · rw [if_pos hsh, if_pos (show a = (b.length : Int) by omega), fail_ok hk, Option.bind_some]
      exact ⟨_, _, _, _, rfl, ⟨hl, h0, h1, fun h => by simp at h⟩, rfl⟩
    · rw [if_neg hsh, if_neg (show ¬ a = (b.length : Int) by omega)]
      rw [if_pos h0, if_pos (show a < (b.length : Int) by omega)]
      by_cases hv : rd b a > 1
      · rw [if_pos hv, fail_ok hk, Option.bind_some]
        refine ⟨_, _, _, _, rfl, ⟨hl, h0, h1, fun h => by simp at h⟩, ?_⟩
        rw [if_pos h0, if_pos (show a < (b.length : Int) by omega), if_pos hv]
        rfl
      · rw [if_neg hv, if_pos h0, if_pos (by omega)]
        refine ⟨_, _, _, _, rfl, ⟨hl, by omega, by omega, h.e0⟩, ?_⟩
        rw [if_pos h0, if_pos (show a < (b.length : Int) by omega), if_neg hv, if_pos h0, if_pos (by omega)]
  · rw [decide_eq_false he] at hk
    rw [if_neg (by rw [hk]; decide), if_neg he]
    exact ⟨_, _, _, _, rfl, h, rfl⟩
/-- The end, both ways. -/
theorem end_eq {b : List Int} {a fa fe : Int} (h : Rd b a fa fe) (k : Nat) (N : Int) (S : ByteArray) (Y : Bool) : ∃ r a' f' e', field_Reader_End.f (k + 1) b a fa fe = some (r, a', f', e') ∧ Rd b a' f' e' ∧ usufructref04_End.f (strOfNums b) a fe fa N S Y = some (strOfNums b, a', e', f', N, S, Y) ∧ r = decide (e' = 0) := by
  unfold field_Reader_End.f usufructref04_End.f
  rw [okR_f, Option.bind_some]
  dsimp only
  have hl := h.len; have h0 := h.a0; have h1 := h.a1
  have hk := h.ok
  have hs : ((strOfNums b).size : Int) = b.length := by simp [strOfNums, ByteArray.size]
  by_cases he : fe = 0
  · rw [decide_eq_true he] at hk
    have e1 : wrap64 ((b.length : Int) - a) = (b.length : Int) - a := by unfold wrap64; omega
    rw [if_pos hk, if_pos he, leftR_f, Option.bind_some]
    dsimp only
    rw [field_Reader_End.j0, e1, hs]
    by_cases hp : a < (b.length : Int)
    · rw [if_pos (decide_eq_true (show (b.length : Int) - a > 0 by omega)), if_pos hp, fail_ok hk, Option.bind_some, okR_f, Option.bind_some]
      exact ⟨_, _, _, _, rfl, ⟨h.len, h.a0, h.a1, fun h => by simp at h⟩, rfl, by dsimp only [okR]; simp⟩
    · rw [if_neg (by rw [decide_eq_false (show ¬ (b.length : Int) - a > 0 by omega)]; decide), if_neg hp, okR_f, Option.bind_some]
      exact ⟨_, _, _, _, rfl, h, rfl, h.ok⟩
  · rw [decide_eq_false he] at hk
    rw [if_neg (by rw [hk]; decide), if_neg he, field_Reader_End.j0, if_neg (by decide), okR_f, Option.bind_some]
    exact ⟨_, _, _, _, rfl, h, rfl, h.ok⟩
end Go.Proofs.Ytcgpbakimkhdpaa.Q
end

section
namespace Go.Proofs.Ytcgpbakimkhdpaa.Q
set_option linter.unusedVariables false
set_option linter.unusedSimpArgs false
open Go.RowKit Go.Proofs.YtcgpbakimkhdpaaW.PrintWords Go.Proofs.YtcgpbakimkhdpaaW.PrintLast Go.Proofs.YtcgpbakimkhdpaaW.PrintMore

theorem strOfNums_append (xs ys : List Int) : strOfNums (xs ++ ys) = strOfNums xs ++ strOfNums ys := by
  apply ByteArray.ext
  simp [strOfNums]
theorem strOfNums_bytesOf (s : ByteArray) : strOfNums (bytesOf s) = s := by
  apply ByteArray.ext
  unfold strOfNums bytesOf
  apply Array.ext'
  simp only [List.map_map]
  conv => rhs; rw [← List.map_id s.data.toList]
  apply List.map_congr_left
  intro c _
  simp [Function.comp]
theorem strOfNums_len (xs : List Int) : (strOfNums xs).size = xs.length := by simp [strOfNums, ByteArray.size]
theorem clampN_range (n : Int) : 0 ≤ clampN n ∧ clampN n ≤ 4611686018427387904 := by
  unfold clampN mn mx
  split <;> split <;> omega
theorem nbs8 (m : Int) : nbs m 8 = [m / 256 / 256 / 256 / 256 / 256 / 256 / 256 % 256, m / 256 / 256 / 256 / 256 / 256 / 256 % 256, m / 256 / 256 / 256 / 256 / 256 % 256, m / 256 / 256 / 256 / 256 % 256, m / 256 / 256 / 256 % 256, m / 256 / 256 % 256, m / 256 % 256, m % 256] := by
  have e : ∀ x : Int, IntKind.u8.wrap x = x % 256 := IntKind.wrap_u8
  have h : nbs m 8 = [nb m 7, nb m 6, nb m 5, nb m 4, nb m 3, nb m 2, nb m 1, nb m 0] := rfl
  rw [h]
  have n7 : nb m 7 = m / 72057594037927936 % 256 := by unfold nb; rw [e]; rfl
  have n6 : nb m 6 = m / 281474976710656 % 256 := by unfold nb; rw [e]; rfl
  have n5 : nb m 5 = m / 1099511627776 % 256 := by unfold nb; rw [e]; rfl
  have n4 : nb m 4 = m / 4294967296 % 256 := by unfold nb; rw [e]; rfl
  have n3 : nb m 3 = m / 16777216 % 256 := by unfold nb; rw [e]; rfl
  have n2 : nb m 2 = m / 65536 % 256 := by unfold nb; rw [e]; rfl
  have n1 : nb m 1 = m / 256 % 256 := by unfold nb; rw [e]; rfl
  have n0 : nb m 0 = m / 1 % 256 := by unfold nb; rw [e]; rfl
  rw [n7, n6, n5, n4, n3, n2, n1, n0]
  have a7 : m / 256 / 256 / 256 / 256 / 256 / 256 / 256 = m / 72057594037927936 := by omega
  have a6 : m / 256 / 256 / 256 / 256 / 256 / 256 = m / 281474976710656 := by omega
  have a5 : m / 256 / 256 / 256 / 256 / 256 = m / 1099511627776 := by omega
  have a4 : m / 256 / 256 / 256 / 256 = m / 4294967296 := by omega
  have a3 : m / 256 / 256 / 256 = m / 16777216 := by omega
  have a2 : m / 256 / 256 = m / 65536 := by omega
  rw [a7, a6, a5, a4, a3, a2, Int.ediv_one]
theorem nbs_len (m : Int) (j : Nat) : (nbs m j).length = j := by simp [nbs]
theorem nbs_BB (m : Int) : BB (nbs m 8) := by
  rw [nbs8]
  intro x hx
  simp only [List.mem_cons, List.not_mem_nil, or_false] at hx
  rcases hx with h | h | h | h | h | h | h | h <;> subst h <;> omega
theorem vfold_nbs (m : Int) (h0 : 0 ≤ m) (h1 : m ≤ 4611686018427387904) : vfold (nbs m 8) = m := by
  rw [nbs8, vfold8 _ _ _ _ _ _ _ _ (by omega) (by omega) (by omega) (by omega) (by omega) (by omega) (by omega) (by omega)]
  omega
theorem num_round (k : Nat) (x : Int) (s : ByteArray) (j : Nat) (hj : j < 8) (hs : s.size ≤ 100) (h0 : 0 ≤ x) (h1 : x ≤ 4611686018427387904) :
    usufructref04_Num.l0 (k + 1) x s (j : Int) = usufructref04_Num.l0 k (x / 256) (strOfNums [x % 256] ++ s) ((j + 1 : Nat) : Int) := by
  rw [usufructref04_Num.l0, if_pos (by omega), Option.bind_some]
  have e1 : Int.tmod x 256 % 256 = x % 256 := by rw [Int.tmod_eq_emod_of_nonneg h0]; omega
  have e2 : Int.tdiv x 256 = x / 256 := Int.tdiv_eq_ediv_of_nonneg h0
  have e3 : wrap64 (x / 256) = x / 256 := by unfold wrap64; omega
  have e4 : wrap64 ((j : Int) + 1) = ((j + 1 : Nat) : Int) := by unfold wrap64; omega
  rw [e1, e2, e3, e4, if_pos (by rw [strOfNums_len]; simp; omega)]
theorem ref_num (k : Nat) (n : Int) : usufructref04_Num.f (k + 11) n = some (strOfNums (nbs (clampN n) 8)) := by
  have hm := clampN_range n
  have key : ∀ k m : _, 0 ≤ m → m ≤ 4611686018427387904 → usufructref04_Num.j1 (k + 10) m = some (strOfNums (nbs m 8)) := by
    intro k m h0 h1
    rw [usufructref04_Num.j1]
    have hz : (⟨#[]⟩ : ByteArray).size ≤ 100 := by decide
    have ha : ∀ (c : Int) (s : ByteArray) (q : Nat), s.size ≤ q → (strOfNums [c] ++ s).size ≤ q + 1 := fun c s q h => by
      rw [ByteArray.size_append, strOfNums_len]
      simp
      omega
    have s0 : (⟨#[]⟩ : ByteArray).size ≤ 0 := Nat.le_refl _
    have s1 := ha (m % 256) _ _ s0
    have s2 := ha (m / 256 % 256) _ _ s1
    have s3 := ha (m / 256 / 256 % 256) _ _ s2
    have s4 := ha (m / 256 / 256 / 256 % 256) _ _ s3
    have s5 := ha (m / 256 / 256 / 256 / 256 % 256) _ _ s4
    have s6 := ha (m / 256 / 256 / 256 / 256 / 256 % 256) _ _ s5
    have s7 := ha (m / 256 / 256 / 256 / 256 / 256 / 256 % 256) _ _ s6
    refine (num_round (k + 8) m _ 0 (by omega) (Nat.le_trans s0 (by omega)) (by omega) (by omega)).trans ?_
    refine (num_round (k + 7) _ _ 1 (by omega) (Nat.le_trans s1 (by omega)) (by omega) (by omega)).trans ?_
    refine (num_round (k + 6) _ _ 2 (by omega) (Nat.le_trans s2 (by omega)) (by omega) (by omega)).trans ?_
    refine (num_round (k + 5) _ _ 3 (by omega) (Nat.le_trans s3 (by omega)) (by omega) (by omega)).trans ?_
    refine (num_round (k + 4) _ _ 4 (by omega) (Nat.le_trans s4 (by omega)) (by omega) (by omega)).trans ?_
    refine (num_round (k + 3) _ _ 5 (by omega) (Nat.le_trans s5 (by omega)) (by omega) (by omega)).trans ?_
    refine (num_round (k + 2) _ _ 6 (by omega) (Nat.le_trans s6 (by omega)) (by omega) (by omega)).trans ?_
    refine (num_round (k + 1) _ _ 7 (by omega) (Nat.le_trans s7 (by omega)) (by omega) (by omega)).trans ?_
    rw [usufructref04_Num.l0, if_neg (by omega), nbs8]
    congr 1
  unfold usufructref04_Num.f
  have hj : ∀ x : Int, 0 ≤ x → usufructref04_Num.j0 (k + 11) x = some (strOfNums (nbs (if x > 4611686018427387904 then 4611686018427387904 else x) 8)) := by
    intro x hx
    rw [usufructref04_Num.j0]
    split
    · exact key k _ (by omega) (by omega)
    · exact key k _ (by omega) (by omega)
  by_cases h : n < 0
  · rw [if_pos h, hj 0 (by omega), if_neg (by omega)]
    congr 3
    unfold clampN mn mx
    rw [if_pos h]
    rfl
  · rw [if_neg h, hj n (by omega)]
    congr 3
    unfold clampN mn mx
    rw [if_neg h]
theorem seg_at (p q r : List Int) : ((p ++ q ++ r).take (p.length + q.length)).drop p.length = q := by
  rw [show p.length + q.length = (p ++ q).length by simp, List.take_left' rfl, List.drop_left' rfl]
theorem rd_at (p r : List Int) (x : Int) : rd (p ++ x :: r) (p.length : Int) = x := by
  unfold rd
  rw [Int.toNat_natCast, List.getD_eq_getElem?_getD]
  simp
/-- A number that was put is taken. -/
theorem num_back (p q : List Int) (m : Int) (h0 : 0 ≤ m) (h1 : m ≤ 4611686018427387904) (hl : (p ++ nbs m 8 ++ q).length ≤ 100000) :
    field_Reader_Num.f (p ++ nbs m 8 ++ q) (p.length : Int) 0 0 = some (m, ((p.length + 8 : Nat) : Int), 0, 0) := by
  have hlen : (p ++ nbs m 8 ++ q).length = p.length + 8 + q.length := by simp [nbs_len]; omega
  unfold field_Reader_Num.f
  rw [show okR 0 0 = true from rfl, if_pos rfl, hlen]
  have e1 : wrap64 (((p.length + 8 + q.length : Nat) : Int) - (p.length : Int)) = 8 + (q.length : Int) := by unfold wrap64; omega
  rw [e1, if_neg (by omega), if_pos (by omega)]
  have e2 : ((p.length : Int) + 8).toNat = p.length + (nbs m 8).length := by rw [nbs_len]; omega
  rw [e2, Int.toNat_natCast, seg_at, vfold_nbs m h0 h1, if_neg (by omega)]
  have e3 : wrap64 m = m := by unfold wrap64; omega
  rw [e3]
  rfl
/-- A text that was put is taken. -/
theorem text_back (p q : List Int) (s : ByteArray) (most : Int) (hs : (s.size : Int) ≤ most) (hl : (p ++ (nbs (clampN s.size) 8 ++ bytesOf s) ++ q).length ≤ 100000) :
    field_Reader_Text.f (p ++ (nbs (clampN s.size) 8 ++ bytesOf s) ++ q) (p.length : Int) 0 0 most = some (s, ((p.length + 8 + s.size : Nat) : Int), 0, 0) := by
  have hbl : (bytesOf s).length = s.size := bytesOf_length s
  have hlen : (p ++ (nbs (clampN s.size) 8 ++ bytesOf s) ++ q).length = p.length + 8 + s.size + q.length := by simp [nbs_len, hbl]; omega
  rw [hlen] at hl
  have hc : clampN s.size = s.size := by
    unfold clampN mn mx
    rw [if_neg (by omega), if_neg (by omega)]
  have e0 : p ++ (nbs (clampN s.size) 8 ++ bytesOf s) ++ q = p ++ nbs (clampN s.size) 8 ++ (bytesOf s ++ q) := by simp
  have hn := num_back p (bytesOf s ++ q) (clampN s.size) (by omega) (by omega) (by rw [← e0, hlen]; omega)
  unfold field_Reader_Text.f
  rw [e0, hn, Option.bind_some]
  dsimp only
  rw [← e0, hlen, show okR 0 0 = true from rfl, if_pos rfl, hc, if_neg (by omega)]
  have e1 : wrap64 (((p.length + 8 + s.size + q.length : Nat) : Int) - ((p.length + 8 : Nat) : Int)) = (s.size : Int) + q.length := by unfold wrap64; omega
  rw [e1, if_neg (by omega), if_pos (by omega)]
  have e2 : (((p.length + 8 : Nat) : Int) + (s.size : Int)).toNat = (p ++ nbs (s.size : Int) 8).length + (bytesOf s).length := by simp [nbs_len, hbl]; omega
  have e3 : (((p.length + 8 : Nat) : Int)).toNat = (p ++ nbs (s.size : Int) 8).length := by rw [Int.toNat_natCast]; simp [nbs_len]
  have e4 : p ++ (nbs (s.size : Int) 8 ++ bytesOf s) ++ q = (p ++ nbs (s.size : Int) 8) ++ bytesOf s ++ q := by simp
  rw [e2, e3, e4, seg_at, strOfNums_bytesOf]
  congr 2
/-- A flag that was put is taken. -/
theorem flag_back (p q : List Int) (y : Bool) (hl : (p ++ [flagB y] ++ q).length ≤ 100000) :
    field_Reader_Flag.f (p ++ [flagB y] ++ q) (p.length : Int) 0 0 = some (y, ((p.length + 1 : Nat) : Int), 0, 0) := by
  have hlen : (p ++ [flagB y] ++ q).length = p.length + 1 + q.length := by simp; omega
  rw [hlen] at hl
  unfold field_Reader_Flag.f
  rw [okR_f, Option.bind_some]
  dsimp only
  rw [show okR 0 0 = true from rfl, if_pos rfl, leftR_f, Option.bind_some]
  dsimp only
  have e1 : wrap64 (((p.length + 1 + q.length : Nat) : Int) - (p.length : Int)) = 1 + (q.length : Int) := by unfold wrap64; omega
  have e2 : wrap64 ((p.length : Int) + 1) = ((p.length + 1 : Nat) : Int) := by unfold wrap64; omega
  have e3 : wrap64 (((p.length + 1 : Nat) : Int) - 1) = (p.length : Int) := by unfold wrap64; omega
  have e4 : rd (p ++ [flagB y] ++ q) (p.length : Int) = flagB y := by
    rw [List.append_assoc]
    exact rd_at p q (flagB y)
  rw [hlen, e1, e2, e3, e4, if_neg (by omega), if_pos (by omega), if_pos (by omega), if_neg (by unfold flagB; split <;> omega), if_pos (by omega), if_pos (by omega)]
  cases y <;> rfl
theorem end_back (p : List Int) (k : Nat) (hl : p.length ≤ 100000) : field_Reader_End.f (k + 1) p (p.length : Int) 0 0 = some (true, (p.length : Int), 0, 0) := by
  unfold field_Reader_End.f
  rw [okR_f, Option.bind_some]
  dsimp only
  rw [show okR 0 0 = true from rfl, if_pos rfl, leftR_f, Option.bind_some]
  dsimp only
  rw [show wrap64 ((p.length : Int) - (p.length : Int)) = 0 by unfold wrap64; omega, field_Reader_End.j0, if_neg (by simp), okR_f, Option.bind_some]
  rfl
theorem BB_append {p q : List Int} (hp : BB p) (hq : BB q) : BB (p ++ q) := by
  intro x hx
  rcases List.mem_append.1 hx with h | h
  · exact hp x h
  · exact hq x h
theorem bytesOf_BB (s : ByteArray) : BB (bytesOf s) := by
  intro x hx
  unfold bytesOf at hx
  rcases List.mem_map.1 hx with ⟨c, _, rfl⟩
  have := c.toNat_lt
  omega
end Go.Proofs.Ytcgpbakimkhdpaa.Q
end

section
namespace Go.Proofs.Ytcgpbakimkhdpaa.Q
set_option linter.unusedVariables false
set_option linter.unusedSimpArgs false
open Go.RowKit Go.Proofs.YtcgpbakimkhdpaaW.PrintWords Go.Proofs.YtcgpbakimkhdpaaW.PrintLast Go.Proofs.YtcgpbakimkhdpaaW.PrintMore

/-- What a reader has gone over, where there was no error. -/
structure Over (b : List Int) (a fa fe : Int) (s : List Int) : Prop where
  rd : Rd b a fa fe
  sofar : fe = 0 → b.take a.toNat = s
theorem nbs_vfold8 (c0 c1 c2 c3 c4 c5 c6 c7 : Int) (h0 : 0 ≤ c0 ∧ c0 ≤ 255) (h1 : 0 ≤ c1 ∧ c1 ≤ 255) (h2 : 0 ≤ c2 ∧ c2 ≤ 255) (h3 : 0 ≤ c3 ∧ c3 ≤ 255) (h4 : 0 ≤ c4 ∧ c4 ≤ 255) (h5 : 0 ≤ c5 ∧ c5 ≤ 255) (h6 : 0 ≤ c6 ∧ c6 ≤ 255) (h7 : 0 ≤ c7 ∧ c7 ≤ 255) :
    nbs (vfold [c0, c1, c2, c3, c4, c5, c6, c7]) 8 = [c0, c1, c2, c3, c4, c5, c6, c7] := by
  rw [vfold8 _ _ _ _ _ _ _ _ h0 h1 h2 h3 h4 h5 h6 h7, nbs8]
  have d : ∀ x c : Int, 0 ≤ c → c ≤ 255 → (256 * x + c) / 256 = x := fun x c a b => by omega
  have m : ∀ x c : Int, 0 ≤ c → c ≤ 255 → (256 * x + c) % 256 = c := fun x c a b => by omega
  rw [d _ c7 h7.1 h7.2, d _ c6 h6.1 h6.2, d _ c5 h5.1 h5.2, d _ c4 h4.1 h4.2, d _ c3 h3.1 h3.2, d _ c2 h2.1 h2.2, d _ c1 h1.1 h1.2]
  rw [m _ c7 h7.1 h7.2, m _ c6 h6.1 h6.2, m _ c5 h5.1 h5.2, m _ c4 h4.1 h4.2, m _ c3 h3.1 h3.2, m _ c2 h2.1 h2.2, m _ c1 h1.1 h1.2, m _ c0 h0.1 h0.2]
theorem clampN_id {r : Int} (h0 : 0 ≤ r) (h1 : r ≤ 4611686018427387904) : clampN r = r := by
  unfold clampN mn mx
  rw [if_neg (by omega), if_neg (by omega)]
theorem num_over {b : List Int} {a fa fe : Int} {s : List Int} (hB : BB b) (h : Over b a fa fe s) (k : Nat) (N : Int) (S : ByteArray) (Y : Bool) : ∃ r a' f' e', field_Reader_Num.f b a fa fe = some (r, a', f', e') ∧ usufructref04_TakeN.f (k + 10) (strOfNums b) a fe fa N S Y = some (strOfNums b, a', e', f', r, S, Y) ∧ Over b a' f' e' (s ++ nbs (clampN r) 8) ∧ 0 ≤ r ∧ r ≤ 4611686018427387904 ∧ (fe ≠ 0 → e' ≠ 0) := by
  obtain ⟨r, a', f', e', hn, hr, ht, hz, q0, q1⟩ := take_eq hB h.rd k N S Y
  refine ⟨r, a', f', e', hn, by unfold usufructref04_TakeN.f; rw [ht]; rfl, ⟨hr, fun he => ?_⟩, q0, q1, hz⟩
  have hfe : fe = 0 := by
    by_cases hf : fe = 0
    · exact hf
    · exact absurd he (hz hf)
  have hl := h.rd.len; have h0 := h.rd.a0; have h1 := h.rd.a1
  rw [clampN_id q0 q1, ← h.sofar hfe]
  unfold field_Reader_Num.f at hn
  rw [h.rd.ok, if_pos (decide_eq_true hfe)] at hn
  obtain ⟨n, rfl⟩ := Int.eq_ofNat_of_zero_le h0
  have w1 : wrap64 ((b.length : Int) - n) = (b.length : Int) - n := by unfold wrap64; omega
  rw [w1] at hn
  by_cases hsh : (b.length : Int) - n < 8
  · rw [if_pos hsh] at hn
    simp only [Option.some.injEq, Prod.mk.injEq] at hn
    omega
  · rw [if_neg hsh, if_pos ⟨h0, by omega⟩, show ((n : Int) + 8).toNat = n + 8 by omega, Int.toNat_natCast] at hn
    have hlen : n + 8 ≤ b.length := by omega
    have hs := seg8 b n hlen
    have hv := nbs_vfold8 _ _ _ _ _ _ _ _ (rd_BB hB n) (rd_BB hB (n + 1 : Nat)) (rd_BB hB (n + 2 : Nat)) (rd_BB hB (n + 3 : Nat)) (rd_BB hB (n + 4 : Nat)) (rd_BB hB (n + 5 : Nat)) (rd_BB hB (n + 6 : Nat)) (rd_BB hB (n + 7 : Nat))
    rw [← hs] at hv
    have hv0 := vfold_lo ((b.take (n + 8)).drop n)
    by_cases hv1 : vfold ((b.take (n + 8)).drop n) > 4611686018427387904
    · rw [if_pos hv1] at hn
      simp only [Option.some.injEq, Prod.mk.injEq] at hn
      omega
    · rw [if_neg hv1] at hn
      simp only [Option.some.injEq, Prod.mk.injEq] at hn
      obtain ⟨hr1, ha, _, _⟩ := hn
      have e2 : wrap64 (vfold ((b.take (n + 8)).drop n)) = vfold ((b.take (n + 8)).drop n) := by unfold wrap64; omega
      rw [e2] at hr1
      rw [← ha, ← hr1, hv, show ((n : Int) + 8).toNat = n + 8 by omega, Int.toNat_natCast]
      have := List.take_append_drop n (b.take (n + 8))
      rw [List.take_take, show min n (n + 8) = n by omega] at this
      exact this.symm
theorem bytesOf_strOfNums {l : List Int} (h : BB l) : bytesOf (strOfNums l) = l := by
  unfold bytesOf strOfNums
  simp only [List.map_map]
  conv => rhs; rw [← List.map_id l]
  apply List.map_congr_left
  intro c hc
  have := h c hc
  simp only [Function.comp, UInt8.toNat_ofNat', id]
  omega
theorem text_over {b : List Int} {a fa fe : Int} {s : List Int} (hB : BB b) (h : Over b a fa fe s) (k : Nat) (N : Int) (S : ByteArray) (Y : Bool) (m : Int) (hm : m ≤ 100000) : ∃ r a' f' e', field_Reader_Text.f b a fa fe m = some (r, a', f', e') ∧ usufructref04_TextS.f (k + 10) (strOfNums b) a fe fa N S Y m = some (strOfNums b, a', e', f', N, r, Y) ∧ Over b a' f' e' (s ++ nbs (clampN r.size) 8 ++ bytesOf r) ∧ r.size ≤ 100000 ∧ (fe ≠ 0 → e' ≠ 0) := by
  obtain ⟨n, a1, f1, e1, hn, _, ho, n0, n1, hz⟩ := num_over hB h k N S Y
  obtain ⟨r, a', f', e', ht, hr, hx⟩ := text_eq hB h.rd k N S Y m
  have hr1 := ho.rd
  have hl := hr1.len; have h0 := hr1.a0; have h1 := hr1.a1
  have ht' := ht
  unfold field_Reader_Text.f at ht'
  rw [hn, Option.bind_some] at ht'
  dsimp only at ht'
  rw [hr1.ok] at ht'
  have hsz : (⟨#[]⟩ : ByteArray).size ≤ 100000 := by decide
  have key : r.size ≤ 100000 ∧ (fe ≠ 0 → e' ≠ 0) ∧ (e' = 0 → b.take a'.toNat = s ++ nbs (clampN r.size) 8 ++ bytesOf r) := by
    by_cases he : e1 = 0
    · rw [if_pos (decide_eq_true he)] at ht'
      have hfe : fe = 0 := by
        by_cases hf : fe = 0
        · exact hf
        · exact absurd he (hz hf)
      by_cases hq : n > m
      · rw [if_pos hq] at ht'
        simp only [Option.some.injEq, Prod.mk.injEq] at ht'
        obtain ⟨rfl, _, _, rfl⟩ := ht'
        exact ⟨hsz, fun _ => by omega, fun he => absurd he (by omega)⟩
      · rw [if_neg hq] at ht'
        have e2 : wrap64 ((b.length : Int) - a1) = (b.length : Int) - a1 := by unfold wrap64; omega
        rw [e2] at ht'
        by_cases hsh : n > (b.length : Int) - a1
        · rw [if_pos hsh] at ht'
          simp only [Option.some.injEq, Prod.mk.injEq] at ht'
          obtain ⟨rfl, _, _, rfl⟩ := ht'
          exact ⟨hsz, fun _ => by omega, fun he => absurd he (by omega)⟩
        · rw [if_neg hsh, if_pos ⟨h0, n0, by omega⟩] at ht'
          simp only [Option.some.injEq, Prod.mk.injEq] at ht'
          obtain ⟨rfl, rfl, _, rfl⟩ := ht'
          obtain ⟨p, rfl⟩ := Int.eq_ofNat_of_zero_le h0
          obtain ⟨q, rfl⟩ := Int.eq_ofNat_of_zero_le n0
          have e3 : ((p : Int) + (q : Int)).toNat = p + q := by omega
          rw [e3, Int.toNat_natCast, strOfNums_len]
          have e4 : ((b.take (p + q)).drop p).length = q := by rw [List.length_drop, List.length_take]; omega
          have hBs : BB ((b.take (p + q)).drop p) := fun x hx => hB x (List.mem_of_mem_take (List.mem_of_mem_drop hx))
          rw [e4, bytesOf_strOfNums hBs, ← ho.sofar he, Int.toNat_natCast]
          refine ⟨by omega, fun hf => absurd hfe hf, fun _ => ?_⟩
          have := List.take_append_drop p (b.take (p + q))
          rw [List.take_take, show min p (p + q) = p by omega] at this
          exact this.symm
    · rw [if_neg (by rw [decide_eq_false he]; decide)] at ht'
      simp only [Option.some.injEq, Prod.mk.injEq] at ht'
      obtain ⟨rfl, _, _, rfl⟩ := ht'
      exact ⟨hsz, fun _ => he, fun h => absurd h he⟩
  exact ⟨r, a', f', e', ht, by unfold usufructref04_TextS.f; rw [hx]; rfl, ⟨hr, key.2.2⟩, key.1, key.2.1⟩
theorem flag_over {b : List Int} {a fa fe : Int} {s : List Int} (hB : BB b) (h : Over b a fa fe s) (N : Int) (S : ByteArray) (Y : Bool) : ∃ r a' f' e', field_Reader_Flag.f b a fa fe = some (r, a', f', e') ∧ usufructref04_FlagY.f (strOfNums b) a fe fa N S Y = some (strOfNums b, a', e', f', N, S, r) ∧ Over b a' f' e' (s ++ [flagB r]) ∧ (fe ≠ 0 → e' ≠ 0) := by
  obtain ⟨r, a', f', e', hn, hr, hx⟩ := flag_eq hB h.rd N S Y
  have hl := h.rd.len; have h0 := h.rd.a0; have h1 := h.rd.a1
  have hk := h.rd.ok
  have hn' := hn
  unfold field_Reader_Flag.f at hn'
  rw [okR_f, Option.bind_some] at hn'
  dsimp only at hn'
  have key : (fe ≠ 0 → e' ≠ 0) ∧ (e' = 0 → b.take a'.toNat = s ++ [flagB r]) := by
    by_cases he : fe = 0
    · rw [decide_eq_true he] at hk
      rw [if_pos hk, leftR_f, Option.bind_some] at hn'
      dsimp only at hn'
      have e1 : wrap64 ((b.length : Int) - a) = (b.length : Int) - a := by unfold wrap64; omega
      have e2 : wrap64 (a + 1) = a + 1 := by unfold wrap64; omega
      have e3 : wrap64 (a + 1 - 1) = a := by unfold wrap64; omega
      rw [e1, e2, e3] at hn'
      refine ⟨fun hf => absurd he hf, fun he' => ?_⟩
      by_cases hsh : (b.length : Int) - a = 0
      · rw [if_pos hsh, fail_ok hk, Option.bind_some] at hn'
        simp only [Option.some.injEq, Prod.mk.injEq] at hn'
        omega
      · rw [if_neg hsh, if_pos h0, if_pos (by omega)] at hn'
        by_cases hv : rd b a > 1
        · rw [if_pos hv, fail_ok hk, Option.bind_some] at hn'
          simp only [Option.some.injEq, Prod.mk.injEq] at hn'
          omega
        · rw [if_neg hv, if_pos h0, if_pos (by omega)] at hn'
          simp only [Option.some.injEq, Prod.mk.injEq] at hn'
          obtain ⟨hr1, ha, _, _⟩ := hn'
          obtain ⟨p, rfl⟩ := Int.eq_ofNat_of_zero_le h0
          have hp : p < b.length := by omega
          have hc := rd_BB hB (p : Int)
          have hrd : rd b (p : Int) = b[p] := by
            unfold rd
            rw [Int.toNat_natCast, List.getD_eq_getElem?_getD, List.getElem?_eq_getElem hp]
            rfl
          have hf : flagB r = b[p] := by
            rw [← hr1, ← hrd]
            unfold flagB
            have : rd b (p : Int) = 0 ∨ rd b (p : Int) = 1 := by omega
            rcases this with h | h <;> rw [h] <;> rfl
          rw [← ha, hf, ← h.sofar he, show ((p : Int) + 1).toNat = p + 1 by omega, Int.toNat_natCast]
          exact List.take_succ_eq_append_getElem hp
    · rw [decide_eq_false he] at hk
      rw [if_neg (by rw [hk]; decide)] at hn'
      simp only [Option.some.injEq, Prod.mk.injEq] at hn'
      obtain ⟨_, _, _, rfl⟩ := hn'
      exact ⟨fun _ => he, fun h => absurd h he⟩
  exact ⟨r, a', f', e', hn, by unfold usufructref04_FlagY.f; rw [hx]; rfl, ⟨hr, key.2⟩, key.1⟩
theorem end_over {b : List Int} {a fa fe : Int} {s : List Int} (h : Over b a fa fe s) (k : Nat) (N : Int) (S : ByteArray) (Y : Bool) : ∃ r a' f' e', field_Reader_End.f (k + 1) b a fa fe = some (r, a', f', e') ∧ usufructref04_End.f (strOfNums b) a fe fa N S Y = some (strOfNums b, a', e', f', N, S, Y) ∧ r = decide (e' = 0) ∧ (e' = 0 → b = s) ∧ (fe ≠ 0 → e' ≠ 0) := by
  obtain ⟨r, a', f', e', hn, hr, hx, hd⟩ := end_eq h.rd k N S Y
  have hl := h.rd.len; have h0 := h.rd.a0; have h1 := h.rd.a1
  have hs : ((strOfNums b).size : Int) = b.length := by simp [strOfNums, ByteArray.size]
  have hx' := hx
  unfold usufructref04_End.f at hx'
  rw [hs] at hx'
  refine ⟨r, a', f', e', hn, hx, hd, fun he => ?_, fun hf => ?_⟩
  · by_cases hfe : fe = 0
    · rw [if_pos hfe] at hx'
      by_cases hp : a < (b.length : Int)
      · rw [if_pos hp] at hx'
        unfold usufructref04_fail.f at hx'
        simp only [Option.bind_some, Option.some.injEq, Prod.mk.injEq] at hx'
        omega
      · have := h.sofar hfe
        rw [List.take_of_length_le (by omega)] at this
        exact this
    · rw [if_neg hfe] at hx'
      simp only [Option.some.injEq, Prod.mk.injEq] at hx'
      omega
  · rw [if_neg hf] at hx'
    simp only [Option.some.injEq, Prod.mk.injEq] at hx'
    omega
end Go.Proofs.Ytcgpbakimkhdpaa.Q
end

section
namespace Go.Proofs.Ytcgpbakimkhdpaa.Q
set_option linter.unusedVariables false
set_option linter.unusedSimpArgs false
open Go.RowKit Go.Proofs.YtcgpbakimkhdpaaW.PrintWords Go.Proofs.YtcgpbakimkhdpaaW.PrintLast Go.Proofs.YtcgpbakimkhdpaaW.PrintMore

theorem ref_flag (y : Bool) : usufructref15_flag.f y = some (strOfNums [flagB y]) := by cases y <;> rfl
theorem ref_text (k : Nat) (s : ByteArray) (hs : s.size ≤ 100000) : usufructref15_text.f (k + 11) s = some (strOfNums (nbs (clampN s.size) 8 ++ bytesOf s)) := by
  unfold usufructref15_text.f
  rw [ref_num, Option.bind_some, if_pos (by rw [strOfNums_len, nbs_len]; omega), strOfNums_append, strOfNums_bytesOf]
theorem sagaB_len (i : Int) (d : ByteArray) (st ph sp tr : Int) (o : Bool) (a s : Int) : (sagaB i d st ph sp tr o a s).length = 65 + d.size := by
  simp [sagaB, nbs_len, encN_len, bytesOf_length]
  omega
theorem ref_saga (k : Nat) (i : Int) (d : ByteArray) (st ph sp tr : Int) (o : Bool) (a s : Int) (hd : d.size ≤ 100000) : usufructref15_Saga.f (k + 11) i d st ph sp tr o a s = some (strOfNums (sagaB i d st ph sp tr o a s)) := by
  unfold usufructref15_Saga.f
  have hz : ∀ m, (strOfNums (nbs m 8)).size = 8 := fun m => by rw [strOfNums_len, nbs_len]
  have ht : (strOfNums (nbs (clampN d.size) 8 ++ bytesOf d)).size = 8 + d.size := by rw [strOfNums_len, List.length_append, nbs_len, bytesOf_length]
  have hf : (strOfNums [flagB o]).size = 1 := by rw [strOfNums_len]; rfl
  have l : ∀ x y : ByteArray, ∀ p q : Nat, x.size = p → y.size = q → p + q ≤ 9223372036854775807 → x.size + y.size ≤ 9223372036854775807 := fun x y p q h1 h2 h3 => by rw [h1, h2]; exact h3
  have ap : ∀ x y : ByteArray, ∀ p q : Nat, x.size = p → y.size = q → (x ++ y).size = p + q := fun x y p q h1 h2 => by rw [ByteArray.size_append, h1, h2]
  rw [ref_num, Option.bind_some, ref_text k d hd, Option.bind_some]
  have z1 := ap _ _ _ _ (hz (clampN i)) ht
  rw [if_pos (l _ _ _ _ (hz _) ht (by omega)), ref_num, Option.bind_some]
  have z2 := ap _ _ _ _ z1 (hz (clampN st))
  rw [if_pos (l _ _ _ _ z1 (hz _) (by omega)), ref_num, Option.bind_some]
  have z3 := ap _ _ _ _ z2 (hz (clampN ph))
  rw [if_pos (l _ _ _ _ z2 (hz _) (by omega)), ref_num, Option.bind_some]
  have z4 := ap _ _ _ _ z3 (hz (clampN sp))
  rw [if_pos (l _ _ _ _ z3 (hz _) (by omega)), ref_num, Option.bind_some]
  have z5 := ap _ _ _ _ z4 (hz (clampN tr))
  rw [if_pos (l _ _ _ _ z4 (hz _) (by omega)), ref_flag, Option.bind_some]
  have z6 := ap _ _ _ _ z5 hf
  rw [if_pos (l _ _ _ _ z5 hf (by omega)), ref_num, Option.bind_some]
  have z7 := ap _ _ _ _ z6 (hz (clampN a))
  rw [if_pos (l _ _ _ _ z6 (hz _) (by omega)), ref_num, Option.bind_some, if_pos (l _ _ _ _ z7 (hz _) (by omega))]
  congr 1
  simp only [sagaB, encN, List.flatMap_cons, List.flatMap_nil, strOfNums_append, List.nil_append, List.append_nil, List.append_assoc, ByteArray.append_assoc]
  try rfl

/-- Whatever bytes: both take alike; where there is no error what was taken is put as these bytes. -/
theorem take_saga {b : List Int} (hB : BB b) (hl : b.length ≤ 100000) (k : Nat) : ∃ i d st ph sp tr o a s at_ e, code_TakeSaga.f b = some (i, d, st, ph, sp, tr, o, a, s, at_, e) ∧ usufructref15_ReadSaga.f (k + 10) (strOfNums b) = some (i, d, st, ph, sp, tr, o, a, s, at_, e) ∧
    (e = 0 → b = sagaB i d st ph sp tr o a s ∧ d.size ≤ 100000 ∧ (0 ≤ i ∧ i ≤ 4611686018427387904) ∧ (0 ≤ st ∧ st ≤ 4611686018427387904) ∧ (0 ≤ ph ∧ ph ≤ 4611686018427387904) ∧ (0 ≤ sp ∧ sp ≤ 4611686018427387904) ∧ (0 ≤ tr ∧ tr ≤ 4611686018427387904) ∧ (0 ≤ a ∧ a ≤ 4611686018427387904) ∧ (0 ≤ s ∧ s ≤ 4611686018427387904)) := by
  have h0 : Over b 0 0 0 [] := ⟨⟨hl, by omega, by omega, fun _ => rfl⟩, fun _ => rfl⟩
  obtain ⟨x1, a1, f1, e1, n1, t1, o1, p1, q1, _⟩ := num_over hB h0 k 0 (⟨#[]⟩ : ByteArray) false
  obtain ⟨x2, a2, f2, e2, n2, t2, o2, p2, _⟩ := text_over hB o1 k x1 (⟨#[]⟩ : ByteArray) false 256 (by omega)
  obtain ⟨x3, a3, f3, e3, n3, t3, o3, p3, q3, _⟩ := num_over hB o2 k x1 x2 false
  obtain ⟨x4, a4, f4, e4, n4, t4, o4, p4, q4, _⟩ := num_over hB o3 k x3 x2 false
  obtain ⟨x5, a5, f5, e5, n5, t5, o5, p5, q5, _⟩ := num_over hB o4 k x4 x2 false
  obtain ⟨x6, a6, f6, e6, n6, t6, o6, p6, q6, _⟩ := num_over hB o5 k x5 x2 false
  obtain ⟨x7, a7, f7, e7, n7, t7, o7, _⟩ := flag_over hB o6 x6 x2 false
  obtain ⟨x8, a8, f8, e8, n8, t8, o8, p8, q8, _⟩ := num_over hB o7 k x6 x2 x7
  obtain ⟨x9, a9, f9, e9, n9, t9, o9, p9, q9, _⟩ := num_over hB o8 k x8 x2 x7
  obtain ⟨x10, a10, f10, e10, n10, t10, d10, o10, _⟩ := end_over o9 0 x9 x2 x7
  unfold code_TakeSaga.f usufructref15_ReadSaga.f
  rw [if_pos (by omega), n1, Option.bind_some]
  dsimp only
  rw [n2, Option.bind_some]
  dsimp only
  rw [n3, Option.bind_some]
  dsimp only
  rw [n4, Option.bind_some]
  dsimp only
  rw [n5, Option.bind_some]
  dsimp only
  rw [n6, Option.bind_some]
  dsimp only
  rw [n7, Option.bind_some]
  dsimp only
  rw [n8, Option.bind_some]
  dsimp only
  rw [n9, Option.bind_some]
  dsimp only
  rw [n10, Option.bind_some]
  dsimp only
  rw [t1, Option.bind_some]
  dsimp only
  rw [t2, Option.bind_some]
  dsimp only
  rw [t3, Option.bind_some]
  dsimp only
  rw [t4, Option.bind_some]
  dsimp only
  rw [t5, Option.bind_some]
  dsimp only
  rw [t6, Option.bind_some]
  dsimp only
  rw [t7, Option.bind_some]
  dsimp only
  rw [t8, Option.bind_some]
  dsimp only
  rw [t9, Option.bind_some]
  dsimp only
  rw [t10, Option.bind_some]
  dsimp only
  rw [d10]
  by_cases he : e10 = 0
  · rw [if_pos (decide_eq_true he), if_pos he]
    refine ⟨_, _, _, _, _, _, _, _, _, _, _, rfl, rfl, fun _ => ⟨?_, p2, ⟨p1, q1⟩, ⟨p3, q3⟩, ⟨p4, q4⟩, ⟨p5, q5⟩, ⟨p6, q6⟩, ⟨p8, q8⟩, ⟨p9, q9⟩⟩⟩
    rw [o10 he]
    simp [sagaB, encN, List.append_assoc]
  · rw [if_neg (by rw [decide_eq_false he]; decide), if_neg he]
    exact ⟨_, _, _, _, _, _, _, _, _, _, _, rfl, rfl, fun h => absurd h he⟩
theorem num_back' {b : List Int} (p q : List Int) (m : Int) (h0 : 0 ≤ m) (h1 : m ≤ 4611686018427387904) (hb : b = p ++ nbs m 8 ++ q) (hl : b.length ≤ 100000) (a : Nat) (ha : p.length = a) : field_Reader_Num.f b (a : Int) 0 0 = some (m, ((a + 8 : Nat) : Int), 0, 0) := by
  subst ha
  rw [hb]
  exact num_back p q m h0 h1 (by rw [← hb]; exact hl)
/-- What was put is taken. -/
theorem saga_back (i : Int) (d : ByteArray) (st ph sp tr : Int) (o : Bool) (a s : Int) (hd : d.size ≤ 256) :
    code_TakeSaga.f (sagaB i d st ph sp tr o a s) = some (clampN i, d, clampN st, clampN ph, clampN sp, clampN tr, o, clampN a, clampN s, 0, 0) := by
  have hlen := sagaB_len i d st ph sp tr o a s
  have hl : (sagaB i d st ph sp tr o a s).length ≤ 100000 := by rw [hlen]; omega
  have hbl : (bytesOf d).length = d.size := bytesOf_length d
  have e : ∀ x : Int, (encN [x] : List Int) = nbs (clampN x) 8 := fun x => by simp [encN]
  have A := nbs (clampN i) 8
  have n1 := num_back' (b := sagaB i d st ph sp tr o a s) [] (nbs (clampN d.size) 8 ++ bytesOf d ++ encN [st, ph, sp, tr] ++ [flagB o] ++ encN [a, s]) (clampN i) (clampN_range i).1 (clampN_range i).2 (by simp [sagaB, List.append_assoc]) hl 0 rfl
  have n2 : field_Reader_Text.f (sagaB i d st ph sp tr o a s) ((8 : Nat) : Int) 0 0 256 = some (d, ((8 + 8 + d.size : Nat) : Int), 0, 0) := by
    have hb : sagaB i d st ph sp tr o a s = nbs (clampN i) 8 ++ (nbs (clampN d.size) 8 ++ bytesOf d) ++ (encN [st, ph, sp, tr] ++ [flagB o] ++ encN [a, s]) := by simp [sagaB, List.append_assoc]
    have := text_back (nbs (clampN i) 8) (encN [st, ph, sp, tr] ++ [flagB o] ++ encN [a, s]) d 256 (by omega) (by rw [← hb]; exact hl)
    rw [← hb, nbs_len] at this
    exact this
  have n3 := num_back' (b := sagaB i d st ph sp tr o a s) (nbs (clampN i) 8 ++ nbs (clampN d.size) 8 ++ bytesOf d) (encN [ph, sp, tr] ++ [flagB o] ++ encN [a, s]) (clampN st) (clampN_range _).1 (clampN_range _).2 (by simp [sagaB, encN, List.append_assoc]) hl (8 + 8 + d.size) (by simp [nbs_len, hbl]; omega)
  have n4 := num_back' (b := sagaB i d st ph sp tr o a s) (nbs (clampN i) 8 ++ nbs (clampN d.size) 8 ++ bytesOf d ++ encN [st]) (encN [sp, tr] ++ [flagB o] ++ encN [a, s]) (clampN ph) (clampN_range _).1 (clampN_range _).2 (by simp [sagaB, encN, List.append_assoc]) hl (8 + 8 + d.size + 8) (by simp [nbs_len, hbl, encN_len]; omega)
  have n5 := num_back' (b := sagaB i d st ph sp tr o a s) (nbs (clampN i) 8 ++ nbs (clampN d.size) 8 ++ bytesOf d ++ encN [st, ph]) (encN [tr] ++ [flagB o] ++ encN [a, s]) (clampN sp) (clampN_range _).1 (clampN_range _).2 (by simp [sagaB, encN, List.append_assoc]) hl (8 + 8 + d.size + 8 + 8) (by simp [nbs_len, hbl, encN_len]; omega)
  have n6 := num_back' (b := sagaB i d st ph sp tr o a s) (nbs (clampN i) 8 ++ nbs (clampN d.size) 8 ++ bytesOf d ++ encN [st, ph, sp]) ([flagB o] ++ encN [a, s]) (clampN tr) (clampN_range _).1 (clampN_range _).2 (by simp [sagaB, encN, List.append_assoc]) hl (8 + 8 + d.size + 8 + 8 + 8) (by simp [nbs_len, hbl, encN_len]; omega)
  have n7 : field_Reader_Flag.f (sagaB i d st ph sp tr o a s) ((8 + 8 + d.size + 8 + 8 + 8 + 8 : Nat) : Int) 0 0 = some (o, ((8 + 8 + d.size + 8 + 8 + 8 + 8 + 1 : Nat) : Int), 0, 0) := by
    have hb : sagaB i d st ph sp tr o a s = (nbs (clampN i) 8 ++ nbs (clampN d.size) 8 ++ bytesOf d ++ encN [st, ph, sp, tr]) ++ [flagB o] ++ encN [a, s] := by simp [sagaB, List.append_assoc]
    have hp : (nbs (clampN i) 8 ++ nbs (clampN d.size) 8 ++ bytesOf d ++ encN [st, ph, sp, tr]).length = 8 + 8 + d.size + 8 + 8 + 8 + 8 := by simp [nbs_len, hbl, encN_len]; omega
    have := flag_back (nbs (clampN i) 8 ++ nbs (clampN d.size) 8 ++ bytesOf d ++ encN [st, ph, sp, tr]) (encN [a, s]) o (by rw [← hb]; exact hl)
    rw [← hb, hp] at this
    exact this
  have n8 := num_back' (b := sagaB i d st ph sp tr o a s) (nbs (clampN i) 8 ++ nbs (clampN d.size) 8 ++ bytesOf d ++ encN [st, ph, sp, tr] ++ [flagB o]) (encN [s]) (clampN a) (clampN_range _).1 (clampN_range _).2 (by simp [sagaB, encN, List.append_assoc]) hl (8 + 8 + d.size + 8 + 8 + 8 + 8 + 1) (by simp [nbs_len, hbl, encN_len]; omega)
  have n9 := num_back' (b := sagaB i d st ph sp tr o a s) (nbs (clampN i) 8 ++ nbs (clampN d.size) 8 ++ bytesOf d ++ encN [st, ph, sp, tr] ++ [flagB o] ++ encN [a]) [] (clampN s) (clampN_range _).1 (clampN_range _).2 (by simp [sagaB, encN, List.append_assoc]) hl (8 + 8 + d.size + 8 + 8 + 8 + 8 + 1 + 8) (by simp [nbs_len, hbl, encN_len]; omega)
  have n10 := end_back (sagaB i d st ph sp tr o a s) 0 hl
  rw [hlen, show (65 + d.size : Nat) = 8 + 8 + d.size + 8 + 8 + 8 + 8 + 1 + 8 + 8 by omega] at n10
  unfold code_TakeSaga.f
  rw [if_pos (by omega)]
  rw [show (0 : Int) = ((0 : Nat) : Int) from rfl] at n1
  rw [show field_Reader_Num.f (sagaB i d st ph sp tr o a s) 0 0 0 = some (clampN i, ((8 : Nat) : Int), 0, 0) from n1, Option.bind_some]
  dsimp only
  rw [n2, Option.bind_some]
  dsimp only
  rw [n3, Option.bind_some]
  dsimp only
  rw [n4, Option.bind_some]
  dsimp only
  rw [n5, Option.bind_some]
  dsimp only
  rw [n6, Option.bind_some]
  dsimp only
  rw [n7, Option.bind_some]
  dsimp only
  rw [n8, Option.bind_some]
  dsimp only
  rw [n9, Option.bind_some]
  dsimp only
  rw [n10, Option.bind_some, if_pos rfl]
end Go.Proofs.Ytcgpbakimkhdpaa.Q
end

section
namespace Go.Proofs.Ytcgpbakimkhdpaa.Walk
set_option linter.unusedVariables false
set_option linter.unusedSimpArgs false
open Go.RowKit Go.Proofs.Ytcgpbakimkhdpaa.Q Go.Proofs.YtcgpbakimkhdpaaW.PrintWords Go.Proofs.YtcgpbakimkhdpaaW.PrintLast Go.Proofs.YtcgpbakimkhdpaaW.PrintMore Go.Proofs.Ytcgpbakimkhdpaa.Opn

theorem awake15 : usufructlaw15_awake.f 100 = some true := by
  unfold usufructlaw15_awake.f code_PutSaga.f
  rw [if_pos (by refine ⟨⟨?_, ?_, ?_, ?_, ?_, ?_, ?_⟩, ?_⟩ <;> decide), Option.bind_some]
  have e : sagaB 0 (⟨#[]⟩ : ByteArray) 0 0 0 0 false 0 0 = List.replicate 65 0 := by decide
  rw [e]
  have st : ∀ (d i k : Nat), i + d = 65 → d + 1 ≤ k → usufructlaw15_awake.l0 k (List.replicate 65 0) (i : Int) = some true := by
    intro d
    induction d with
    | zero =>
      intro i k hi hk
      obtain ⟨k, rfl⟩ : ∃ j, k = j + 1 := ⟨k - 1, by omega⟩
      rw [usufructlaw15_awake.l0, if_neg (by rw [List.length_replicate]; omega)]
      rfl
    | succ d ih =>
      intro i k hi hk
      obtain ⟨k, rfl⟩ : ∃ j, k = j + 1 := ⟨k - 1, by omega⟩
      have hr : rd (List.replicate 65 0) (i : Int) = 0 := by
        unfold rd
        rw [Int.toNat_natCast, List.getD_eq_getElem?_getD, List.getElem?_replicate]
        split <;> rfl
      have e1 : wrap64 ((i : Int) + 1) = ((i + 1 : Nat) : Int) := by unfold wrap64; omega
      rw [usufructlaw15_awake.l0, if_pos (by rw [List.length_replicate]; omega), if_pos (by omega), if_pos hr, e1]
      exact ih (i + 1) k (by omega) (by omega)
  exact st 65 0 100 (by omega) (by omega)

theorem CodeSagas.pure (i : Int) (d : ByteArray) (st ph sp tr : Int) (o : Bool) (a s : Int) (b : List Int) (hB : BB b)
    (h0 : I64_ i) (h1 : I64_ st) (h2 : I64_ ph) (h3 : I64_ sp) (h4 : I64_ tr) (h5 : I64_ a) (h6 : I64_ s) : usufructlaw15_CodeSagas.f 100 i d st ph sp tr o a s b = some true := by
  unfold usufructlaw15_CodeSagas.f
  rw [awake15, Option.bind_some, if_pos rfl]
  by_cases hd : (d.size : Int) > 200
  · rw [if_pos hd, usufructlaw15_CodeSagas.j0, if_pos rfl]
  rw [if_neg hd]
  by_cases hl : (b.length : Int) > 400
  · rw [decide_eq_true hl, usufructlaw15_CodeSagas.j0, if_pos rfl]
  rw [decide_eq_false hl, show (100 : Nat) = 99 + 1 from rfl, usufructlaw15_CodeSagas.j0, if_neg (by decide)]
  have hp : code_PutSaga.f i d st ph sp tr o a s = some (sagaB i d st ph sp tr o a s) := by unfold code_PutSaga.f; rw [if_pos ⟨⟨h0, h1, h2, h3, h4, h5, h6⟩, by omega⟩]
  obtain ⟨xi, xd, xst, xph, xsp, xtr, xo, xa, xs, at_, e, hT, hR, hc⟩ := take_saga hB (by omega) 89
  rw [hp, Option.bind_some, hT, Option.bind_some, show (99 : Nat) = 89 + 10 from rfl, hR, Option.bind_some, show (89 + 10 : Nat) = 88 + 11 from rfl, ref_saga 88 i d st ph sp tr o a s (by omega), Option.bind_some]
  dsimp only
  rw [if_pos rfl]
  have hz : ¬ ((!(xi == xi) || (!(xd.toList == xd.toList) || (!(xst == xst) || (!(xph == xph) || (!(xsp == xsp) || (!(xtr == xtr) || (!(xo == xo) || (!(xa == xa) || (!(xs == xs)))))))))) = true) := by simp
  rw [if_neg hz, if_pos rfl, if_pos rfl]
  -- what follows: the saga's own form is taken
  have hJ : usufructlaw15_CodeSagas.j1 (88 + 11) (sagaB i d st ph sp tr o a s) false i d st ph sp tr o a s = some true := by
    have hb := saga_back i d st ph sp tr o a s (by omega)
    have j2t : usufructlaw15_CodeSagas.j2 98 0 true i d st ph sp tr o a s (clampN i) d (clampN st) (clampN ph) (clampN sp) (clampN tr) o (clampN a) (clampN s) = some true := by
      rw [show (98 : Nat) = 97 + 1 from rfl, usufructlaw15_CodeSagas.j2, if_pos rfl]
      rfl
    rw [show (88 + 11 : Nat) = 98 + 1 from rfl, usufructlaw15_CodeSagas.j1, if_neg (by decide), hb, Option.bind_some]
    dsimp only
    by_cases g0 : i < 0
    · rw [if_pos g0]; exact j2t
    rw [if_neg g0]
    by_cases g1 : st < 0
    · rw [if_pos g1]; exact j2t
    rw [if_neg g1]
    by_cases g2 : ph < 0
    · rw [if_pos g2]; exact j2t
    rw [if_neg g2]
    by_cases g3 : sp < 0
    · rw [if_pos g3]; exact j2t
    rw [if_neg g3]
    by_cases g4 : tr < 0
    · rw [if_pos g4]; exact j2t
    rw [if_neg g4]
    by_cases g5 : a < 0
    · rw [if_pos g5]; exact j2t
    rw [if_neg g5]
    by_cases g6 : s < 0
    · rw [decide_eq_true g6]; exact j2t
    rw [decide_eq_false g6, show (98 : Nat) = 97 + 1 from rfl, usufructlaw15_CodeSagas.j2, if_neg (by decide)]
    by_cases hm : (mx (mx (mx (mx (mx (mx i st) ph) sp) tr) a) s) > 4611686018427387904
    · rw [if_pos hm]; rfl
    · rw [if_neg hm, if_pos rfl]
      have m1 : ∀ x y : Int, x ≤ mx x y ∧ y ≤ mx x y := fun x y => by unfold mx; split <;> omega
      have q1 := m1 i st
      have q2 := m1 (mx i st) ph
      have q3 := m1 (mx (mx i st) ph) sp
      have q4 := m1 (mx (mx (mx i st) ph) sp) tr
      have q5 := m1 (mx (mx (mx (mx i st) ph) sp) tr) a
      have q6 := m1 (mx (mx (mx (mx (mx i st) ph) sp) tr) a) s
      rw [clampN_id (by omega) (by omega), clampN_id (r := st) (by omega) (by omega), clampN_id (r := ph) (by omega) (by omega), clampN_id (r := sp) (by omega) (by omega), clampN_id (r := tr) (by omega) (by omega), clampN_id (r := a) (by omega) (by omega), clampN_id (r := s) (by omega) (by omega)]
      simp
  by_cases he : e = 0
  · rw [if_pos he]
    obtain ⟨hb, hd2, p0, p1, p2, p3, p4, p5, p6⟩ := hc he
    have hp2 : code_PutSaga.f xi xd xst xph xsp xtr xo xa xs = some (sagaB xi xd xst xph xsp xtr xo xa xs) := by
      unfold code_PutSaga.f
      rw [if_pos ⟨⟨⟨by omega, by omega⟩, ⟨by omega, by omega⟩, ⟨by omega, by omega⟩, ⟨by omega, by omega⟩, ⟨by omega, by omega⟩, ⟨by omega, by omega⟩, ⟨by omega, by omega⟩⟩, by omega⟩]
    rw [hp2, Option.bind_some, ← hb, show ((strOfNums b).toList != (strOfNums b).toList) = false from by simp]
    exact hJ
  · rw [if_neg he]
    exact hJ

theorem CodeSagas.walk (w : World) (cs0 : Array Value) (x0 : (Int × ByteArray × Int × Int × Int × Int × Bool × Int × Int)) (A1 : Option Addr) (c1 : Nat) (l1 : List Int)
    (hk0 : Kd.K (Kd.pair (Kd.int .i64) (Kd.pair Kd.string (Kd.pair (Kd.int .i64) (Kd.pair (Kd.int .i64) (Kd.pair (Kd.int .i64) (Kd.pair (Kd.int .i64) (Kd.pair Kd.bool (Kd.pair (Kd.int .i64) (Kd.int .i64))))))))) w x0 cs0.toList) (ok0 : (fun x : Int × ByteArray × Int × Int × Int × Int × Bool × Int × Int => (fun x => (Lit.int .i64 x).wf = true) x.1 ∧ (fun x => x.size ≤ maxLen) x.2.1 ∧ (fun x => (Lit.int .i64 x).wf = true) x.2.2.1 ∧ (fun x => (Lit.int .i64 x).wf = true) x.2.2.2.1 ∧ (fun x => (Lit.int .i64 x).wf = true) x.2.2.2.2.1 ∧ (fun x => (Lit.int .i64 x).wf = true) x.2.2.2.2.2.1 ∧ (fun _ => True) x.2.2.2.2.2.2.1 ∧ (fun x => (Lit.int .i64 x).wf = true) x.2.2.2.2.2.2.2.1 ∧ (fun x => (Lit.int .i64 x).wf = true) x.2.2.2.2.2.2.2.2) x0) (hr1 : Kd.C (Kd.int .u8) w A1 l1.length l1) (hc1 : l1.length ≤ c1) (hm1 : c1 ≤ maxLen) (ok1 : ∀ x ∈ l1, (fun x => (Lit.int .u8 x).wf = true) x) :
    Calls Try.prog 3 #[.agg cs0, .slice A1 l1.length c1] w fun e w' => e = .returned (.bool true) ∧ Below w.heap.size w w' := by
  obtain ⟨i, d, st, ph, sp, tr, o, a, s⟩ := x0
  have e : cs0 = #[.int .i64 i, .string d, .int .i64 st, .int .i64 ph, .int .i64 sp, .int .i64 tr, .bool o, .int .i64 a, .int .i64 s] := by
    obtain ⟨_, _, hcs, rfl, _, _, rfl, rfl, _, _, rfl, rfl, _, _, rfl, rfl, _, _, rfl, rfl, _, _, rfl, rfl, _, _, rfl, rfl, _, _, rfl, rfl, rfl⟩ := hk0
    rw [← Array.toList_inj]
    exact hcs
  subst e
  obtain ⟨o0, _, o2, o3, o4, o5, _, o7, o8⟩ := ok0
  have hp := CodeSagas.pure i d st ph sp tr o a s l1 (fun x hx => by have := bounds_u8 (ok1 x hx); omega) (bounds_i64 o0) (bounds_i64 o2) (bounds_i64 o3) (bounds_i64 o4) (bounds_i64 o5) (bounds_i64 o7) (bounds_i64 o8)
  exact usufructlaw15_CodeSagas.calls 100 i d st ph sp tr o a s A1 c1 l1 true w hr1 hc1 hp rfl
end Go.Proofs.Ytcgpbakimkhdpaa.Walk
end
