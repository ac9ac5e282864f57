/- label.Good: a walk. -/
import Derived.Test.YtjefllmaffialaaDoorGLabelRunes
import Derived.Test.YtjefllmaffialaaDoorQx4
import Derived.Test.YtjefllmaffialaaDoorQx3
import Derived.Shelf.Unicode.ValidAny
namespace Go.Proofs.YtjefllmaffialaaDoor.Q
open Go.RowKit Go.Proofs.YtjefllmaffialaaDoorW.PrintWords Go.Proofs.YtjefllmaffialaaDoorW.PrintLast Go.Proofs.YtjefllmaffialaaDoorW.PrintMore
set_option linter.unusedVariables false
set_option linter.unusedSimpArgs false

theorem label_letter_f (c : Int) : label_letter.f c = some (Utf.letterP c) := by
  unfold label_letter.f Utf.letterP
  repeat' split
  all_goals (refine congrArg some ?_; rw [Bool.eq_iff_iff]; simp only [decide_eq_true_eq, true_iff, false_iff]; omega)
theorem label_may_f (c : Int) : label_may.f c = some (Utf.mayP c) := by
  unfold label_may.f
  rw [label_letter_f, Option.bind_some]
  unfold Utf.letterP Utf.mayP
  repeat' split
  all_goals (refine congrArg some ?_; rw [Bool.eq_iff_iff]; simp only [decide_eq_true_eq, beq_iff_eq, true_iff, false_iff] at *; omega)

def label_Good.f (a0 : ByteArray) : Option (Bool) := if a0.size < 9223372036854775807 then some (Utf.goodD a0.data.toList) else none

/-- Where the walk stands: all that was seen may stand in a name. -/
def GoodAt (s : ByteArray) (pos : Nat) : Prop :=
  (Utf.runes (s.data.toList.drop pos)).all Option.isSome = true ∧ (0 < pos → Utf.goodD s.data.toList = (Utf.runes (s.data.toList.drop pos)).all Utf.okRune)
theorem goodAt_zero {s : ByteArray} (hv : Lib.validD s.data.toList = true) : GoodAt s 0 := ⟨by rw [List.drop_zero, ← Utf.validD_runes]; exact hv, fun h => absurd h (Nat.lt_irrefl 0)⟩
theorem goodAt_rune {s : ByteArray} {pos : Nat} (h : GoodAt s pos) (hp : pos < s.size) : Utf.first (s.data.toList.drop pos) = some (Utf8.decode s pos).1 ∧ (Utf.runes (s.data.toList.drop (pos + (Utf8.decode s pos).2))).all Option.isSome = true := by
  have h1 := h.1
  rw [runes_at s pos hp, List.all_cons, Bool.and_eq_true] at h1
  refine ⟨?_, h1.2⟩
  have h2 := h1.1
  rw [first_at] at h2 ⊢
  split at h2
  · cases h2
  · rename_i hn
    rw [if_neg hn]
theorem goodAt_next {s : ByteArray} {pos : Nat} (h : GoodAt s pos) (hp : pos < s.size) (hl : (Utf.runes s.data.toList).length ≤ 64) (hm : Utf.mayP ((Utf8.decode s pos).1 : Int) = true) (h0 : pos = 0 → Utf.letterP ((Utf8.decode s pos).1 : Int) = true) : GoodAt s (pos + (Utf8.decode s pos).2) := by
  obtain ⟨hf, ha⟩ := goodAt_rune h hp
  refine ⟨ha, fun _ => ?_⟩
  by_cases hz : pos = 0
  · subst hz
    have e := runes_at s 0 hp
    rw [hf, List.drop_zero] at e
    unfold Utf.goodD
    rw [e, List.all_cons, show Utf.okRune (some (Utf8.decode s 0).1) = true from hm, ← e]
    rw [e] at hl
    rw [e]
    simp only [List.head?_cons, Bool.true_and]
    rw [h0 rfl, decide_eq_true hl, Bool.and_true, Bool.and_true]
  · rw [h.2 (by omega), runes_at s pos hp, hf, List.all_cons, show Utf.okRune (some (Utf8.decode s pos).1) = true from hm, Bool.true_and]
theorem goodAt_end {s : ByteArray} {pos : Nat} (h : GoodAt s pos) (hp : ¬ pos < s.size) (h0 : 0 < s.size) : Utf.goodD s.data.toList = true := by
  rw [h.2 (by omega), runes_end s pos hp]
  rfl
theorem goodAt_bad {s : ByteArray} {pos : Nat} (h : GoodAt s pos) (hp : pos < s.size) (hb : Utf.mayP ((Utf8.decode s pos).1 : Int) = false ∨ (pos = 0 ∧ Utf.letterP ((Utf8.decode s pos).1 : Int) = false)) : Utf.goodD s.data.toList = false := by
  obtain ⟨hf, ha⟩ := goodAt_rune h hp
  by_cases hz : pos = 0
  · subst hz
    have e := runes_at s 0 hp
    rw [hf, List.drop_zero] at e
    unfold Utf.goodD
    rw [e, List.all_cons, List.head?_cons]
    rcases hb with hb | ⟨_, hb⟩
    · rw [show Utf.okRune (some (Utf8.decode s 0).1) = false from hb]
      simp
    · simp only [hb]
      simp
  · rcases hb with hb | ⟨hb, _⟩
    · rw [h.2 (by omega), runes_at s pos hp, hf, List.all_cons, show Utf.okRune (some (Utf8.decode s pos).1) = false from hb, Bool.false_and]
    · exact absurd hb hz
theorem iterPos_drewN (w : World) (n k : Nat) : (w.drewN n).iterPos k = w.iterPos k := rfl
theorem good_invalid {s : ByteArray} (h : Lib.validD s.data.toList = false) : Utf.goodD s.data.toList = false := by
  cases hg : Utf.goodD s.data.toList with
  | false => rfl
  | true =>
    have := Utf.all_ok_some _ (Utf.good_ok _ hg)
    rw [← Utf.validD_runes, h] at this
    cases this
theorem good_long {s : ByteArray} (h : 64 < (Utf.runes s.data.toList).length) : Utf.goodD s.data.toList = false := by
  unfold Utf.goodD
  rw [decide_eq_false (by omega), Bool.and_false]

set_option maxHeartbeats 4000000 in
set_option maxRecDepth 1000000 in
theorem label_Good.calls (a0 : ByteArray) (r : Bool) (w : World) (hTab_ : Tabs_ w) (h : label_Good.f a0 = some r) :
    Calls Tryd.prog 23 #[.string a0] w fun e w' => e = .returned (.bool r) ∧ Below w.heap.size w w' := by
  unfold label_Good.f at h
  by_cases hs : a0.size < 9223372036854775807
  · rw [if_pos hs] at h
    obtain rfl := Option.some.inj h
    clear h
    have cV : Calls Tryd.prog 28 #[.string a0] w _ := Any.utf8_ValidString Tryd.lays196 a0 w (by omega) hTab_.utf
    have cR := fun W => label_Runes.calls a0 _ W (show label_Runes.f a0 = some ((Utf.runes a0.data.toList).length : Int) from if_pos hs)
    cases hv : Lib.validD a0.data.toList with
    | false =>
      rw [hv] at cV
      rw [good_invalid hv]
      clear cR
      go_enter Tryd.func23, Tryd.ntmps23
      go_wp2_with (go_at_call 28; refine cV.mono ?_; rintro e w' ⟨rfl, hb⟩)
      go_ret
      exact ⟨rfl, hb⟩
    | true =>
      rw [hv] at cV
      by_cases he : a0 = ⟨#[]⟩
      · subst he
        clear cR
        rw [show Utf.goodD (⟨#[]⟩ : ByteArray).data.toList = false from by decide]
        go_enter Tryd.func23, Tryd.ntmps23
        go_wp2_with (go_at_call 28; refine cV.mono ?_; rintro e w' ⟨rfl, hb⟩)
        go_ret
        exact ⟨rfl, hb⟩
      · have he1 : (a0.toList == ([] : List UInt8)) = false := by
          rw [Lib.toList_data]
          exact beq_eq_false_iff_ne.mpr (fun e => he (ByteArray.ext (Array.ext' e)))
        have hsz : 0 < a0.size := by
          rcases Nat.eq_zero_or_pos a0.size with h0 | h0
          · exact absurd (ByteArray.ext (Array.eq_empty_of_size_eq_zero h0)) he
          · exact h0
        by_cases hl : 64 < (Utf.runes a0.data.toList).length
        · rw [good_long hl]
          have hd : decide ((64 : Int) < ((Utf.runes a0.data.toList).length : Int)) = true := decide_eq_true (by omega)
          generalize (Utf.runes a0.data.toList).length = n at cR hd
          go_enter Tryd.func23, Tryd.ntmps23
          go_wp2_with (first | (go_at_call 28; refine cV.mono ?_; rintro e w' ⟨rfl, hb⟩) | (go_at_call 29; refine (cR _).mono ?_; rintro e w2 ⟨rfl, hb2⟩))
          go_ret
          exact ⟨rfl, hb.trans (hb2.mono hb.size)⟩
        · have hd : decide ((64 : Int) < ((Utf.runes a0.data.toList).length : Int)) = false := decide_eq_false (by omega)
          have hl : (Utf.runes a0.data.toList).length ≤ 64 := by omega
          have HL := Aside0.mk hl
          clear hl
          generalize hn : (Utf.runes a0.data.toList).length = n at cR hd
          have HN := Aside0.mk hn
          clear hn
          go_enter Tryd.func23, Tryd.ntmps23
          go_wp2_with (first | (go_at_call 28; refine cV.mono ?_; rintro e w' ⟨rfl, hb⟩) | (go_at_call 29; refine (cR _).mono ?_; rintro e w2 ⟨rfl, hb2⟩))
          have HB := Aside0.mk (hb.trans (hb2.mono hb.size))
          clear hb hb2
          go_loopw [] (fun wr => ∃ pos : Nat, wr.heap[w2.heap.size]? = some (.stringIter a0 pos) ∧ Below w2.heap.size w2 wr ∧ GoodAt a0 pos) (fun wr => a0.size - wr.iterPos w2.heap.size)
          case atStart =>
            refine ⟨0, ?_, (Below.refl _ w2).alloc (Nat.le_refl _) _, goodAt_zero hv⟩
            exact World.iter_heap w2 a0 0
          case round =>
            obtain ⟨pos, hit, hbw, hg⟩ := hrel
            have hsw : w2.heap.size < wr.heap.size := (Array.getElem?_eq_some_iff.1 hit).1
            by_cases hp : pos < a0.size
            · have hnx : ∀ ty, (Instr.next (.pointer (some ⟨w2.heap.size, 0, none⟩)) true ty).run Tryd.prog wr = _ := fun ty => Lib.run_next_any_at wr w2.heap.size a0 pos ty hit hp
              have hwd := Lib.decode_width_pos a0 pos hp
              have hd1 := decode_le a0 pos
              have hit2 := Lib.iterAt_heap wr w2.heap.size a0 pos (pos + (Utf8.decode a0 pos).2) hit
              have hbw2 := Lib.below_iterAt hbw (k := w2.heap.size) (Nat.le_refl _) a0 (pos + (Utf8.decode a0 pos).2)
              have HG := Aside0.mk hg
              clear hg
              have HH := Aside0.mk hit2
              have HB2 := Aside0.mk hbw2
              clear hit2 hbw2
              cases hm : Utf.mayP ((Utf8.decode a0 pos).1 : Int) with
              | false =>
                have cM := fun W => label_may.calls ((Utf8.decode a0 pos).1 : Int) false W (by rw [label_may_f, hm])
                have HE := Aside0.mk (goodAt_bad HG.out hp (.inl hm))
                go_wp2_with (go_at_call 30; refine (cM _).mono ?_; rintro e W1 ⟨rfl, nd, rfl⟩)
                go_ret
                exact ⟨by rw [HE.out]; rfl, HB.out.trans ((pw_below_drewN HB2.out nd).mono HB.out.size)⟩
              | true =>
                have cM := fun W => label_may.calls ((Utf8.decode a0 pos).1 : Int) true W (by rw [label_may_f, hm])
                by_cases hz : pos = 0
                · have hzi : ((pos : Int) == 0) = true := beq_iff_eq.mpr (by omega)
                  cases hlt : Utf.letterP ((Utf8.decode a0 pos).1 : Int) with
                  | false =>
                    have cL := fun W => label_letter.calls ((Utf8.decode a0 pos).1 : Int) false W (by rw [label_letter_f, hlt])
                    have HE := Aside0.mk (goodAt_bad HG.out hp (.inr ⟨hz, hlt⟩))
                    have HZ := Aside0.mk hz
                    clear hz
                    go_wp2_with (first | (go_at_call 30; refine (cM _).mono ?_; rintro e W1 ⟨rfl, nd, rfl⟩) | (go_at_call 31; refine (cL _).mono ?_; rintro e W1 ⟨rfl, nd2, rfl⟩))
                    go_ret
                    exact ⟨by rw [HE.out]; rfl, HB.out.trans ((pw_below_drewN HB2.out _).mono HB.out.size)⟩
                  | true =>
                    have cL := fun W => label_letter.calls ((Utf8.decode a0 pos).1 : Int) true W (by rw [label_letter_f, hlt])
                    have HN2 := Aside0.mk (goodAt_next HG.out hp HL.out hm (fun _ => hlt))
                    have HZ := Aside0.mk hz
                    clear hz
                    go_wp2_with (first | (go_at_call 30; refine (cM _).mono ?_; rintro e W1 ⟨rfl, nd, rfl⟩) | (go_at_call 31; refine (cL _).mono ?_; rintro e W1 ⟨rfl, nd2, rfl⟩))
                    go_roundw
                    case rel => exact ⟨_, HH.out, pw_below_drewN HB2.out _, HN2.out⟩
                    case measure =>
                      have e := HH.out
                      rw [iterPos_drewN]
                      simp only [World.iterPos, e, hit]
                      omega
                · have hzi : ((pos : Int) == 0) = false := beq_eq_false_iff_ne.mpr (by omega)
                  have HN2 := Aside0.mk (goodAt_next HG.out hp HL.out hm (fun h => absurd h hz))
                  have HZ := Aside0.mk hz
                  clear hz
                  go_wp2_with (go_at_call 30; refine (cM _).mono ?_; rintro e W1 ⟨rfl, nd, rfl⟩)
                  go_roundw
                  case rel => exact ⟨_, HH.out, pw_below_drewN HB2.out nd, HN2.out⟩
                  case measure =>
                    have e := HH.out
                    rw [iterPos_drewN]
                    simp only [World.iterPos, e, hit]
                    omega
            · have hnx : ∀ ty, (Instr.next (.pointer (some ⟨w2.heap.size, 0, none⟩)) true ty).run Tryd.prog wr = _ := fun ty => Lib.run_next_end_at wr w2.heap.size a0 pos ty hit hp
              have HE := Aside0.mk (goodAt_end hg hp hsz)
              go_wp2
              go_ret
              exact ⟨by rw [HE.out]; rfl, HB.out.trans (hbw.mono HB.out.size)⟩
  · rw [if_neg hs] at h
    cases h
end Go.Proofs.YtjefllmaffialaaDoor.Q
