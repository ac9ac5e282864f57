/- label.Mask: a walk. -/
import Derived.Test.YtkpmmikpdjhliaaDoorGLabelGood
import Derived.Lib.RuneCountTail
namespace Go.Proofs.YtkpmmikpdjhliaaDoor.Q
open Go.RowKit Go.Proofs.YtkpmmikpdjhliaaDoorW.PrintWords Go.Proofs.YtkpmmikpdjhliaaDoorW.PrintLast Go.Proofs.YtkpmmikpdjhliaaDoorW.PrintMore
set_option linter.unusedVariables false
set_option linter.unusedSimpArgs false

def label_Mask.f (a0 : ByteArray) : Option (ByteArray) := if a0.size ≤ 35184372088832 then some ⟨(Utf.maskD a0.data.toList).toArray⟩ else none
theorem maskD_at (s : ByteArray) (pos : Nat) (h : pos < s.size) : Utf.maskD (s.data.toList.drop pos) = Lib.encodeRune ((Utf.mo (Utf.first (s.data.toList.drop pos)) : Nat) : Int) ++ Utf.maskD (s.data.toList.drop (pos + (Utf8.decode s pos).2)) := by
  unfold Utf.maskD
  rw [runes_at s pos h, List.flatMap_cons]
theorem maskD_end (s : ByteArray) (pos : Nat) (h : ¬ pos < s.size) : Utf.maskD (s.data.toList.drop pos) = [] := by
  unfold Utf.maskD
  rw [runes_end s pos h]
  rfl
theorem decodeGo_tail (s : ByteArray) (pos : Nat) (h : pos < s.size) : Lib.decodeGo (s.extract pos s.size) = Utf8.decode s pos := by
  unfold Lib.decodeGo
  have hz := Lib.tail_size s pos
  rw [if_neg (by omega), Lib.tail_decode]
  rfl
/-- What is written at a place. -/
theorem mo_bad {s : ByteArray} {pos : Nat} (h1 : (Utf8.decode s pos).1 = 65533) (h2 : (Utf8.decode s pos).2 = 1) : Utf.mo (Utf.first (s.data.toList.drop pos)) = 95 := by
  rw [first_at, if_pos ⟨h1, h2⟩]
  rfl
theorem mo_may {s : ByteArray} {pos : Nat} (h : ¬ ((Utf8.decode s pos).1 = 65533 ∧ (Utf8.decode s pos).2 = 1)) (hm : Utf.mayP ((Utf8.decode s pos).1 : Int) = true) : Utf.mo (Utf.first (s.data.toList.drop pos)) = (Utf8.decode s pos).1 := by
  rw [first_at, if_neg h]
  show (if Utf.mayP ((Utf8.decode s pos).1 : Int) = true then _ else _) = _
  rw [hm, if_pos rfl]
theorem mo_not {s : ByteArray} {pos : Nat} (h : ¬ ((Utf8.decode s pos).1 = 65533 ∧ (Utf8.decode s pos).2 = 1)) (hm : Utf.mayP ((Utf8.decode s pos).1 : Int) = false) : Utf.mo (Utf.first (s.data.toList.drop pos)) = 95 := by
  rw [first_at, if_neg h]
  show (if Utf.mayP ((Utf8.decode s pos).1 : Int) = true then _ else _) = _
  rw [hm, if_neg (by decide)]
theorem builder_below {T e : TypeId} {B b : Nat} {bs : List Value} {W W' : World} (h : Lib.IsBuilderF T e B b bs W) (hb : Below W.heap.size W W') : Lib.IsBuilderF T e B b bs W' := by
  have key : ∀ p, Lib.BuilderAtF T e B b p bs W → Lib.BuilderAtF T e B b p bs W' := by
    rintro p ⟨hB, v, hbk, hown, hne⟩
    refine ⟨hB, v, (hb.block b (Array.getElem?_eq_some_iff.1 hbk).1).trans hbk, ⟨hown.1, ?_⟩, hne⟩
    rcases hown.2 with h0 | ⟨g, cap, cur, fz, hv, hg, hh, r⟩
    · exact .inl h0
    · exact .inr ⟨g, cap, cur, fz, hv, hg, (hb.block g (Array.getElem?_eq_some_iff.1 hh).1).trans hh, r⟩
  exact h.elim (fun x => .inl (key _ x)) (fun x => .inr (key _ x))

set_option maxHeartbeats 4000000 in
set_option maxRecDepth 1000000 in
theorem label_Mask.calls (a0 : ByteArray) (r : ByteArray) (w : World) (hTab_ : Tabs_ w) (h : label_Mask.f a0 = some r) :
    Calls Tryd.prog 12 #[.string a0] w fun e w' => e = .returned (.string r) ∧ Below w.heap.size w w' := by
  unfold label_Mask.f at h
  by_cases hs : a0.size ≤ 35184372088832
  · rw [if_pos hs] at h
    obtain rfl := Option.some.inj h
    clear h
    have HT := Aside0.mk hTab_
    clear hTab_
    obtain ⟨M, hM⟩ : ∃ M, Utf.maskD a0.data.toList = M := ⟨_, rfl⟩
    rw [hM]
    go_enter Tryd.func12, Tryd.ntmps12
    go_wp2
    go_loopw [] (fun wr => ∃ (pos : Nat) (acc : List UInt8), Lib.IsBuilderF 39 5 w.heap.size w.heap.size (Lib.byteCells acc) wr ∧ wr.heap[w.heap.size + 1]? = some (.stringIter a0 pos) ∧ Below w.heap.size w wr ∧ acc ++ Utf.maskD (a0.data.toList.drop pos) = M ∧ acc.length ≤ 4 * pos) (fun wr => a0.size - wr.iterPos (w.heap.size + 1))
    case atStart =>
      refine ⟨0, [], (Lib.IsBuilderF.of (Lib.fresh_isBuilder 39 5 w)).alloc _, ?_, ((Below.refl _ w).alloc (Nat.le_refl _) _).alloc (by simp) _, by rw [List.drop_zero, hM]; rfl, by simp⟩
      have := World.iter_heap (w.alloc (.cells #[.pointer none, .slice none 0 0] 39)) a0 0
      simpa using this
    case round =>
      obtain ⟨pos, acc, hI, hit, hbw, hacc, hal⟩ := hrel
      have hsz : w.heap.size + 1 < wr.heap.size := (Array.getElem?_eq_some_iff.1 hit).1
      by_cases hp : pos < a0.size
      · have hnx : ∀ ty, (Instr.next (.pointer (some ⟨w.heap.size + 1, 0, none⟩)) true ty).run Tryd.prog wr = _ := fun ty => Lib.run_next_any_at wr (w.heap.size + 1) a0 pos ty hit hp
        have hwd := Lib.decode_width_pos a0 pos hp
        have hd1 := decode_le a0 pos
        have hI2 := hI.iterAt hit (pos + (Utf8.decode a0 pos).2)
        have hit2 := Lib.iterAt_heap wr (w.heap.size + 1) a0 pos (pos + (Utf8.decode a0 pos).2) hit
        have hbw2 := Lib.below_iterAt hbw (k := w.heap.size + 1) (by omega) a0 (pos + (Utf8.decode a0 pos).2)
        have hsz2 : w.heap.size ≤ (wr.iterAt (w.heap.size + 1) a0 (pos + (Utf8.decode a0 pos).2)).heap.size := by rw [Lib.iterAt_size]; omega
        have hT2 := HT.out.below hbw2
        have cD : Calls Tryd.prog 24 #[.string (a0.extract pos a0.size)] _ _ := Tryd.utf8_DecodeRuneInString (a0.extract pos a0.size) (wr.iterAt (w.heap.size + 1) a0 (pos + (Utf8.decode a0 pos).2)) hT2.utf
        rw [decodeGo_tail a0 pos hp] at cD
        clear hT2
        have HI := Aside0.mk hI2
        have HIT := Aside0.mk hit2
        have HB := Aside0.mk hbw2
        have HS := Aside0.mk hsz2
        have HA := Aside0.mk hacc
        have HL := Aside0.mk hal
        clear hI2 hit2 hbw2 hsz2 hacc hal hI
        by_cases hc : (Utf8.decode a0 pos).1 = 65533
        · have hci : (((Utf8.decode a0 pos).1 : Int) == 65533) = true := beq_iff_eq.mpr (by omega)
          by_cases hn : (Utf8.decode a0 pos).2 = 1
          · have hni : (((Utf8.decode a0 pos).2 : Int) == 1) = true := beq_iff_eq.mpr (by omega)
            have HE := Aside0.mk (mo_bad hc hn)
            have HC := Aside0.mk hc
            have HN := Aside0.mk hn
            clear hc hn
            go_wp2_with (first | (go_at_call 24; refine cD.mono ?_; rintro e W1 ⟨rfl, hb1⟩; have HI1 := Aside0.mk (builder_below HI.out hb1); have HIT1 := Aside0.mk ((hb1.block _ (Array.getElem?_eq_some_iff.1 HIT.out).1).trans HIT.out); have HB1 := Aside0.mk (HB.out.trans (hb1.mono HS.out)); clear hb1) | (go_at_call 25; fail))
            go_at_call 25
            refine (Tryd.Builder_WriteRune_k w.heap.size w.heap.size _ 95 (by omega) (by omega) _ HI1.out (by rw [Lib.byteCells_length]; have := HL.out; omega) HB1.out.size).mono ?_
            rintro e W3 ⟨rfl, h1, b1, k1⟩
            go_wp2
            go_roundw
            case rel =>
              have hl4 := Lib.runeCells_le (95)
              rw [Lib.runeCells_length] at hl4
              have hal := HL.out
              refine ⟨pos + (Utf8.decode a0 pos).2, acc ++ Lib.encodeRune (95), ?_, k1.iter HIT1.out (by omega), HB1.out.trans b1, ?_, by simp; omega⟩
              · rw [Lib.byteCells_append, Lib.byteCells_encodeRune]; exact Or.inr h1
              · rw [← HA.out, maskD_at a0 pos hp, HE.out, List.append_assoc]
                try rfl
            case measure =>
              simp only [World.iterPos, k1.iter HIT1.out (by omega), hit]
              omega
          · have hni : (((Utf8.decode a0 pos).2 : Int) == 1) = false := beq_eq_false_iff_ne.mpr (by omega)
            have hm : Utf.mayP ((Utf8.decode a0 pos).1 : Int) = true := by rw [hc]; exact decide_eq_true (by omega)
            have HE := Aside0.mk (mo_may (fun h => hn h.2) hm)
            have cM := fun W => label_may.calls ((Utf8.decode a0 pos).1 : Int) true W (by rw [label_may_f, hm])
            have HC := Aside0.mk hc
            have HN := Aside0.mk hn
            clear hc hn hm
            go_wp2_with (first | (go_at_call 24; refine cD.mono ?_; rintro e W1 ⟨rfl, hb1⟩; have HI1 := Aside0.mk (builder_below HI.out hb1); have HIT1 := Aside0.mk ((hb1.block _ (Array.getElem?_eq_some_iff.1 HIT.out).1).trans HIT.out); have HB1 := Aside0.mk (HB.out.trans (hb1.mono HS.out)); clear hb1) | (go_at_call 19; refine (cM _).mono ?_; rintro e W2 ⟨rfl, nd, rfl⟩) | (go_at_call 25; fail))
            go_at_call 25
            refine (Tryd.Builder_WriteRune_k w.heap.size w.heap.size _ ((Utf8.decode a0 pos).1 : Int) (by omega) (by omega) (W1.drewN nd) HI1.out (by rw [Lib.byteCells_length]; have := HL.out; omega) HB1.out.size).mono ?_
            rintro e W3 ⟨rfl, h1, b1, k1⟩
            go_wp2
            go_roundw
            case rel =>
              have hl4 := Lib.runeCells_le (((Utf8.decode a0 pos).1 : Int))
              rw [Lib.runeCells_length] at hl4
              have hal := HL.out
              refine ⟨pos + (Utf8.decode a0 pos).2, acc ++ Lib.encodeRune (((Utf8.decode a0 pos).1 : Int)), ?_, k1.iter HIT1.out (by omega), (pw_below_drewN HB1.out nd).trans b1, ?_, by simp; omega⟩
              · rw [Lib.byteCells_append, Lib.byteCells_encodeRune]; exact Or.inr h1
              · rw [← HA.out, maskD_at a0 pos hp, HE.out, List.append_assoc]
                try rfl
            case measure =>
              simp only [World.iterPos, k1.iter HIT1.out (by omega), hit]
              omega
        · have hci : (((Utf8.decode a0 pos).1 : Int) == 65533) = false := beq_eq_false_iff_ne.mpr (by omega)
          cases hm : Utf.mayP ((Utf8.decode a0 pos).1 : Int) with
          | true =>
            have HE := Aside0.mk (mo_may (fun h => hc h.1) hm)
            have cM := fun W => label_may.calls ((Utf8.decode a0 pos).1 : Int) true W (by rw [label_may_f, hm])
            have HC := Aside0.mk hc
            clear hc hm
            go_wp2_with (first | (go_at_call 24; refine cD.mono ?_; rintro e W1 ⟨rfl, hb1⟩; have HI1 := Aside0.mk (builder_below HI.out hb1); have HIT1 := Aside0.mk ((hb1.block _ (Array.getElem?_eq_some_iff.1 HIT.out).1).trans HIT.out); have HB1 := Aside0.mk (HB.out.trans (hb1.mono HS.out)); clear hb1) | (go_at_call 19; refine (cM _).mono ?_; rintro e W2 ⟨rfl, nd, rfl⟩) | (go_at_call 25; fail))
            go_at_call 25
            refine (Tryd.Builder_WriteRune_k w.heap.size w.heap.size _ ((Utf8.decode a0 pos).1 : Int) (by omega) (by omega) (W1.drewN nd) HI1.out (by rw [Lib.byteCells_length]; have := HL.out; omega) HB1.out.size).mono ?_
            rintro e W3 ⟨rfl, h1, b1, k1⟩
            go_wp2
            go_roundw
            case rel =>
              have hl4 := Lib.runeCells_le (((Utf8.decode a0 pos).1 : Int))
              rw [Lib.runeCells_length] at hl4
              have hal := HL.out
              refine ⟨pos + (Utf8.decode a0 pos).2, acc ++ Lib.encodeRune (((Utf8.decode a0 pos).1 : Int)), ?_, k1.iter HIT1.out (by omega), (pw_below_drewN HB1.out nd).trans b1, ?_, by simp; omega⟩
              · rw [Lib.byteCells_append, Lib.byteCells_encodeRune]; exact Or.inr h1
              · rw [← HA.out, maskD_at a0 pos hp, HE.out, List.append_assoc]
                try rfl
            case measure =>
              simp only [World.iterPos, k1.iter HIT1.out (by omega), hit]
              omega
          | false =>
            have HE := Aside0.mk (mo_not (fun h => hc h.1) hm)
            have cM := fun W => label_may.calls ((Utf8.decode a0 pos).1 : Int) false W (by rw [label_may_f, hm])
            have HC := Aside0.mk hc
            clear hc hm
            go_wp2_with (first | (go_at_call 24; refine cD.mono ?_; rintro e W1 ⟨rfl, hb1⟩; have HI1 := Aside0.mk (builder_below HI.out hb1); have HIT1 := Aside0.mk ((hb1.block _ (Array.getElem?_eq_some_iff.1 HIT.out).1).trans HIT.out); have HB1 := Aside0.mk (HB.out.trans (hb1.mono HS.out)); clear hb1) | (go_at_call 19; refine (cM _).mono ?_; rintro e W2 ⟨rfl, nd, rfl⟩) | (go_at_call 25; fail))
            go_at_call 25
            refine (Tryd.Builder_WriteRune_k w.heap.size w.heap.size _ 95 (by omega) (by omega) (W1.drewN nd) HI1.out (by rw [Lib.byteCells_length]; have := HL.out; omega) HB1.out.size).mono ?_
            rintro e W3 ⟨rfl, h1, b1, k1⟩
            go_wp2
            go_roundw
            case rel =>
              have hl4 := Lib.runeCells_le (95)
              rw [Lib.runeCells_length] at hl4
              have hal := HL.out
              refine ⟨pos + (Utf8.decode a0 pos).2, acc ++ Lib.encodeRune (95), ?_, k1.iter HIT1.out (by omega), (pw_below_drewN HB1.out nd).trans b1, ?_, by simp; omega⟩
              · rw [Lib.byteCells_append, Lib.byteCells_encodeRune]; exact Or.inr h1
              · rw [← HA.out, maskD_at a0 pos hp, HE.out, List.append_assoc]
                try rfl
            case measure =>
              simp only [World.iterPos, k1.iter HIT1.out (by omega), hit]
              omega
      · have hnx : ∀ ty, (Instr.next (.pointer (some ⟨w.heap.size + 1, 0, none⟩)) true ty).run Tryd.prog wr = _ := fun ty => Lib.run_next_end_at wr (w.heap.size + 1) a0 pos ty hit hp
        go_wp2_with (go_at_call 26; refine (Tryd.Builder_String_any_k w.heap.size w.heap.size acc _ hI (by omega)).mono ?_)
        rintro e W1 ⟨rfl, _, b1, _⟩
        go_wp2
        go_ret
        rw [maskD_end a0 pos hp, List.append_nil] at hacc
        subst hacc
        exact ⟨rfl, hbw.trans b1⟩
  · rw [if_neg hs] at h
    cases h
end Go.Proofs.YtkpmmikpdjhliaaDoor.Q
