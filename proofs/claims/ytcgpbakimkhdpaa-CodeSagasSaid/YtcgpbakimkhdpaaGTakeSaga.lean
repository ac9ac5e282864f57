/- code.TakeSaga, by hand: numbers, a text and a flag one behind the other, the end, the first error. -/
import Derived.Test.YtcgpbakimkhdpaaGReaderText
import Derived.Test.YtcgpbakimkhdpaaGNewReader
import Derived.Test.YtcgpbakimkhdpaaQx19
import Derived.Test.YtcgpbakimkhdpaaQx20
import Derived.Test.YtcgpbakimkhdpaaQx21
namespace Go.Proofs.Ytcgpbakimkhdpaa.Q
open Go.RowKit Go.Proofs.YtcgpbakimkhdpaaW.PrintWords Go.Proofs.YtcgpbakimkhdpaaW.PrintLast Go.Proofs.YtcgpbakimkhdpaaW.PrintMore
set_option linter.unusedVariables false
set_option linter.unusedSimpArgs false

/-- A row of bytes stays where a cell that holds no byte is written. -/
theorem C_put {w : World} {A : Option Addr} {n : Nat} {xs : List Int} (h : Kd.C (Kd.int .u8) w A n xs) {p : Addr} {u : Value} (hc : w.cell? p = some u) (hu : ∀ x, u ≠ .int .u8 x) (v : Value) : Kd.C (Kd.int .u8) (w.setCell p v) A n xs := by
  have r := Kd.reads_of_C (d := (0 : Int)) (h1 := fun _ => rfl) h
  refine Kd.C_of_reads (d := (0 : Int)) (h1 := fun _ => rfl) ⟨r.1, r.2.1, fun hn => ?_⟩
  obtain ⟨ad, e, hc'⟩ := r.2.2 hn
  exact ⟨ad, e, fun j hj => (World.cell?_setCell_other (w := w) (a := p) (b := ad.add j) (v := v) (fun e2 => hu _ (Option.some.inj (hc.symm.trans (by rw [e2]; exact hc' j hj))))).trans (hc' j hj)⟩
/-- A reader, where a cell is written in both worlds. -/
theorem isR_both {wb W : World} {g : Nat} {f0 : List Int} {f1 f2 f3 : Int} {p : Addr} {u : Value} (h : IsS66 wb W g f0 f1 f2 f3) (hne : g ≠ p.block) (hc : wb.cell? p = some u) (hu : ∀ x, u ≠ .int .u8 x) (v : Value) : IsS66 (wb.setCell p v) (W.setCell p v) g f0 f1 f2 f3 := by
  obtain ⟨A0, c0, hb, hg, hC, hl⟩ := h
  exact ⟨A0, c0, blk_far hb hne v, by simpa [World.setCell] using hg, C_put hC hc hu v, hl⟩
theorem below_both {a b : World} {p : Addr} {v : Value} (h : Below a.heap.size a b) : Below (a.setCell p v).heap.size (a.setCell p v) (b.setCell p v) :=
  ⟨h.os, h.tape, h.output, by simpa [World.setCell] using h.size, fun k hk => by
    have hk' : k < a.heap.size := by simpa [World.setCell] using hk
    have := h.block k hk'
    simp [World.setCell, Array.getElem?_modify, this]⟩
theorem err_ (b : List Int) (a fa fe : Int) : field_Reader_Err.f b a fa fe = some (fa, fe, a, fa, fe) := rfl

set_option maxHeartbeats 1000000 in
set_option maxRecDepth 100000 in
/-- A reader in a struct of its own. -/
theorem code_open.calls (A0 : Option Addr) (c0 : Nat) (l0 : List Int) (w : World) (hr0 : Kd.C (Kd.int .u8) w A0 l0.length l0) (hc0 : l0.length ≤ c0) (h : l0.length < 140737488355328) :
    Calls Try.prog 14 #[.slice A0 l0.length c0] w fun e w' => ∃ (g_ : Nat) (wb : World), e = .returned (.agg #[.pointer (some ⟨g_, 0, none⟩)]) ∧ IsS66 wb w' g_ l0 0 0 0 ∧ Below wb.heap.size wb w' ∧ Below w.heap.size w wb := by
  have HR := Aside0.mk hr0
  have HC := Aside0.mk hc0
  have HB := Aside0.mk (Below.refl w.heap.size w)
  have HNR := Aside0.mk (show field_NewReader.f l0 = some (l0, 0, 0, 0) by unfold field_NewReader.f; rw [if_pos h])
  clear hr0 hc0 h
  go_enter Try.func14, Try.ntmps14
  go_wp2_with (first | ((with_reducible refine gate_dst (N := 2) rfl ?_); refine box_event ?hg (N := 2) ?hd (cs := #[.pointer none]) (t := 46) ?hr ?_; (case hd => rfl); (case hg => rfl); (case hr => first | (go_simp; done) | (go_simp; rfl)); intro g2 hg w1 hbox hb; have HB1 := Aside0.mk (below_step HB.out hb); have B1 := Aside0.mk hbox; have GE := Aside0.mk (show w.heap.size ≤ g2 by rw [hg]; exact Nat.le_refl _); clear hb hbox hg; have hc1 : w1.cell? ⟨g2, 0, none⟩ = some (.pointer none) := (blk_cell B1.out 0).trans rfl; have hf1 := blk_frozen B1.out 0) | (go_at_call 28; refine (field_NewReader.calls A0 c0 l0 l0 0 0 0 w1 w1 (Below.refl _ _) (Kd.C_below HR.out HB1.out) HC.out HNR.out).mono ?_; rintro e w2 ⟨gr, wb, rfl, hi, hb, hb2, hb3⟩; have HI2 := Aside0.mk hi; have HB2 := Aside0.mk hb; have HW2 := Aside0.mk hb3; have B2 := Aside0.mk (blk_below B1.out hb2); have BW := Aside0.mk (blk_below B1.out hb3); have NE := Aside0.mk (show gr ≠ g2 by have := hi.ge; have := blk_lt BW.out; omega); clear hi hb hb2 hb3; have hc2 : w2.cell? ⟨g2, 0, none⟩ = some (.pointer none) := (blk_cell B2.out 0).trans rfl; have hf2 := blk_frozen B2.out 0))
  refine bodyPost_ret (results_cell_row rfl _ _ g2 46 #[.pointer (some ⟨gr, 0, none⟩)] (0, 0) _ rfl (blk_put B2.out 0 (.pointer (some ⟨gr, 0, none⟩)) rfl) Try.underlying46 rfl (by kernel_rfl)) rfl ?_
  exact ⟨gr, wb.setCell ⟨g2, 0, none⟩ (.pointer (some ⟨gr, 0, none⟩)), rfl, isR_both (p := ⟨g2, 0, none⟩) HI2.out NE.out ((blk_cell BW.out 0).trans rfl) (by intro x_ h_; cases h_) _, below_both HB2.out, below_set (below_step HB1.out HW2.out) GE.out⟩

def code_TakeSaga.f (l0 : List Int) : Option (Int × ByteArray × Int × Int × Int × Int × Bool × Int × Int × Int × Int) :=
  if l0.length < 140737488355328 then
    (field_Reader_Num.f l0 0 0 0).bind fun q1 => (field_Reader_Text.f l0 q1.2.1 q1.2.2.1 q1.2.2.2 256).bind fun q2 => (field_Reader_Num.f l0 q2.2.1 q2.2.2.1 q2.2.2.2).bind fun q3 => (field_Reader_Num.f l0 q3.2.1 q3.2.2.1 q3.2.2.2).bind fun q4 =>
    (field_Reader_Num.f l0 q4.2.1 q4.2.2.1 q4.2.2.2).bind fun q5 => (field_Reader_Num.f l0 q5.2.1 q5.2.2.1 q5.2.2.2).bind fun q6 => (field_Reader_Flag.f l0 q6.2.1 q6.2.2.1 q6.2.2.2).bind fun q7 => (field_Reader_Num.f l0 q7.2.1 q7.2.2.1 q7.2.2.2).bind fun q8 =>
    (field_Reader_Num.f l0 q8.2.1 q8.2.2.1 q8.2.2.2).bind fun q9 => (field_Reader_End.f 1 l0 q9.2.1 q9.2.2.1 q9.2.2.2).bind fun q10 =>
    if q10.1 = true then some (q1.1, q2.1, q3.1, q4.1, q5.1, q6.1, q7.1, q8.1, q9.1, 0, 0) else some (0, (⟨#[]⟩ : ByteArray), 0, 0, 0, 0, false, 0, 0, q10.2.2.1, q10.2.2.2)
  else none

set_option maxHeartbeats 4000000 in
set_option maxRecDepth 100000 in
theorem code_TakeSaga.calls (A0 : Option Addr) (c0 : Nat) (l0 : List Int) (r1 : Int) (r2 : ByteArray) (r3 : Int) (r4 : Int) (r5 : Int) (r6 : Int) (r7 : Bool) (r8 : Int) (r9 : Int) (r10 : Int) (r11 : Int) (w : World) (hr0 : Kd.C (Kd.int .u8) w A0 l0.length l0) (hc0 : l0.length ≤ c0) (h : code_TakeSaga.f l0 = some (r1, r2, r3, r4, r5, r6, r7, r8, r9, r10, r11)) :
    Calls Try.prog 6 #[.slice A0 l0.length c0] w fun e w' => e = .returned (.tuple #[.agg #[.int .i64 r1, .string r2, .int .i64 r3, .int .i64 r4, .int .i64 r5, .int .i64 r6, .bool r7, .int .i64 r8, .int .i64 r9], .int .i64 r10, .int .i64 r11]) ∧ Below w.heap.size w w' := by
  unfold code_TakeSaga.f at h
  by_cases hl : l0.length < 140737488355328
  · rw [if_pos hl] at h
    have HL := Aside0.mk hl
    have HR := Aside0.mk hr0
    have HCC := Aside0.mk hc0
    have HB := Aside0.mk (Below.refl w.heap.size w)
    clear hl hr0 hc0
    obtain ⟨⟨x1, a1, b1, c1⟩, hA, h⟩ := Option.bind_eq_some_iff.1 h
    try dsimp only at hA
    have A1 := Aside0.mk hA
    clear hA
    obtain ⟨⟨x2, a2, b2, c2⟩, hA, h⟩ := Option.bind_eq_some_iff.1 h
    try dsimp only at hA
    have A2 := Aside0.mk hA
    clear hA
    obtain ⟨⟨x3, a3, b3, c3⟩, hA, h⟩ := Option.bind_eq_some_iff.1 h
    try dsimp only at hA
    have A3 := Aside0.mk hA
    clear hA
    obtain ⟨⟨x4, a4, b4, c4⟩, hA, h⟩ := Option.bind_eq_some_iff.1 h
    try dsimp only at hA
    have A4 := Aside0.mk hA
    clear hA
    obtain ⟨⟨x5, a5, b5, c5⟩, hA, h⟩ := Option.bind_eq_some_iff.1 h
    try dsimp only at hA
    have A5 := Aside0.mk hA
    clear hA
    obtain ⟨⟨x6, a6, b6, c6⟩, hA, h⟩ := Option.bind_eq_some_iff.1 h
    try dsimp only at hA
    have A6 := Aside0.mk hA
    clear hA
    obtain ⟨⟨x7, a7, b7, c7⟩, hA, h⟩ := Option.bind_eq_some_iff.1 h
    try dsimp only at hA
    have A7 := Aside0.mk hA
    clear hA
    obtain ⟨⟨x8, a8, b8, c8⟩, hA, h⟩ := Option.bind_eq_some_iff.1 h
    try dsimp only at hA
    have A8 := Aside0.mk hA
    clear hA
    obtain ⟨⟨x9, a9, b9, c9⟩, hA, h⟩ := Option.bind_eq_some_iff.1 h
    try dsimp only at hA
    have A9 := Aside0.mk hA
    clear hA
    obtain ⟨⟨x10, a10, b10, c10⟩, hA, h⟩ := Option.bind_eq_some_iff.1 h
    try dsimp only at hA
    have A10 := Aside0.mk hA
    clear hA
    dsimp only at h
    go_enter Try.func6, Try.ntmps6
    go_upto_region 2 with (first | ((with_reducible refine gate_dst (N := 2) rfl ?_); refine box_event ?hg (N := 2) ?hd (cs := #[.int .i64 0, .string (⟨#[]⟩ : ByteArray), .int .i64 0, .int .i64 0, .int .i64 0, .int .i64 0, .bool false, .int .i64 0, .int .i64 0]) (t := 23) ?hr ?_; (case hd => rfl); (case hg => rfl); (case hr => first | (go_simp; done) | (go_simp; rfl)); intro g2 hg w0 hbox hb; have HBa := Aside0.mk (below_step HB.out hb); have Ba := Aside0.mk hbox; have GE2 := Aside0.mk (show w.heap.size ≤ g2 by rw [hg]; exact Nat.le_refl _); clear hb hbox hg) | (go_at_call 14; refine (code_open.calls A0 c0 l0 w0 (Kd.C_below HR.out HBa.out) HCC.out HL.out).mono ?_; rintro e w1 ⟨gr, wb, rfl, hi, hb, hb3⟩; have HIb := Aside0.mk hi; have HBb := Aside0.mk hb; have HW2 := Aside0.mk (below_step HBa.out hb3); have BW2 := Aside0.mk (blk_below Ba.out hb3); have NE2 := Aside0.mk (show gr ≠ g2 by have := hi.ge; have := blk_lt BW2.out; omega); clear hi hb hb3) | ((with_reducible refine gate_dst (N := 5) rfl ?_); refine box_event ?hg (N := 5) ?hd (cs := #[.pointer none]) (t := 46) ?hr ?_; (case hd => rfl); (case hg => rfl); (case hr => first | (go_simp; done) | (go_simp; rfl)); intro g5 hg w1b hbox hb; have HIc := Aside0.mk (IsS66.below HIb.out hb); have HBc := Aside0.mk (below_step HBb.out hb); have Bc := Aside0.mk hbox; have GE5 := Aside0.mk (show wb.heap.size ≤ g5 by rw [hg]; exact HBb.out.size); have NE5 := Aside0.mk (show g5 ≠ gr by rw [hg]; exact Nat.ne_of_gt (IsS66.lt HIb.out)); have NE52 := Aside0.mk (show g5 ≠ g2 by have := GE5.out; have := blk_lt BW2.out; omega); clear hb hbox hg; have hcc : w1b.cell? ⟨g5, 0, none⟩ = some (.pointer none) := (blk_cell Bc.out 0).trans rfl; have hfc := blk_frozen Bc.out 0))
    have HI2 := Aside0.mk (IsS66.far (p := ⟨g5, 0, none⟩) HIc.out NE5.out.symm (.pointer (some ⟨gr, 0, none⟩)))
    have HB2 := Aside0.mk (below_set (j := 0) (v := .pointer (some ⟨gr, 0, none⟩)) HBc.out GE5.out)
    have B52 := Aside0.mk (blk_put Bc.out 0 (.pointer (some ⟨gr, 0, none⟩)) rfl)
    clear hcc hfc HIb HBb HIc HBc Bc
    generalize (w1b.setCell ⟨g5, 0, none⟩ (.pointer (some ⟨gr, 0, none⟩))) = w2 at *
    have HC := Aside0.mk (show w2.drew.cell? ⟨g5, 0, none⟩ = some (.pointer (some ⟨gr, 0, none⟩)) from (blk_cell B52.out 0).trans rfl)
    refine start_ (n := 10) (S := fun w' => w'.cell? ⟨g5, 0, none⟩ = some (.pointer (some ⟨gr, 0, none⟩))) (ds := [7, 9]) #[false, false, false, false, false, false, false, false, false, false] (by kernel_rfl) rfl rfl (HC.out) (fun hHeld => ?_)
    refine pure_ (i := 0) (N := some 8) (v := ?_) (a' := ?_) #[true, false, false, false, false, false, false, false, false, false] rfl rfl (by kernel_rfl) (fun _ _ _ h => h) (Or.inl ⟨by rfl, ?_⟩) ?_ ?_
    rotate_left
    · intro w'
      go_simp
      with_reducible rfl
    rotate_left
    · simp only [Act.put, List.setIfInBounds_toArray, List.set_cons_zero, List.set_cons_succ, i64_w, i32_w]
      rfl
    refine pure_ (i := 3) (N := some 11) (v := ?_) (a' := ?_) #[true, false, false, true, false, false, false, false, false, false] rfl rfl (by kernel_rfl) (fun _ _ _ h => h) (Or.inl ⟨by rfl, ?_⟩) ?_ ?_
    rotate_left
    · intro w'
      go_simp
      with_reducible rfl
    rotate_left
    · simp only [Act.put, List.setIfInBounds_toArray, List.set_cons_zero, List.set_cons_succ, i64_w, i32_w]
      rfl
    refine take_ (i := 1) (N := some 9) (v := ?_) (a' := ?_) #[true, true, false, true, false, false, false, false, false, false] rfl rfl (by kernel_rfl) (fun _ _ _ h => h) (Or.inl ⟨by rfl, ?_⟩) hHeld ?_ ?_
    rotate_left
    · intro w' s0
      go_simp
      with_reducible rfl
    rotate_left
    · simp only [Act.put, List.setIfInBounds_toArray, List.set_cons_zero, List.set_cons_succ, i64_w, i32_w]
      rfl
    refine take_ (i := 4) (N := some 12) (v := ?_) (a' := ?_) #[true, true, false, true, true, false, false, false, false, false] rfl rfl (by kernel_rfl) (fun _ _ _ h => h) (Or.inl ⟨by rfl, ?_⟩) hHeld ?_ ?_
    rotate_left
    · intro w' s0
      go_simp
      with_reducible rfl
    rotate_left
    · simp only [Act.put, List.setIfInBounds_toArray, List.set_cons_zero, List.set_cons_succ, i64_w, i32_w]
      rfl
    refine one_ (i := 2) (N := some 10) #[true, true, true, true, true, false, false, false, false, false] rfl rfl (by kernel_rfl) (by decide) (fun K hK => ?_)
    refine goes_ Try.func15 (by kernel_rfl) rfl #[.pointer (some ⟨gr, 0, none⟩)] (by rfl) rfl rfl (by simp only [List.map_toArray, List.map_cons, List.map_nil]; rfl) ?_
    with_reducible refine (field_Reader_Num.calls gr l0 _ _ _ _ _ _ _ wb _ (IsS66.drew HI2.out) (below_drew1 HB2.out) A1.out).mono ?_
    rintro e w2_1 ⟨rfl, hi, hb, hk⟩
    refine ⟨_, rfl, ?_⟩
    have HI2_1 := Aside0.mk hi
    have HB2_1 := Aside0.mk hb
    have B52_1 := Aside0.mk (KeepBut.blk hk (show w2.drew.heap[g5]? = _ from B52.out) NE5.out (by simp))
    have HC2_1 := Aside0.mk (show w2_1.cell? ⟨g5, 0, none⟩ = some (.pointer (some ⟨gr, 0, none⟩)) from (blk_cell B52_1.out 0).trans rfl)
    clear hi hb hk
    refine hK.out _ _ (HC2_1.out) (fun hHeld => ?_)
    clear hK K
    refine norm_ (a' := ?_) ?_ ?_
    rotate_left
    · show Act.put _ (some 10) _ = _
      simp only [Act.put, List.setIfInBounds_toArray, List.set_cons_zero, List.set_cons_succ, i64_w, i32_w]
      rfl
    refine pure_ (i := 6) (N := some 14) (v := ?_) (a' := ?_) #[true, true, true, true, true, false, true, false, false, false] rfl rfl (by kernel_rfl) (fun _ _ _ h => h) (Or.inl ⟨by rfl, ?_⟩) ?_ ?_
    rotate_left
    · intro w'
      go_simp
      with_reducible rfl
    rotate_left
    · simp only [Act.put, List.setIfInBounds_toArray, List.set_cons_zero, List.set_cons_succ, i64_w, i32_w]
      rfl
    refine one_ (i := 5) (N := some 13) #[true, true, true, true, true, true, true, false, false, false] rfl rfl (by kernel_rfl) (by decide) (fun K hK => ?_)
    refine goes_ Try.func16 (by kernel_rfl) rfl #[.pointer (some ⟨gr, 0, none⟩), .int .i64 256] (by rfl) rfl rfl (by simp only [List.map_toArray, List.map_cons, List.map_nil]; rfl) ?_
    with_reducible refine (field_Reader_Text.calls gr l0 _ _ _ 256 _ _ _ _ wb _ HI2_1.out HB2_1.out A2.out).mono ?_
    rintro e w2_2 ⟨rfl, hi, hb, hk⟩
    refine ⟨_, rfl, ?_⟩
    have HI2_2 := Aside0.mk hi
    have HB2_2 := Aside0.mk hb
    have B52_2 := Aside0.mk (KeepBut.blk hk (show w2_1.heap[g5]? = _ from B52_1.out) NE5.out (by simp))
    have HC2_2 := Aside0.mk (show w2_2.cell? ⟨g5, 0, none⟩ = some (.pointer (some ⟨gr, 0, none⟩)) from (blk_cell B52_2.out 0).trans rfl)
    clear hi hb hk
    have BR := Aside0.mk ((HB2_2.out.block g2 (blk_lt BW2.out)).trans BW2.out)
    have hc_0 := (blk_cell BR.out 0).trans rfl
    have hf_0 := blk_frozen BR.out 0
    have hc_1 := (blk_cell BR.out 1).trans rfl
    have hf_1 := blk_frozen BR.out 1
    have hc_2 := (blk_cell BR.out 2).trans rfl
    have hf_2 := blk_frozen BR.out 2
    have hc_3 := (blk_cell BR.out 3).trans rfl
    have hf_3 := blk_frozen BR.out 3
    have hc_4 := (blk_cell BR.out 4).trans rfl
    have hf_4 := blk_frozen BR.out 4
    have hc_5 := (blk_cell BR.out 5).trans rfl
    have hf_5 := blk_frozen BR.out 5
    have hc_6 := (blk_cell BR.out 6).trans rfl
    have hf_6 := blk_frozen BR.out 6
    have hc_7 := (blk_cell BR.out 7).trans rfl
    have hf_7 := blk_frozen BR.out 7
    have hc_8 := (blk_cell BR.out 8).trans rfl
    have hf_8 := blk_frozen BR.out 8
    refine hK.out _ _ HC2_2.out (fun hHeld => ?_)
    clear hK K
    refine norm_ (a' := ?_) ?_ ?_
    rotate_left
    · show Act.put _ (some 13) _ = _
      simp only [Act.put, List.setIfInBounds_toArray, List.set_cons_zero, List.set_cons_succ, i64_w, i32_w]
      rfl
    refine last_ (i := 7) (N := none) #[true, true, true, true, true, true, true, true, false, false] rfl rfl (by kernel_rfl) (by decide) (fun K hK => ?_)
    refine skip_ (w1 := ?_) (by rfl) rfl ?_ ?_
    rotate_left
    · go_simp
      rfl
    refine hK.out _ _ ?_
    clear hK K
    refine pure_ (i := 8) (N := some 15) (v := ?_) (a' := ?_) #[true, true, true, true, true, true, true, true, true, false] rfl rfl (by kernel_rfl) (fun _ _ _ h => h) (Or.inl ⟨by rfl, ?_⟩) ?_ ?_
    rotate_left
    · intro w'
      go_simp
      with_reducible rfl
    rotate_left
    · simp only [Act.put, List.setIfInBounds_toArray, List.set_cons_zero, List.set_cons_succ, i64_w, i32_w]
      rfl
    refine last_ (i := 9) (N := none) #[true, true, true, true, true, true, true, true, true, true] rfl rfl (by kernel_rfl) (by decide) (fun K hK => ?_)
    refine skip_ (w1 := ?_) (by rfl) rfl ?_ ?_
    rotate_left
    · go_simp
      rfl
    refine hK.out _ _ ?_
    clear hK K
    refine done_ (by kernel_rfl) ?_
    go_upto_region 3 with (fail)
    have hi := (isR_both (p := ⟨g2, 1, none⟩) (isR_both (p := ⟨g2, 0, none⟩) HI2_2.out NE2.out ((blk_cell BW2.out 0).trans rfl) (by intro x_ h_; cases h_) (.int .i64 x1)) NE2.out ((blk_cell (blk_put (cs' := #[.int .i64 x1, .string (⟨#[]⟩ : ByteArray), .int .i64 0, .int .i64 0, .int .i64 0, .int .i64 0, .bool false, .int .i64 0, .int .i64 0]) BW2.out 0 (.int .i64 x1) rfl) 1).trans rfl) (by intro x_ h_; cases h_) (.string x2))
    have hb := (below_both (p := ⟨g2, 1, none⟩) (v := .string x2) (below_both (p := ⟨g2, 0, none⟩) (v := .int .i64 x1) HB2_2.out))
    have hw := (below_set (g := g2) (j := 1) (v := .string x2) (below_set (g := g2) (j := 0) (v := .int .i64 x1) HW2.out GE2.out) GE2.out)
    have bw := (blk_put (cs' := #[.int .i64 x1, .string x2, .int .i64 0, .int .i64 0, .int .i64 0, .int .i64 0, .bool false, .int .i64 0, .int .i64 0]) (blk_put (cs' := #[.int .i64 x1, .string (⟨#[]⟩ : ByteArray), .int .i64 0, .int .i64 0, .int .i64 0, .int .i64 0, .bool false, .int .i64 0, .int .i64 0]) BW2.out 0 (.int .i64 x1) rfl) 1 (.string x2) rfl)
    have b5 := (blk_far (p := ⟨g2, 1, none⟩) (blk_far (p := ⟨g2, 0, none⟩) B52_2.out NE52.out (.int .i64 x1)) NE52.out (.string x2))
    try clear BR hc_0 hc_1 hc_2 hc_3 hc_4 hc_5 hc_6 hc_7 hc_8 hf_0 hf_1 hf_2 hf_3 hf_4 hf_5 hf_6 hf_7 hf_8
    generalize ((w2_2.setCell ⟨g2, 0, none⟩ (.int .i64 x1)).setCell ⟨g2, 1, none⟩ (.string x2)) = w3 at *
    generalize ((wb.setCell ⟨g2, 0, none⟩ (.int .i64 x1)).setCell ⟨g2, 1, none⟩ (.string x2)) = wb3 at *
    have HI3 := Aside0.mk hi
    have HB3 := Aside0.mk hb
    have HW3 := Aside0.mk hw
    have BW3 := Aside0.mk bw
    have B53 := Aside0.mk b5
    clear hi hb hw bw b5
    have HC := Aside0.mk (show w3.drew.cell? ⟨g5, 0, none⟩ = some (.pointer (some ⟨gr, 0, none⟩)) from (blk_cell B53.out 0).trans rfl)
    refine start_ (n := 10) (S := fun w' => w'.cell? ⟨g5, 0, none⟩ = some (.pointer (some ⟨gr, 0, none⟩))) (ds := [7, 9]) #[false, false, false, false, false, false, false, false, false, false] (by kernel_rfl) rfl rfl (HC.out) (fun hHeld => ?_)
    refine pure_ (i := 0) (N := some 16) (v := ?_) (a' := ?_) #[true, false, false, false, false, false, false, false, false, false] rfl rfl (by kernel_rfl) (fun _ _ _ h => h) (Or.inl ⟨by rfl, ?_⟩) ?_ ?_
    rotate_left
    · intro w'
      go_simp
      with_reducible rfl
    rotate_left
    · simp only [Act.put, List.setIfInBounds_toArray, List.set_cons_zero, List.set_cons_succ, i64_w, i32_w]
      rfl
    refine pure_ (i := 3) (N := some 19) (v := ?_) (a' := ?_) #[true, false, false, true, false, false, false, false, false, false] rfl rfl (by kernel_rfl) (fun _ _ _ h => h) (Or.inl ⟨by rfl, ?_⟩) ?_ ?_
    rotate_left
    · intro w'
      go_simp
      with_reducible rfl
    rotate_left
    · simp only [Act.put, List.setIfInBounds_toArray, List.set_cons_zero, List.set_cons_succ, i64_w, i32_w]
      rfl
    refine take_ (i := 1) (N := some 17) (v := ?_) (a' := ?_) #[true, true, false, true, false, false, false, false, false, false] rfl rfl (by kernel_rfl) (fun _ _ _ h => h) (Or.inl ⟨by rfl, ?_⟩) hHeld ?_ ?_
    rotate_left
    · intro w' s0
      go_simp
      with_reducible rfl
    rotate_left
    · simp only [Act.put, List.setIfInBounds_toArray, List.set_cons_zero, List.set_cons_succ, i64_w, i32_w]
      rfl
    refine take_ (i := 4) (N := some 20) (v := ?_) (a' := ?_) #[true, true, false, true, true, false, false, false, false, false] rfl rfl (by kernel_rfl) (fun _ _ _ h => h) (Or.inl ⟨by rfl, ?_⟩) hHeld ?_ ?_
    rotate_left
    · intro w' s0
      go_simp
      with_reducible rfl
    rotate_left
    · simp only [Act.put, List.setIfInBounds_toArray, List.set_cons_zero, List.set_cons_succ, i64_w, i32_w]
      rfl
    refine one_ (i := 2) (N := some 18) #[true, true, true, true, true, false, false, false, false, false] rfl rfl (by kernel_rfl) (by decide) (fun K hK => ?_)
    refine goes_ Try.func15 (by kernel_rfl) rfl #[.pointer (some ⟨gr, 0, none⟩)] (by rfl) rfl rfl (by simp only [List.map_toArray, List.map_cons, List.map_nil]; rfl) ?_
    with_reducible refine (field_Reader_Num.calls gr l0 _ _ _ _ _ _ _ wb3 _ (IsS66.drew HI3.out) (below_drew1 HB3.out) A3.out).mono ?_
    rintro e w3_1 ⟨rfl, hi, hb, hk⟩
    refine ⟨_, rfl, ?_⟩
    have HI3_1 := Aside0.mk hi
    have HB3_1 := Aside0.mk hb
    have B53_1 := Aside0.mk (KeepBut.blk hk (show w3.drew.heap[g5]? = _ from B53.out) NE5.out (by simp))
    have HC3_1 := Aside0.mk (show w3_1.cell? ⟨g5, 0, none⟩ = some (.pointer (some ⟨gr, 0, none⟩)) from (blk_cell B53_1.out 0).trans rfl)
    clear hi hb hk
    refine hK.out _ _ (HC3_1.out) (fun hHeld => ?_)
    clear hK K
    refine norm_ (a' := ?_) ?_ ?_
    rotate_left
    · show Act.put _ (some 18) _ = _
      simp only [Act.put, List.setIfInBounds_toArray, List.set_cons_zero, List.set_cons_succ, i64_w, i32_w]
      rfl
    refine pure_ (i := 6) (N := some 22) (v := ?_) (a' := ?_) #[true, true, true, true, true, false, true, false, false, false] rfl rfl (by kernel_rfl) (fun _ _ _ h => h) (Or.inl ⟨by rfl, ?_⟩) ?_ ?_
    rotate_left
    · intro w'
      go_simp
      with_reducible rfl
    rotate_left
    · simp only [Act.put, List.setIfInBounds_toArray, List.set_cons_zero, List.set_cons_succ, i64_w, i32_w]
      rfl
    refine one_ (i := 5) (N := some 21) #[true, true, true, true, true, true, true, false, false, false] rfl rfl (by kernel_rfl) (by decide) (fun K hK => ?_)
    refine goes_ Try.func15 (by kernel_rfl) rfl #[.pointer (some ⟨gr, 0, none⟩)] (by rfl) rfl rfl (by simp only [List.map_toArray, List.map_cons, List.map_nil]; rfl) ?_
    with_reducible refine (field_Reader_Num.calls gr l0 _ _ _ _ _ _ _ wb3 _ HI3_1.out HB3_1.out A4.out).mono ?_
    rintro e w3_2 ⟨rfl, hi, hb, hk⟩
    refine ⟨_, rfl, ?_⟩
    have HI3_2 := Aside0.mk hi
    have HB3_2 := Aside0.mk hb
    have B53_2 := Aside0.mk (KeepBut.blk hk (show w3_1.heap[g5]? = _ from B53_1.out) NE5.out (by simp))
    have HC3_2 := Aside0.mk (show w3_2.cell? ⟨g5, 0, none⟩ = some (.pointer (some ⟨gr, 0, none⟩)) from (blk_cell B53_2.out 0).trans rfl)
    clear hi hb hk
    have BR := Aside0.mk ((HB3_2.out.block g2 (blk_lt BW3.out)).trans BW3.out)
    have hc_0 := (blk_cell BR.out 0).trans rfl
    have hf_0 := blk_frozen BR.out 0
    have hc_1 := (blk_cell BR.out 1).trans rfl
    have hf_1 := blk_frozen BR.out 1
    have hc_2 := (blk_cell BR.out 2).trans rfl
    have hf_2 := blk_frozen BR.out 2
    have hc_3 := (blk_cell BR.out 3).trans rfl
    have hf_3 := blk_frozen BR.out 3
    have hc_4 := (blk_cell BR.out 4).trans rfl
    have hf_4 := blk_frozen BR.out 4
    have hc_5 := (blk_cell BR.out 5).trans rfl
    have hf_5 := blk_frozen BR.out 5
    have hc_6 := (blk_cell BR.out 6).trans rfl
    have hf_6 := blk_frozen BR.out 6
    have hc_7 := (blk_cell BR.out 7).trans rfl
    have hf_7 := blk_frozen BR.out 7
    have hc_8 := (blk_cell BR.out 8).trans rfl
    have hf_8 := blk_frozen BR.out 8
    refine hK.out _ _ HC3_2.out (fun hHeld => ?_)
    clear hK K
    refine norm_ (a' := ?_) ?_ ?_
    rotate_left
    · show Act.put _ (some 21) _ = _
      simp only [Act.put, List.setIfInBounds_toArray, List.set_cons_zero, List.set_cons_succ, i64_w, i32_w]
      rfl
    refine last_ (i := 7) (N := none) #[true, true, true, true, true, true, true, true, false, false] rfl rfl (by kernel_rfl) (by decide) (fun K hK => ?_)
    refine skip_ (w1 := ?_) (by rfl) rfl ?_ ?_
    rotate_left
    · go_simp
      rfl
    refine hK.out _ _ ?_
    clear hK K
    refine pure_ (i := 8) (N := some 23) (v := ?_) (a' := ?_) #[true, true, true, true, true, true, true, true, true, false] rfl rfl (by kernel_rfl) (fun _ _ _ h => h) (Or.inl ⟨by rfl, ?_⟩) ?_ ?_
    rotate_left
    · intro w'
      go_simp
      with_reducible rfl
    rotate_left
    · simp only [Act.put, List.setIfInBounds_toArray, List.set_cons_zero, List.set_cons_succ, i64_w, i32_w]
      rfl
    refine last_ (i := 9) (N := none) #[true, true, true, true, true, true, true, true, true, true] rfl rfl (by kernel_rfl) (by decide) (fun K hK => ?_)
    refine skip_ (w1 := ?_) (by rfl) rfl ?_ ?_
    rotate_left
    · go_simp
      rfl
    refine hK.out _ _ ?_
    clear hK K
    refine done_ (by kernel_rfl) ?_
    go_upto_region 4 with (fail)
    have hi := (isR_both (p := ⟨g2, 3, none⟩) (isR_both (p := ⟨g2, 2, none⟩) HI3_2.out NE2.out ((blk_cell BW3.out 2).trans rfl) (by intro x_ h_; cases h_) (.int .i64 x3)) NE2.out ((blk_cell (blk_put (cs' := #[.int .i64 x1, .string x2, .int .i64 x3, .int .i64 0, .int .i64 0, .int .i64 0, .bool false, .int .i64 0, .int .i64 0]) BW3.out 2 (.int .i64 x3) rfl) 3).trans rfl) (by intro x_ h_; cases h_) (.int .i64 x4))
    have hb := (below_both (p := ⟨g2, 3, none⟩) (v := .int .i64 x4) (below_both (p := ⟨g2, 2, none⟩) (v := .int .i64 x3) HB3_2.out))
    have hw := (below_set (g := g2) (j := 3) (v := .int .i64 x4) (below_set (g := g2) (j := 2) (v := .int .i64 x3) HW3.out GE2.out) GE2.out)
    have bw := (blk_put (cs' := #[.int .i64 x1, .string x2, .int .i64 x3, .int .i64 x4, .int .i64 0, .int .i64 0, .bool false, .int .i64 0, .int .i64 0]) (blk_put (cs' := #[.int .i64 x1, .string x2, .int .i64 x3, .int .i64 0, .int .i64 0, .int .i64 0, .bool false, .int .i64 0, .int .i64 0]) BW3.out 2 (.int .i64 x3) rfl) 3 (.int .i64 x4) rfl)
    have b5 := (blk_far (p := ⟨g2, 3, none⟩) (blk_far (p := ⟨g2, 2, none⟩) B53_2.out NE52.out (.int .i64 x3)) NE52.out (.int .i64 x4))
    try clear BR hc_0 hc_1 hc_2 hc_3 hc_4 hc_5 hc_6 hc_7 hc_8 hf_0 hf_1 hf_2 hf_3 hf_4 hf_5 hf_6 hf_7 hf_8
    generalize ((w3_2.setCell ⟨g2, 2, none⟩ (.int .i64 x3)).setCell ⟨g2, 3, none⟩ (.int .i64 x4)) = w4 at *
    generalize ((wb3.setCell ⟨g2, 2, none⟩ (.int .i64 x3)).setCell ⟨g2, 3, none⟩ (.int .i64 x4)) = wb4 at *
    have HI4 := Aside0.mk hi
    have HB4 := Aside0.mk hb
    have HW4 := Aside0.mk hw
    have BW4 := Aside0.mk bw
    have B54 := Aside0.mk b5
    clear hi hb hw bw b5
    have HC := Aside0.mk (show w4.drew.cell? ⟨g5, 0, none⟩ = some (.pointer (some ⟨gr, 0, none⟩)) from (blk_cell B54.out 0).trans rfl)
    refine start_ (n := 10) (S := fun w' => w'.cell? ⟨g5, 0, none⟩ = some (.pointer (some ⟨gr, 0, none⟩))) (ds := [7, 9]) #[false, false, false, false, false, false, false, false, false, false] (by kernel_rfl) rfl rfl (HC.out) (fun hHeld => ?_)
    refine pure_ (i := 0) (N := some 24) (v := ?_) (a' := ?_) #[true, false, false, false, false, false, false, false, false, false] rfl rfl (by kernel_rfl) (fun _ _ _ h => h) (Or.inl ⟨by rfl, ?_⟩) ?_ ?_
    rotate_left
    · intro w'
      go_simp
      with_reducible rfl
    rotate_left
    · simp only [Act.put, List.setIfInBounds_toArray, List.set_cons_zero, List.set_cons_succ, i64_w, i32_w]
      rfl
    refine pure_ (i := 3) (N := some 27) (v := ?_) (a' := ?_) #[true, false, false, true, false, false, false, false, false, false] rfl rfl (by kernel_rfl) (fun _ _ _ h => h) (Or.inl ⟨by rfl, ?_⟩) ?_ ?_
    rotate_left
    · intro w'
      go_simp
      with_reducible rfl
    rotate_left
    · simp only [Act.put, List.setIfInBounds_toArray, List.set_cons_zero, List.set_cons_succ, i64_w, i32_w]
      rfl
    refine take_ (i := 1) (N := some 25) (v := ?_) (a' := ?_) #[true, true, false, true, false, false, false, false, false, false] rfl rfl (by kernel_rfl) (fun _ _ _ h => h) (Or.inl ⟨by rfl, ?_⟩) hHeld ?_ ?_
    rotate_left
    · intro w' s0
      go_simp
      with_reducible rfl
    rotate_left
    · simp only [Act.put, List.setIfInBounds_toArray, List.set_cons_zero, List.set_cons_succ, i64_w, i32_w]
      rfl
    refine take_ (i := 4) (N := some 28) (v := ?_) (a' := ?_) #[true, true, false, true, true, false, false, false, false, false] rfl rfl (by kernel_rfl) (fun _ _ _ h => h) (Or.inl ⟨by rfl, ?_⟩) hHeld ?_ ?_
    rotate_left
    · intro w' s0
      go_simp
      with_reducible rfl
    rotate_left
    · simp only [Act.put, List.setIfInBounds_toArray, List.set_cons_zero, List.set_cons_succ, i64_w, i32_w]
      rfl
    refine one_ (i := 2) (N := some 26) #[true, true, true, true, true, false, false, false, false, false] rfl rfl (by kernel_rfl) (by decide) (fun K hK => ?_)
    refine goes_ Try.func15 (by kernel_rfl) rfl #[.pointer (some ⟨gr, 0, none⟩)] (by rfl) rfl rfl (by simp only [List.map_toArray, List.map_cons, List.map_nil]; rfl) ?_
    with_reducible refine (field_Reader_Num.calls gr l0 _ _ _ _ _ _ _ wb4 _ (IsS66.drew HI4.out) (below_drew1 HB4.out) A5.out).mono ?_
    rintro e w4_1 ⟨rfl, hi, hb, hk⟩
    refine ⟨_, rfl, ?_⟩
    have HI4_1 := Aside0.mk hi
    have HB4_1 := Aside0.mk hb
    have B54_1 := Aside0.mk (KeepBut.blk hk (show w4.drew.heap[g5]? = _ from B54.out) NE5.out (by simp))
    have HC4_1 := Aside0.mk (show w4_1.cell? ⟨g5, 0, none⟩ = some (.pointer (some ⟨gr, 0, none⟩)) from (blk_cell B54_1.out 0).trans rfl)
    clear hi hb hk
    refine hK.out _ _ (HC4_1.out) (fun hHeld => ?_)
    clear hK K
    refine norm_ (a' := ?_) ?_ ?_
    rotate_left
    · show Act.put _ (some 26) _ = _
      simp only [Act.put, List.setIfInBounds_toArray, List.set_cons_zero, List.set_cons_succ, i64_w, i32_w]
      rfl
    refine pure_ (i := 6) (N := some 30) (v := ?_) (a' := ?_) #[true, true, true, true, true, false, true, false, false, false] rfl rfl (by kernel_rfl) (fun _ _ _ h => h) (Or.inl ⟨by rfl, ?_⟩) ?_ ?_
    rotate_left
    · intro w'
      go_simp
      with_reducible rfl
    rotate_left
    · simp only [Act.put, List.setIfInBounds_toArray, List.set_cons_zero, List.set_cons_succ, i64_w, i32_w]
      rfl
    refine one_ (i := 5) (N := some 29) #[true, true, true, true, true, true, true, false, false, false] rfl rfl (by kernel_rfl) (by decide) (fun K hK => ?_)
    refine goes_ Try.func15 (by kernel_rfl) rfl #[.pointer (some ⟨gr, 0, none⟩)] (by rfl) rfl rfl (by simp only [List.map_toArray, List.map_cons, List.map_nil]; rfl) ?_
    with_reducible refine (field_Reader_Num.calls gr l0 _ _ _ _ _ _ _ wb4 _ HI4_1.out HB4_1.out A6.out).mono ?_
    rintro e w4_2 ⟨rfl, hi, hb, hk⟩
    refine ⟨_, rfl, ?_⟩
    have HI4_2 := Aside0.mk hi
    have HB4_2 := Aside0.mk hb
    have B54_2 := Aside0.mk (KeepBut.blk hk (show w4_1.heap[g5]? = _ from B54_1.out) NE5.out (by simp))
    have HC4_2 := Aside0.mk (show w4_2.cell? ⟨g5, 0, none⟩ = some (.pointer (some ⟨gr, 0, none⟩)) from (blk_cell B54_2.out 0).trans rfl)
    clear hi hb hk
    have BR := Aside0.mk ((HB4_2.out.block g2 (blk_lt BW4.out)).trans BW4.out)
    have hc_0 := (blk_cell BR.out 0).trans rfl
    have hf_0 := blk_frozen BR.out 0
    have hc_1 := (blk_cell BR.out 1).trans rfl
    have hf_1 := blk_frozen BR.out 1
    have hc_2 := (blk_cell BR.out 2).trans rfl
    have hf_2 := blk_frozen BR.out 2
    have hc_3 := (blk_cell BR.out 3).trans rfl
    have hf_3 := blk_frozen BR.out 3
    have hc_4 := (blk_cell BR.out 4).trans rfl
    have hf_4 := blk_frozen BR.out 4
    have hc_5 := (blk_cell BR.out 5).trans rfl
    have hf_5 := blk_frozen BR.out 5
    have hc_6 := (blk_cell BR.out 6).trans rfl
    have hf_6 := blk_frozen BR.out 6
    have hc_7 := (blk_cell BR.out 7).trans rfl
    have hf_7 := blk_frozen BR.out 7
    have hc_8 := (blk_cell BR.out 8).trans rfl
    have hf_8 := blk_frozen BR.out 8
    refine hK.out _ _ HC4_2.out (fun hHeld => ?_)
    clear hK K
    refine norm_ (a' := ?_) ?_ ?_
    rotate_left
    · show Act.put _ (some 29) _ = _
      simp only [Act.put, List.setIfInBounds_toArray, List.set_cons_zero, List.set_cons_succ, i64_w, i32_w]
      rfl
    refine last_ (i := 7) (N := none) #[true, true, true, true, true, true, true, true, false, false] rfl rfl (by kernel_rfl) (by decide) (fun K hK => ?_)
    refine skip_ (w1 := ?_) (by rfl) rfl ?_ ?_
    rotate_left
    · go_simp
      rfl
    refine hK.out _ _ ?_
    clear hK K
    refine pure_ (i := 8) (N := some 31) (v := ?_) (a' := ?_) #[true, true, true, true, true, true, true, true, true, false] rfl rfl (by kernel_rfl) (fun _ _ _ h => h) (Or.inl ⟨by rfl, ?_⟩) ?_ ?_
    rotate_left
    · intro w'
      go_simp
      with_reducible rfl
    rotate_left
    · simp only [Act.put, List.setIfInBounds_toArray, List.set_cons_zero, List.set_cons_succ, i64_w, i32_w]
      rfl
    refine last_ (i := 9) (N := none) #[true, true, true, true, true, true, true, true, true, true] rfl rfl (by kernel_rfl) (by decide) (fun K hK => ?_)
    refine skip_ (w1 := ?_) (by rfl) rfl ?_ ?_
    rotate_left
    · go_simp
      rfl
    refine hK.out _ _ ?_
    clear hK K
    refine done_ (by kernel_rfl) ?_
    go_upto_region 5 with (fail)
    have hi := (isR_both (p := ⟨g2, 5, none⟩) (isR_both (p := ⟨g2, 4, none⟩) HI4_2.out NE2.out ((blk_cell BW4.out 4).trans rfl) (by intro x_ h_; cases h_) (.int .i64 x5)) NE2.out ((blk_cell (blk_put (cs' := #[.int .i64 x1, .string x2, .int .i64 x3, .int .i64 x4, .int .i64 x5, .int .i64 0, .bool false, .int .i64 0, .int .i64 0]) BW4.out 4 (.int .i64 x5) rfl) 5).trans rfl) (by intro x_ h_; cases h_) (.int .i64 x6))
    have hb := (below_both (p := ⟨g2, 5, none⟩) (v := .int .i64 x6) (below_both (p := ⟨g2, 4, none⟩) (v := .int .i64 x5) HB4_2.out))
    have hw := (below_set (g := g2) (j := 5) (v := .int .i64 x6) (below_set (g := g2) (j := 4) (v := .int .i64 x5) HW4.out GE2.out) GE2.out)
    have bw := (blk_put (cs' := #[.int .i64 x1, .string x2, .int .i64 x3, .int .i64 x4, .int .i64 x5, .int .i64 x6, .bool false, .int .i64 0, .int .i64 0]) (blk_put (cs' := #[.int .i64 x1, .string x2, .int .i64 x3, .int .i64 x4, .int .i64 x5, .int .i64 0, .bool false, .int .i64 0, .int .i64 0]) BW4.out 4 (.int .i64 x5) rfl) 5 (.int .i64 x6) rfl)
    have b5 := (blk_far (p := ⟨g2, 5, none⟩) (blk_far (p := ⟨g2, 4, none⟩) B54_2.out NE52.out (.int .i64 x5)) NE52.out (.int .i64 x6))
    try clear BR hc_0 hc_1 hc_2 hc_3 hc_4 hc_5 hc_6 hc_7 hc_8 hf_0 hf_1 hf_2 hf_3 hf_4 hf_5 hf_6 hf_7 hf_8
    generalize ((w4_2.setCell ⟨g2, 4, none⟩ (.int .i64 x5)).setCell ⟨g2, 5, none⟩ (.int .i64 x6)) = w5 at *
    generalize ((wb4.setCell ⟨g2, 4, none⟩ (.int .i64 x5)).setCell ⟨g2, 5, none⟩ (.int .i64 x6)) = wb5 at *
    have HI5 := Aside0.mk hi
    have HB5 := Aside0.mk hb
    have HW5 := Aside0.mk hw
    have BW5 := Aside0.mk bw
    have B55 := Aside0.mk b5
    clear hi hb hw bw b5
    have hz : w5.cell? ⟨g5, 0, none⟩ = some (.pointer (some ⟨gr, 0, none⟩)) := (blk_cell B55.out 0).trans rfl
    go_upto_region 6 with (first | (go_at_call 17; refine (field_Reader_Flag.calls gr l0 _ _ _ _ _ _ _ wb5 _ HI5.out HB5.out A7.out).mono ?_; rintro e w5_2 ⟨rfl, hi, hb, hk⟩; have HI5_2 := Aside0.mk hi; have HB5_2 := Aside0.mk hb; have B55_2 := Aside0.mk (KeepBut.blk hk B55.out NE5.out (by simp)); clear hi hb hk; have BR := Aside0.mk ((HB5_2.out.block g2 (blk_lt BW5.out)).trans BW5.out); have hc_0 := (blk_cell BR.out 0).trans rfl; have hf_0 := blk_frozen BR.out 0; have hc_1 := (blk_cell BR.out 1).trans rfl; have hf_1 := blk_frozen BR.out 1; have hc_2 := (blk_cell BR.out 2).trans rfl; have hf_2 := blk_frozen BR.out 2; have hc_3 := (blk_cell BR.out 3).trans rfl; have hf_3 := blk_frozen BR.out 3; have hc_4 := (blk_cell BR.out 4).trans rfl; have hf_4 := blk_frozen BR.out 4; have hc_5 := (blk_cell BR.out 5).trans rfl; have hf_5 := blk_frozen BR.out 5; have hc_6 := (blk_cell BR.out 6).trans rfl; have hf_6 := blk_frozen BR.out 6; have hc_7 := (blk_cell BR.out 7).trans rfl; have hf_7 := blk_frozen BR.out 7; have hc_8 := (blk_cell BR.out 8).trans rfl; have hf_8 := blk_frozen BR.out 8))
    clear hz
    have hi := (isR_both (p := ⟨g2, 6, none⟩) HI5_2.out NE2.out ((blk_cell BW5.out 6).trans rfl) (by intro x_ h_; cases h_) (.bool x7))
    have hb := (below_both (p := ⟨g2, 6, none⟩) (v := .bool x7) HB5_2.out)
    have hw := (below_set (g := g2) (j := 6) (v := .bool x7) HW5.out GE2.out)
    have bw := (blk_put (cs' := #[.int .i64 x1, .string x2, .int .i64 x3, .int .i64 x4, .int .i64 x5, .int .i64 x6, .bool x7, .int .i64 0, .int .i64 0]) BW5.out 6 (.bool x7) rfl)
    have b5 := (blk_far (p := ⟨g2, 6, none⟩) B55_2.out NE52.out (.bool x7))
    try clear BR hc_0 hc_1 hc_2 hc_3 hc_4 hc_5 hc_6 hc_7 hc_8 hf_0 hf_1 hf_2 hf_3 hf_4 hf_5 hf_6 hf_7 hf_8
    generalize (w5_2.setCell ⟨g2, 6, none⟩ (.bool x7)) = w6 at *
    generalize (wb5.setCell ⟨g2, 6, none⟩ (.bool x7)) = wb6 at *
    have HI6 := Aside0.mk hi
    have HB6 := Aside0.mk hb
    have HW6 := Aside0.mk hw
    have BW6 := Aside0.mk bw
    have B56 := Aside0.mk b5
    clear hi hb hw bw b5
    have HC := Aside0.mk (show w6.drew.cell? ⟨g5, 0, none⟩ = some (.pointer (some ⟨gr, 0, none⟩)) from (blk_cell B56.out 0).trans rfl)
    refine start_ (n := 10) (S := fun w' => w'.cell? ⟨g5, 0, none⟩ = some (.pointer (some ⟨gr, 0, none⟩))) (ds := [7, 9]) #[false, false, false, false, false, false, false, false, false, false] (by kernel_rfl) rfl rfl (HC.out) (fun hHeld => ?_)
    refine pure_ (i := 0) (N := some 36) (v := ?_) (a' := ?_) #[true, false, false, false, false, false, false, false, false, false] rfl rfl (by kernel_rfl) (fun _ _ _ h => h) (Or.inl ⟨by rfl, ?_⟩) ?_ ?_
    rotate_left
    · intro w'
      go_simp
      with_reducible rfl
    rotate_left
    · simp only [Act.put, List.setIfInBounds_toArray, List.set_cons_zero, List.set_cons_succ, i64_w, i32_w]
      rfl
    refine pure_ (i := 3) (N := some 39) (v := ?_) (a' := ?_) #[true, false, false, true, false, false, false, false, false, false] rfl rfl (by kernel_rfl) (fun _ _ _ h => h) (Or.inl ⟨by rfl, ?_⟩) ?_ ?_
    rotate_left
    · intro w'
      go_simp
      with_reducible rfl
    rotate_left
    · simp only [Act.put, List.setIfInBounds_toArray, List.set_cons_zero, List.set_cons_succ, i64_w, i32_w]
      rfl
    refine take_ (i := 1) (N := some 37) (v := ?_) (a' := ?_) #[true, true, false, true, false, false, false, false, false, false] rfl rfl (by kernel_rfl) (fun _ _ _ h => h) (Or.inl ⟨by rfl, ?_⟩) hHeld ?_ ?_
    rotate_left
    · intro w' s0
      go_simp
      with_reducible rfl
    rotate_left
    · simp only [Act.put, List.setIfInBounds_toArray, List.set_cons_zero, List.set_cons_succ, i64_w, i32_w]
      rfl
    refine take_ (i := 4) (N := some 40) (v := ?_) (a' := ?_) #[true, true, false, true, true, false, false, false, false, false] rfl rfl (by kernel_rfl) (fun _ _ _ h => h) (Or.inl ⟨by rfl, ?_⟩) hHeld ?_ ?_
    rotate_left
    · intro w' s0
      go_simp
      with_reducible rfl
    rotate_left
    · simp only [Act.put, List.setIfInBounds_toArray, List.set_cons_zero, List.set_cons_succ, i64_w, i32_w]
      rfl
    refine one_ (i := 2) (N := some 38) #[true, true, true, true, true, false, false, false, false, false] rfl rfl (by kernel_rfl) (by decide) (fun K hK => ?_)
    refine goes_ Try.func15 (by kernel_rfl) rfl #[.pointer (some ⟨gr, 0, none⟩)] (by rfl) rfl rfl (by simp only [List.map_toArray, List.map_cons, List.map_nil]; rfl) ?_
    with_reducible refine (field_Reader_Num.calls gr l0 _ _ _ _ _ _ _ wb6 _ (IsS66.drew HI6.out) (below_drew1 HB6.out) A8.out).mono ?_
    rintro e w6_1 ⟨rfl, hi, hb, hk⟩
    refine ⟨_, rfl, ?_⟩
    have HI6_1 := Aside0.mk hi
    have HB6_1 := Aside0.mk hb
    have B56_1 := Aside0.mk (KeepBut.blk hk (show w6.drew.heap[g5]? = _ from B56.out) NE5.out (by simp))
    have HC6_1 := Aside0.mk (show w6_1.cell? ⟨g5, 0, none⟩ = some (.pointer (some ⟨gr, 0, none⟩)) from (blk_cell B56_1.out 0).trans rfl)
    clear hi hb hk
    refine hK.out _ _ (HC6_1.out) (fun hHeld => ?_)
    clear hK K
    refine norm_ (a' := ?_) ?_ ?_
    rotate_left
    · show Act.put _ (some 38) _ = _
      simp only [Act.put, List.setIfInBounds_toArray, List.set_cons_zero, List.set_cons_succ, i64_w, i32_w]
      rfl
    refine pure_ (i := 6) (N := some 42) (v := ?_) (a' := ?_) #[true, true, true, true, true, false, true, false, false, false] rfl rfl (by kernel_rfl) (fun _ _ _ h => h) (Or.inl ⟨by rfl, ?_⟩) ?_ ?_
    rotate_left
    · intro w'
      go_simp
      with_reducible rfl
    rotate_left
    · simp only [Act.put, List.setIfInBounds_toArray, List.set_cons_zero, List.set_cons_succ, i64_w, i32_w]
      rfl
    refine one_ (i := 5) (N := some 41) #[true, true, true, true, true, true, true, false, false, false] rfl rfl (by kernel_rfl) (by decide) (fun K hK => ?_)
    refine goes_ Try.func15 (by kernel_rfl) rfl #[.pointer (some ⟨gr, 0, none⟩)] (by rfl) rfl rfl (by simp only [List.map_toArray, List.map_cons, List.map_nil]; rfl) ?_
    with_reducible refine (field_Reader_Num.calls gr l0 _ _ _ _ _ _ _ wb6 _ HI6_1.out HB6_1.out A9.out).mono ?_
    rintro e w6_2 ⟨rfl, hi, hb, hk⟩
    refine ⟨_, rfl, ?_⟩
    have HI6_2 := Aside0.mk hi
    have HB6_2 := Aside0.mk hb
    have B56_2 := Aside0.mk (KeepBut.blk hk (show w6_1.heap[g5]? = _ from B56_1.out) NE5.out (by simp))
    have HC6_2 := Aside0.mk (show w6_2.cell? ⟨g5, 0, none⟩ = some (.pointer (some ⟨gr, 0, none⟩)) from (blk_cell B56_2.out 0).trans rfl)
    clear hi hb hk
    have BR := Aside0.mk ((HB6_2.out.block g2 (blk_lt BW6.out)).trans BW6.out)
    have hc_0 := (blk_cell BR.out 0).trans rfl
    have hf_0 := blk_frozen BR.out 0
    have hc_1 := (blk_cell BR.out 1).trans rfl
    have hf_1 := blk_frozen BR.out 1
    have hc_2 := (blk_cell BR.out 2).trans rfl
    have hf_2 := blk_frozen BR.out 2
    have hc_3 := (blk_cell BR.out 3).trans rfl
    have hf_3 := blk_frozen BR.out 3
    have hc_4 := (blk_cell BR.out 4).trans rfl
    have hf_4 := blk_frozen BR.out 4
    have hc_5 := (blk_cell BR.out 5).trans rfl
    have hf_5 := blk_frozen BR.out 5
    have hc_6 := (blk_cell BR.out 6).trans rfl
    have hf_6 := blk_frozen BR.out 6
    have hc_7 := (blk_cell BR.out 7).trans rfl
    have hf_7 := blk_frozen BR.out 7
    have hc_8 := (blk_cell BR.out 8).trans rfl
    have hf_8 := blk_frozen BR.out 8
    refine hK.out _ _ HC6_2.out (fun hHeld => ?_)
    clear hK K
    refine norm_ (a' := ?_) ?_ ?_
    rotate_left
    · show Act.put _ (some 41) _ = _
      simp only [Act.put, List.setIfInBounds_toArray, List.set_cons_zero, List.set_cons_succ, i64_w, i32_w]
      rfl
    refine last_ (i := 7) (N := none) #[true, true, true, true, true, true, true, true, false, false] rfl rfl (by kernel_rfl) (by decide) (fun K hK => ?_)
    refine skip_ (w1 := ?_) (by rfl) rfl ?_ ?_
    rotate_left
    · go_simp
      rfl
    refine hK.out _ _ ?_
    clear hK K
    refine pure_ (i := 8) (N := some 43) (v := ?_) (a' := ?_) #[true, true, true, true, true, true, true, true, true, false] rfl rfl (by kernel_rfl) (fun _ _ _ h => h) (Or.inl ⟨by rfl, ?_⟩) ?_ ?_
    rotate_left
    · intro w'
      go_simp
      with_reducible rfl
    rotate_left
    · simp only [Act.put, List.setIfInBounds_toArray, List.set_cons_zero, List.set_cons_succ, i64_w, i32_w]
      rfl
    refine last_ (i := 9) (N := none) #[true, true, true, true, true, true, true, true, true, true] rfl rfl (by kernel_rfl) (by decide) (fun K hK => ?_)
    refine skip_ (w1 := ?_) (by rfl) rfl ?_ ?_
    rotate_left
    · go_simp
      rfl
    refine hK.out _ _ ?_
    clear hK K
    refine done_ (by kernel_rfl) ?_
    have hi := (isR_both (p := ⟨g2, 8, none⟩) (isR_both (p := ⟨g2, 7, none⟩) HI6_2.out NE2.out ((blk_cell BW6.out 7).trans rfl) (by intro x_ h_; cases h_) (.int .i64 x8)) NE2.out ((blk_cell (blk_put (cs' := #[.int .i64 x1, .string x2, .int .i64 x3, .int .i64 x4, .int .i64 x5, .int .i64 x6, .bool x7, .int .i64 x8, .int .i64 0]) BW6.out 7 (.int .i64 x8) rfl) 8).trans rfl) (by intro x_ h_; cases h_) (.int .i64 x9))
    have hb := (below_both (p := ⟨g2, 8, none⟩) (v := .int .i64 x9) (below_both (p := ⟨g2, 7, none⟩) (v := .int .i64 x8) HB6_2.out))
    have hw := (below_set (g := g2) (j := 8) (v := .int .i64 x9) (below_set (g := g2) (j := 7) (v := .int .i64 x8) HW6.out GE2.out) GE2.out)
    have bw := (blk_put (cs' := #[.int .i64 x1, .string x2, .int .i64 x3, .int .i64 x4, .int .i64 x5, .int .i64 x6, .bool x7, .int .i64 x8, .int .i64 x9]) (blk_put (cs' := #[.int .i64 x1, .string x2, .int .i64 x3, .int .i64 x4, .int .i64 x5, .int .i64 x6, .bool x7, .int .i64 x8, .int .i64 0]) BW6.out 7 (.int .i64 x8) rfl) 8 (.int .i64 x9) rfl)
    have b5 := (blk_far (p := ⟨g2, 8, none⟩) (blk_far (p := ⟨g2, 7, none⟩) B56_2.out NE52.out (.int .i64 x8)) NE52.out (.int .i64 x9))
    try clear BR hc_0 hc_1 hc_2 hc_3 hc_4 hc_5 hc_6 hc_7 hc_8 hf_0 hf_1 hf_2 hf_3 hf_4 hf_5 hf_6 hf_7 hf_8
    generalize ((w6_2.setCell ⟨g2, 7, none⟩ (.int .i64 x8)).setCell ⟨g2, 8, none⟩ (.int .i64 x9)) = w7 at *
    generalize ((wb6.setCell ⟨g2, 7, none⟩ (.int .i64 x8)).setCell ⟨g2, 8, none⟩ (.int .i64 x9)) = wb7 at *
    have HI7 := Aside0.mk hi
    have HB7 := Aside0.mk hb
    have HW7 := Aside0.mk hw
    have BW7 := Aside0.mk bw
    have B57 := Aside0.mk b5
    clear hi hb hw bw b5
    have hz : w7.cell? ⟨g5, 0, none⟩ = some (.pointer (some ⟨gr, 0, none⟩)) := (blk_cell B57.out 0).trans rfl
    cases x10 with
    | true =>
      rw [if_pos rfl] at h
      simp only [Option.some.injEq, Prod.mk.injEq] at h
      obtain ⟨rfl, rfl, rfl, rfl, rfl, rfl, rfl, rfl, rfl, rfl, rfl⟩ := h
      go_wp2_with (first | (go_at_call 18; refine (field_Reader_End.calls 1 gr l0 _ _ _ _ _ _ _ wb7 _ HI7.out HB7.out A10.out).mono ?_; rintro e w20 ⟨rfl, hi, hb, hk⟩; have HI20 := Aside0.mk hi; have HB20 := Aside0.mk hb; have B520 := Aside0.mk (KeepBut.blk hk B57.out NE5.out (by simp)); clear hi hb hk; have hz20 : w20.cell? ⟨g5, 0, none⟩ = some (.pointer (some ⟨gr, 0, none⟩)) := (blk_cell B520.out 0).trans rfl; have BR := Aside0.mk ((HB20.out.block g2 (blk_lt BW7.out)).trans BW7.out); have hc_0 := (blk_cell BR.out 0).trans rfl; have hf_0 := blk_frozen BR.out 0; have hc_1 := (blk_cell BR.out 1).trans rfl; have hf_1 := blk_frozen BR.out 1; have hc_2 := (blk_cell BR.out 2).trans rfl; have hf_2 := blk_frozen BR.out 2; have hc_3 := (blk_cell BR.out 3).trans rfl; have hf_3 := blk_frozen BR.out 3; have hc_4 := (blk_cell BR.out 4).trans rfl; have hf_4 := blk_frozen BR.out 4; have hc_5 := (blk_cell BR.out 5).trans rfl; have hf_5 := blk_frozen BR.out 5; have hc_6 := (blk_cell BR.out 6).trans rfl; have hf_6 := blk_frozen BR.out 6; have hc_7 := (blk_cell BR.out 7).trans rfl; have hf_7 := blk_frozen BR.out 7; have hc_8 := (blk_cell BR.out 8).trans rfl; have hf_8 := blk_frozen BR.out 8))
      refine bodyPost_ret (results_ctt rfl _ _ g2 23 #[.int .i64 x1, .string x2, .int .i64 x3, .int .i64 x4, .int .i64 x5, .int .i64 x6, .bool x7, .int .i64 x8, .int .i64 x9] (0, 0) _ rfl (blk_put (cs' := #[.int .i64 x1, .string x2, .int .i64 x3, .int .i64 x4, .int .i64 x5, .int .i64 x6, .bool x7, .int .i64 x8, .int .i64 x9]) (blk_put (cs' := #[.int .i64 x1, .string x2, .int .i64 x3, .int .i64 x4, .int .i64 x5, .int .i64 x6, .bool x7, .int .i64 x8, .int .i64 x9]) (blk_put (cs' := #[.int .i64 x1, .string x2, .int .i64 x3, .int .i64 x4, .int .i64 x5, .int .i64 x6, .bool x7, .int .i64 x8, .int .i64 x9]) (blk_put (cs' := #[.int .i64 x1, .string x2, .int .i64 x3, .int .i64 x4, .int .i64 x5, .int .i64 x6, .bool x7, .int .i64 x8, .int .i64 x9]) (blk_put (cs' := #[.int .i64 x1, .string x2, .int .i64 x3, .int .i64 x4, .int .i64 x5, .int .i64 x6, .bool x7, .int .i64 x8, .int .i64 x9]) (blk_put (cs' := #[.int .i64 x1, .string x2, .int .i64 x3, .int .i64 x4, .int .i64 x5, .int .i64 x6, .bool x7, .int .i64 x8, .int .i64 x9]) (blk_put (cs' := #[.int .i64 x1, .string x2, .int .i64 x3, .int .i64 x4, .int .i64 x5, .int .i64 x6, .bool x7, .int .i64 x8, .int .i64 x9]) (blk_put (cs' := #[.int .i64 x1, .string x2, .int .i64 x3, .int .i64 x4, .int .i64 x5, .int .i64 x6, .bool x7, .int .i64 x8, .int .i64 x9]) (blk_put (cs' := #[.int .i64 x1, .string x2, .int .i64 x3, .int .i64 x4, .int .i64 x5, .int .i64 x6, .bool x7, .int .i64 x8, .int .i64 x9]) BR.out 0 (.int .i64 x1) rfl) 1 (.string x2) rfl) 2 (.int .i64 x3) rfl) 3 (.int .i64 x4) rfl) 4 (.int .i64 x5) rfl) 5 (.int .i64 x6) rfl) 6 (.bool x7) rfl) 7 (.int .i64 x8) rfl) 8 (.int .i64 x9) rfl) Try.underlying23 rfl (by kernel_rfl)) rfl ?_
      exact ⟨rfl, (below_set (g := g2) (j := 8) (v := .int .i64 x9) (below_set (g := g2) (j := 7) (v := .int .i64 x8) (below_set (g := g2) (j := 6) (v := .bool x7) (below_set (g := g2) (j := 5) (v := .int .i64 x6) (below_set (g := g2) (j := 4) (v := .int .i64 x5) (below_set (g := g2) (j := 3) (v := .int .i64 x4) (below_set (g := g2) (j := 2) (v := .int .i64 x3) (below_set (g := g2) (j := 1) (v := .string x2) (below_set (g := g2) (j := 0) (v := .int .i64 x1) (below_step HW7.out HB20.out) GE2.out) GE2.out) GE2.out) GE2.out) GE2.out) GE2.out) GE2.out) GE2.out) GE2.out)⟩
    | false =>
      rw [if_neg (by decide)] at h
      simp only [Option.some.injEq, Prod.mk.injEq] at h
      obtain ⟨rfl, rfl, rfl, rfl, rfl, rfl, rfl, rfl, rfl, rfl, rfl⟩ := h
      go_wp2_with (first | (go_at_call 18; refine (field_Reader_End.calls 1 gr l0 _ _ _ _ _ _ _ wb7 _ HI7.out HB7.out A10.out).mono ?_; rintro e w20 ⟨rfl, hi, hb, hk⟩; have HI20 := Aside0.mk hi; have HB20 := Aside0.mk hb; have B520 := Aside0.mk (KeepBut.blk hk B57.out NE5.out (by simp)); clear hi hb hk; have hz20 : w20.cell? ⟨g5, 0, none⟩ = some (.pointer (some ⟨gr, 0, none⟩)) := (blk_cell B520.out 0).trans rfl; have BR := Aside0.mk ((HB20.out.block g2 (blk_lt BW7.out)).trans BW7.out); have hc_0 := (blk_cell BR.out 0).trans rfl; have hf_0 := blk_frozen BR.out 0; have hc_1 := (blk_cell BR.out 1).trans rfl; have hf_1 := blk_frozen BR.out 1; have hc_2 := (blk_cell BR.out 2).trans rfl; have hf_2 := blk_frozen BR.out 2; have hc_3 := (blk_cell BR.out 3).trans rfl; have hf_3 := blk_frozen BR.out 3; have hc_4 := (blk_cell BR.out 4).trans rfl; have hf_4 := blk_frozen BR.out 4; have hc_5 := (blk_cell BR.out 5).trans rfl; have hf_5 := blk_frozen BR.out 5; have hc_6 := (blk_cell BR.out 6).trans rfl; have hf_6 := blk_frozen BR.out 6; have hc_7 := (blk_cell BR.out 7).trans rfl; have hf_7 := blk_frozen BR.out 7; have hc_8 := (blk_cell BR.out 8).trans rfl; have hf_8 := blk_frozen BR.out 8) | (go_at_call 19; refine (field_Reader_Err.calls gr l0 _ _ _ _ _ _ _ _ wb7 _ HI20.out HB20.out (err_ _ _ _ _)).mono ?_; rintro e w21 ⟨rfl, hi, hb, hk⟩; have HB21 := Aside0.mk hb; clear hi hb hk; clear BR hc_0 hc_1 hc_2 hc_3 hc_4 hc_5 hc_6 hc_7 hc_8 hf_0 hf_1 hf_2 hf_3 hf_4 hf_5 hf_6 hf_7 hf_8; have BR := Aside0.mk ((HB21.out.block g2 (blk_lt BW7.out)).trans BW7.out); have hc_0 := (blk_cell BR.out 0).trans rfl; have hf_0 := blk_frozen BR.out 0; have hc_1 := (blk_cell BR.out 1).trans rfl; have hf_1 := blk_frozen BR.out 1; have hc_2 := (blk_cell BR.out 2).trans rfl; have hf_2 := blk_frozen BR.out 2; have hc_3 := (blk_cell BR.out 3).trans rfl; have hf_3 := blk_frozen BR.out 3; have hc_4 := (blk_cell BR.out 4).trans rfl; have hf_4 := blk_frozen BR.out 4; have hc_5 := (blk_cell BR.out 5).trans rfl; have hf_5 := blk_frozen BR.out 5; have hc_6 := (blk_cell BR.out 6).trans rfl; have hf_6 := blk_frozen BR.out 6; have hc_7 := (blk_cell BR.out 7).trans rfl; have hf_7 := blk_frozen BR.out 7; have hc_8 := (blk_cell BR.out 8).trans rfl; have hf_8 := blk_frozen BR.out 8))
      refine bodyPost_ret (results_ctt rfl _ _ g2 23 #[.int .i64 0, .string (⟨#[]⟩ : ByteArray), .int .i64 0, .int .i64 0, .int .i64 0, .int .i64 0, .bool false, .int .i64 0, .int .i64 0] (0, 0) _ rfl (blk_put (cs' := #[.int .i64 0, .string (⟨#[]⟩ : ByteArray), .int .i64 0, .int .i64 0, .int .i64 0, .int .i64 0, .bool false, .int .i64 0, .int .i64 0]) (blk_put (cs' := #[.int .i64 0, .string (⟨#[]⟩ : ByteArray), .int .i64 0, .int .i64 0, .int .i64 0, .int .i64 0, .bool false, .int .i64 0, .int .i64 x9]) (blk_put (cs' := #[.int .i64 0, .string (⟨#[]⟩ : ByteArray), .int .i64 0, .int .i64 0, .int .i64 0, .int .i64 0, .bool false, .int .i64 x8, .int .i64 x9]) (blk_put (cs' := #[.int .i64 0, .string (⟨#[]⟩ : ByteArray), .int .i64 0, .int .i64 0, .int .i64 0, .int .i64 0, .bool x7, .int .i64 x8, .int .i64 x9]) (blk_put (cs' := #[.int .i64 0, .string (⟨#[]⟩ : ByteArray), .int .i64 0, .int .i64 0, .int .i64 0, .int .i64 x6, .bool x7, .int .i64 x8, .int .i64 x9]) (blk_put (cs' := #[.int .i64 0, .string (⟨#[]⟩ : ByteArray), .int .i64 0, .int .i64 0, .int .i64 x5, .int .i64 x6, .bool x7, .int .i64 x8, .int .i64 x9]) (blk_put (cs' := #[.int .i64 0, .string (⟨#[]⟩ : ByteArray), .int .i64 0, .int .i64 x4, .int .i64 x5, .int .i64 x6, .bool x7, .int .i64 x8, .int .i64 x9]) (blk_put (cs' := #[.int .i64 0, .string (⟨#[]⟩ : ByteArray), .int .i64 x3, .int .i64 x4, .int .i64 x5, .int .i64 x6, .bool x7, .int .i64 x8, .int .i64 x9]) (blk_put (cs' := #[.int .i64 0, .string x2, .int .i64 x3, .int .i64 x4, .int .i64 x5, .int .i64 x6, .bool x7, .int .i64 x8, .int .i64 x9]) BR.out 0 (.int .i64 0) rfl) 1 (.string (⟨#[]⟩ : ByteArray)) rfl) 2 (.int .i64 0) rfl) 3 (.int .i64 0) rfl) 4 (.int .i64 0) rfl) 5 (.int .i64 0) rfl) 6 (.bool false) rfl) 7 (.int .i64 0) rfl) 8 (.int .i64 0) rfl) Try.underlying23 rfl (by kernel_rfl)) rfl ?_
      exact ⟨rfl, (below_set (g := g2) (j := 8) (v := .int .i64 0) (below_set (g := g2) (j := 7) (v := .int .i64 0) (below_set (g := g2) (j := 6) (v := .bool false) (below_set (g := g2) (j := 5) (v := .int .i64 0) (below_set (g := g2) (j := 4) (v := .int .i64 0) (below_set (g := g2) (j := 3) (v := .int .i64 0) (below_set (g := g2) (j := 2) (v := .int .i64 0) (below_set (g := g2) (j := 1) (v := .string (⟨#[]⟩ : ByteArray)) (below_set (g := g2) (j := 0) (v := .int .i64 0) (below_step HW7.out HB21.out) GE2.out) GE2.out) GE2.out) GE2.out) GE2.out) GE2.out) GE2.out) GE2.out) GE2.out)⟩
  · rw [if_neg hl] at h
    cases h
end Go.Proofs.Ytcgpbakimkhdpaa.Q
