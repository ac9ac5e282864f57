/- quota: New. -/
import Derived.Test.YtchfkkpghipeiaaDoorGQuotaNext
namespace Go.Proofs.YtchfkkpghipeiaaDoor.Q
open Go.RowKit Go.Shelf Go.Proofs.YtchfkkpghipeiaaDoorW.PrintWords Go.Proofs.YtchfkkpghipeiaaDoorW.PrintLast Go.Proofs.YtchfkkpghipeiaaDoorW.PrintMore
set_option linter.unusedVariables false
set_option linter.unusedSimpArgs false

def rightB (q : S23) : Bool := Utf.goodD q.f0.data.toList && decide (0 ≤ q.f1) && decide (q.f1 ≤ 1000) && decide (1 ≤ q.f2) && decide (q.f2 ≤ 1099511627776)
theorem right_f (q : S23) (h : q.f0.size < 1000000) : quota_right.f q.f0 q.f1 q.f2 = some (rightB q) := by
  unfold quota_right.f label_Good.f
  rw [if_pos (by omega), Option.bind_some, rightB]
  cases Utf.goodD q.f0.data.toList with
  | false => simp
  | true =>
    rw [if_pos rfl]
    by_cases h1 : q.f1 ≥ 0
    · by_cases h2 : q.f1 ≤ 1000
      · by_cases h3 : q.f2 ≥ 1
        · rw [if_pos h1, if_pos h2, if_pos h3, decide_eq_true (show 0 ≤ q.f1 from h1), decide_eq_true h2, decide_eq_true (show 1 ≤ q.f2 from h3)]; rfl
        · rw [if_pos h1, if_pos h2, if_neg h3, decide_eq_false (show ¬ 1 ≤ q.f2 from h3)]; simp
      · rw [if_pos h1, if_neg h2, decide_eq_false h2]; simp
    · rw [if_neg h1, decide_eq_false (show ¬ 0 ≤ q.f1 from h1)]; simp

def mk0 (q : S23) : S46 := ⟨q, []⟩
def rowq (q : S23) : List Value := [.string q.f0, .int .i64 q.f1, .int .i64 q.f2, .slice none 0 0]
/-- The place and the error. -/
def newAt : List S23 → List S23 → Int → Int × Int
  | _, [], _ => (-1, 0)
  | pre, q :: l, i => if rightB q = true then (if 0 ≤ firstI (isNamed q.f0) (pre.map mk0) 0 then (i, 6) else newAt (pre ++ [q]) l (i + 1)) else (i, 3)
def newR (l : List S23) : Int × Int := if l.length > 64 then (64, 8) else newAt [] l 0
theorem newAt_at (l : List S23) (j : Nat) (h : j < l.length) : newAt (l.take j) (l.drop j) (j : Int) = if rightB l[j] = true then (if 0 ≤ firstI (isNamed l[j].f0) ((l.take j).map mk0) 0 then ((j : Int), 6) else newAt (l.take (j + 1)) (l.drop (j + 1)) ((j + 1 : Nat) : Int)) else ((j : Int), 3) := by
  rw [List.drop_eq_getElem_cons h, newAt, List.take_succ_eq_append_getElem h]
  rfl

/-- A gate of rows without ticks, as it is made. -/
def IsN (base : Nat) (W : World) (g : Nat) (qs : List S23) : Prop :=
  ∃ v, W.heap[g]? = some (.cells #[v, .int .i64 0] 42 (0, 0)) ∧ base ≤ g ∧ (Kd.raw 4).R 46 W base (fun _ => True) v (qs.map rowq)
theorem IsN.below {base : Nat} {W W' : World} {g : Nat} {qs : List S23} (h : IsN base W g qs) (hb : Below W.heap.size W W') : IsN base W' g qs := by
  obtain ⟨v, h1, h2, h3⟩ := h
  exact ⟨v, blk_below h1 hb, h2, Kd.R_below h3 hb⟩
theorem raw_C46 {W : World} {A : Option Addr} (qs : List S23) (h : (Kd.raw 4).C W A (qs.map rowq).length (qs.map rowq)) : Kd.C k46 W A (qs.map mk0).length (qs.map mk0) := by
  obtain ⟨h1, h2, h3⟩ := h
  rw [List.length_map] at h2 h3
  refine ⟨rfl, by rw [List.length_map]; exact h2, fun hp => ?_⟩
  rw [List.length_map] at hp
  obtain ⟨ad, e, hx⟩ := h3 hp
  refine ⟨ad, e, fun j p hj => ?_⟩
  rw [List.getElem?_map] at hj
  obtain ⟨q, hq, rfl⟩ := Option.map_eq_some_iff.1 hj
  obtain ⟨cs, c1, c2, c3⟩ := hx j (rowq q) (by rw [List.getElem?_map, hq]; rfl)
  obtain rfl : cs = rowq q := c2.1
  exact ⟨rowq q, rfl, k46_mk W (mk0 q) (Nat.le_refl _) (Kd.C_nil _ _), c3⟩
theorem IsN.rd {base : Nat} {W : World} {g : Nat} {qs : List S23} (h : IsN base W g qs) : RdG W g (qs.map mk0) 0 := by
  obtain ⟨v, h1, h2, h3⟩ := h
  obtain ⟨A, c, rfl, hc, hC⟩ := Kd.R_reads h3
  rw [List.length_map] at hc h1
  refine ⟨A, c, by rw [List.length_map]; exact h1, raw_C46 qs hC, by rw [List.length_map]; exact hc⟩
theorem info46 : (Tryd.prog.info? 46).map (fun i => (i.zero, i.size, i.bytes)) = some (some (.agg #[.string ⟨#[]⟩, .int .i64 0, .int .i64 0, .slice none 0 0]), 4, 56) := by kernel_rfl

/-- What is handed back. -/
def NewG (n : Nat) (r : Int × Int) (W : World) (l : List S23) (p : Value) : Prop := if r.2 = 0 then ∃ g, p = .pointer (some ⟨g, 0, none⟩) ∧ IsN n W g l else p = .pointer none
theorem NewG.no {n : Nat} {i e : Int} {W : World} {l : List S23} (h : e ≠ 0) : NewG n (i, e) W l (.pointer none) := by
  unfold NewG
  rw [if_neg h]
theorem NewG.ok {n : Nat} {i : Int} {W : World} {l : List S23} {g : Nat} (h : IsN n W g l) : NewG n (i, 0) W l (.pointer (some ⟨g, 0, none⟩)) := by
  unfold NewG
  rw [if_pos rfl]
  exact ⟨g, rfl, h⟩

set_option maxRecDepth 100000 in
set_option maxHeartbeats 4000000 in
theorem quota_New.calls (A : Option Addr) (c : Nat) (l : List S23) (w : World) (hTab_ : Tabs_ w) (hC : Kd.C k23 w A l.length l) (hc : l.length ≤ c) (hs : ∀ q ∈ l, q.f0.size < 1000000) (hl : l.length < 1000000) :
    Calls Tryd.prog 7 #[.slice A l.length c] w fun e w' => ∃ p, e = .returned (.tuple #[p, .int .i64 (newR l).1, .int .i64 (newR l).2]) ∧ NewG w.heap.size (newR l) w' l p ∧ Below w.heap.size w w' := by
  have HTAB_ := Aside0.mk hTab_
  have HR := Aside0.mk hC
  have HSZ := Aside0.mk hs
  have HL := Aside0.mk hl
  clear hTab_ hC hc hs hl
  unfold newR
  by_cases h64 : l.length > 64
  · rw [if_pos h64]
    have hd : decide ((64 : Int) < (l.length : Int)) = true := decide_eq_true (by omega)
    go_enter Tryd.func7, Tryd.ntmps7
    go_wp2
    go_ret3
    exact ⟨_, rfl, NewG.no (by decide), Below.refl _ _⟩
  · rw [if_neg h64]
    have hd : decide ((64 : Int) < (l.length : Int)) = false := decide_eq_false (by omega)
    have H64 := Aside0.mk h64
    clear h64
    obtain ⟨nr, hnr⟩ : ∃ nr, newAt [] l 0 = nr := ⟨_, rfl⟩
    have HNR := Aside0.mk hnr
    rw [hnr]
    clear hnr
    go_enter Tryd.func7, Tryd.ntmps7
    go_upto_region 4 with (fail)
    have hb1 : Below w.heap.size w (w.alloc (.cells #[.slice none 0 0, .int .i64 0] 42)) := (Below.refl _ w).alloc (Nat.le_refl _) _
    have hg1 := blk_new w (.cells #[.slice none 0 0, .int .i64 0] 42)
    generalize w.alloc (.cells #[.slice none 0 0, .int .i64 0] 42) = W1 at *
    obtain ⟨g, hg⟩ : ∃ g, w.heap.size = g := ⟨_, rfl⟩
    have HGW := Aside0.mk hg
    have HN1 := Aside0.mk (show IsN w.heap.size W1 g [] from ⟨_, by rw [← hg]; exact hg1, Nat.le_of_eq hg, Kd.R_nil _ _ _ _ _⟩)
    have HB1 := Aside0.mk hb1
    have HS1 := Aside0.mk hb1.size
    have hgg : (w.heap.size = g) := hg
    rw [hg]
    clear hb1 hg1 hg hgg
    go_wp2
    go_loopw [2, 14] (fun v2 v14 W => v2 = .pointer (some ⟨g, 0, none⟩) ∧ ∃ j : Nat, j ≤ l.length ∧ v14 = .int .i64 (j : Int) ∧ Aside0 (newAt (l.take j) (l.drop j) (j : Int) = nr) ∧ Aside0 (IsN w.heap.size W g (l.take j)) ∧ Aside0 (Below w.heap.size w W)) (fun _ v14 _ => l.length - (intOf v14).toNat)
    case atStart => exact ⟨rfl, 0, Nat.zero_le _, rfl, HNR, HN1, HB1⟩
    case round =>
      clear HN1 HB1 HS1 HNR
      obtain ⟨rfl, j, hj, rfl, HF, HN, HB⟩ := hrel
      by_cases hlt : j < l.length
      rotate_left
      · have hjl : j = l.length := by omega
        subst hjl
        have hd1 : decide ((l.length : Int) < (l.length : Int)) = false := decide_eq_false (by omega)
        have hf := HF.out
        rw [List.drop_length, newAt] at hf
        have HF2 := Aside0.mk hf
        have hn := HN.out
        rw [List.take_length] at hn
        have HN2 := Aside0.mk hn
        clear hf hn
        go_wp2
        go_ret3
        rw [← HF2.out]
        exact ⟨_, rfl, NewG.ok HN2.out, HB.out⟩
      have HFA := Aside0.mk (HF.out.symm.trans (newAt_at l j hlt))
      obtain ⟨ad, e, x0, x1, x2⟩ := at_T23 HR.out (j : Int) (by omega) (by omega)
      cases e
      have HX := Aside0.mk (show rd_T23 l (j : Int) = l[j] by
        unfold rd_T23
        rw [Int.toNat_natCast, List.getD_eq_getElem?_getD, List.getElem?_eq_getElem hlt]
        rfl)
      have HSQ := Aside0.mk (HSZ.out _ (List.getElem_mem hlt))
      have HTK := Aside0.mk (List.take_succ_eq_append_getElem hlt)
      replace x0 := (HB.out.cell (World.block_lt_of_cell? w _ x0)).trans x0
      replace x1 := (HB.out.cell (World.block_lt_of_cell? w _ x1)).trans x1
      replace x2 := (HB.out.cell (World.block_lt_of_cell? w _ x2)).trans x2
      rw [HX.out] at x0 x1 x2
      clear HX
      generalize l[j] = qq at *
      obtain ⟨i, hi⟩ : ∃ i : Int, (j : Int) = i := ⟨_, rfl⟩
      have HI := Aside0.mk hi
      have hp1 : (0 ≤ i) = True := eq_true (by omega)
      have hq1 : (i < (l.length : Int)) = True := eq_true (by omega)
      have hd1 : decide (i < (l.length : Int)) = true := decide_eq_true (by omega)
      have HK := Aside0.mk (show wrap64 (i + 1) = ((j + 1 : Nat) : Int) by unfold wrap64; have := HL.out; omega)
      rw [hi] at x0 x1 x2 HFA ⊢
      clear hi
      go_upto_region 7 with (fail)
      have hz := blk_new wr (.cells #[.string qq.f0, .int .i64 qq.f1, .int .i64 qq.f2] 23)
      have hb8 : Below wr.heap.size wr (wr.alloc (.cells #[.string qq.f0, .int .i64 qq.f1, .int .i64 qq.f2] 23)) := below_alloc (Below.refl _ _) _
      clear x0 x1 x2
      generalize wr.alloc (.cells #[.string qq.f0, .int .i64 qq.f1, .int .i64 qq.f2] 23) = W8 at *
      have HN8 := Aside0.mk (HN.out.below hb8)
      have HB8 := Aside0.mk (below_step HB.out hb8)
      obtain ⟨z, hzz⟩ : ∃ z, wr.heap.size = z := ⟨_, rfl⟩
      rw [hzz] at hz ⊢
      have HZ := Aside0.mk hz
      clear hz hb8 hzz HN HB
      have z0 : W8.cell? ⟨z, 0, none⟩ = some (.string qq.f0) := (blk_cell HZ.out 0).trans rfl
      have z1 : W8.cell? ⟨z, 1, none⟩ = some (.int .i64 qq.f1) := (blk_cell HZ.out 1).trans rfl
      have z2 : W8.cell? ⟨z, 2, none⟩ = some (.int .i64 qq.f2) := (blk_cell HZ.out 2).trans rfl
      cases hrb : rightB qq with
      | false =>
        have HRF := Aside0.mk ((right_f qq HSQ.out).trans (congrArg some hrb))
        have HFB := Aside0.mk (HFA.out.trans (if_neg (by rw [hrb]; decide)))
        clear hrb
        go_wp2_with (first | (go_at_call 14; refine (quota_right.calls qq.f0 qq.f1 qq.f2 false _ (HTAB_.out.below HB8.out) HRF.out).mono ?_; rintro e w9 ⟨rfl, hb⟩; have HB9 := Aside0.mk (below_step HB8.out hb); clear hb))
        go_ret3
        rw [HFB.out]
        exact ⟨_, rfl, NewG.no (by decide), HB9.out⟩
      | true =>
        have HRF := Aside0.mk ((right_f qq HSQ.out).trans (congrArg some hrb))
        have hfb := HFA.out.trans (if_pos hrb)
        clear hrb
        obtain ⟨fi, hfi⟩ : ∃ fi, firstI (isNamed qq.f0) ((l.take j).map mk0) 0 = fi := ⟨_, rfl⟩
        rw [hfi] at hfb
        have HFI := Aside0.mk hfi
        have HLT := Aside0.mk (show ((l.take j).map mk0).length < 1000000 by rw [List.length_map, List.length_take]; have := HL.out; omega)
        clear hfi
        by_cases hge : 0 ≤ fi
        · have HFB := Aside0.mk (hfb.trans (if_pos hge))
          have hd2 : decide (0 ≤ fi) = true := decide_eq_true hge
          clear hge hfb
          go_wp2_with (first | (go_at_call 14; refine (quota_right.calls qq.f0 qq.f1 qq.f2 true _ (HTAB_.out.below HB8.out) HRF.out).mono ?_; rintro e w9 ⟨rfl, hb⟩; have HB9 := Aside0.mk (below_step HB8.out hb); have HN9 := Aside0.mk (HN8.out.below hb); have v0 : w9.cell? ⟨z, 0, none⟩ = some (.string qq.f0) := (blk_cell (blk_below HZ.out hb) 0).trans rfl; clear hb) | (go_at_call 15; refine (quota_find.calls g qq.f0 _ 0 _ HN9.out.rd HLT.out).mono ?_; rw [HFI.out]; rintro e w10 ⟨rfl, hb⟩; have HB10 := Aside0.mk (below_step HB9.out hb); clear hb))
          go_ret3
          rw [HFB.out]
          exact ⟨_, rfl, NewG.no (by decide), HB10.out⟩
        have HFB := Aside0.mk (hfb.trans (if_neg hge))
        have hd2 : decide (0 ≤ fi) = false := decide_eq_false hge
        clear hge hfb
        go_upto_region 11 with (first | (go_at_call 14; refine (quota_right.calls qq.f0 qq.f1 qq.f2 true _ (HTAB_.out.below HB8.out) HRF.out).mono ?_; rintro e w9 ⟨rfl, hb⟩; have HB9 := Aside0.mk (below_step HB8.out hb); have HN9 := Aside0.mk (HN8.out.below hb); have HZ9 := Aside0.mk (blk_below HZ.out hb); have v0 : w9.cell? ⟨z, 0, none⟩ = some (.string qq.f0) := (blk_cell (blk_below HZ.out hb) 0).trans rfl; clear hb) | (go_at_call 15; refine (quota_find.calls g qq.f0 _ 0 _ HN9.out.rd HLT.out).mono ?_; rw [HFI.out]; rintro e W5 ⟨rfl, hb⟩; have HB10 := Aside0.mk (below_step HB9.out hb); have HN10 := Aside0.mk (HN9.out.below hb); have HZ10 := Aside0.mk (blk_below HZ9.out hb); clear hb))
        obtain ⟨v, hg5, hgb, hR5⟩ := HN10.out
        have y0 : W5.drew.cell? ⟨g, 0, none⟩ = some v := (blk_cell hg5 0).trans rfl
        clear z0 z1 z2 v0
        have z0 : W5.drew.cell? ⟨z, 0, none⟩ = some (.string qq.f0) := (blk_cell HZ10.out 0).trans rfl
        have z1 : W5.drew.cell? ⟨z, 1, none⟩ = some (.int .i64 qq.f1) := (blk_cell HZ10.out 1).trans rfl
        have z2 : W5.drew.cell? ⟨z, 2, none⟩ = some (.int .i64 qq.f2) := (blk_cell HZ10.out 2).trans rfl
        have HAL := Aside0.mk (show Below W5.drew.heap.size W5.drew (W5.drew.alloc (.cells (rowq qq).toArray 46)) from below_alloc (Below.refl _ _) _)
        have HG5 := Aside0.mk hg5
        have HGB := Aside0.mk hgb
        have HR5 := Aside0.mk hR5
        clear hg5 hgb hR5
        refine start_ (n := 12) (S := fun w' => w'.cell? ⟨g, 0, none⟩ = some v ∧ w'.cell? ⟨z, 0, none⟩ = some (.string qq.f0) ∧ w'.cell? ⟨z, 1, none⟩ = some (.int .i64 qq.f1) ∧ w'.cell? ⟨z, 2, none⟩ = some (.int .i64 qq.f2)) (ds := [8, 11]) #[false, false, false, false, false, false, false, false, false, false, false, false] (by kernel_rfl) rfl rfl ⟨y0, z0, z1, z2⟩ (fun hHeld => ?_)
        refine pure_ (i := 0) (N := some 29) (v := ?_) (a' := ?_) #[true, false, false, false, false, false, false, false, false, false, false, false] rfl rfl (by kernel_rfl) (fun _ _ _ h => h) (Or.inl ⟨by rfl, ?_⟩) ?_ ?_
        rotate_left
        · intro w'
          go_simp
          with_reducible rfl
        rotate_left
        · simp only [Act.put, List.setIfInBounds_toArray, List.set_cons_zero, List.set_cons_succ, i64_w, i32_w]
          rfl
        refine pure_ (i := 1) (N := some 30) (v := ?_) (a' := ?_) #[true, true, false, false, false, false, false, false, false, false, false, false] rfl rfl (by kernel_rfl) (fun _ _ _ h => h) (Or.inl ⟨by rfl, ?_⟩) ?_ ?_
        rotate_left
        · intro w'
          go_simp
          with_reducible rfl
        rotate_left
        · simp only [Act.put, List.setIfInBounds_toArray, List.set_cons_zero, List.set_cons_succ, i64_w, i32_w]
          rfl
        refine pure_ (i := 2) (N := some 31) (v := ?_) (a' := ?_) #[true, true, true, false, false, false, false, false, false, false, false, false] rfl rfl (by kernel_rfl) (fun _ _ _ h => h) (Or.inl ⟨by rfl, ?_⟩) ?_ ?_
        rotate_left
        · intro w'
          go_simp
          with_reducible rfl
        rotate_left
        · simp only [Act.put, List.setIfInBounds_toArray, List.set_cons_zero, List.set_cons_succ, i64_w, i32_w]
          rfl
        refine pure_ (i := 3) (N := some 32) (v := ?_) (a' := ?_) #[true, true, true, true, false, false, false, false, false, false, false, false] rfl rfl (by kernel_rfl) (fun _ _ _ h => h) (Or.inl ⟨by rfl, ?_⟩) ?_ ?_
        rotate_left
        · intro w'
          go_simp
          with_reducible rfl
        rotate_left
        · simp only [Act.put, List.setIfInBounds_toArray, List.set_cons_zero, List.set_cons_succ, i64_w, i32_w]
          rfl
        refine take_ (i := 4) (N := some 33) (v := ?_) (a' := ?_) #[true, true, true, true, true, false, false, false, false, false, false, false] rfl rfl (by kernel_rfl) (fun _ _ _ h => h) (Or.inl ⟨by rfl, ?_⟩) hHeld ?_ ?_
        rotate_left
        · rintro w' ⟨s0, s1, s2, s3⟩
          go_simp
          with_reducible rfl
        rotate_left
        · simp only [Act.put, List.setIfInBounds_toArray, List.set_cons_zero, List.set_cons_succ, i64_w, i32_w]
          rfl
        refine take_ (i := 5) (N := some 34) (v := ?_) (a' := ?_) #[true, true, true, true, true, true, false, false, false, false, false, false] rfl rfl (by kernel_rfl) (fun _ _ _ h => h) (Or.inl ⟨by rfl, ?_⟩) hHeld ?_ ?_
        rotate_left
        · rintro w' ⟨s0, s1, s2, s3⟩
          go_simp
          with_reducible rfl
        rotate_left
        · simp only [Act.put, List.setIfInBounds_toArray, List.set_cons_zero, List.set_cons_succ, i64_w, i32_w]
          rfl
        refine pure_ (i := 6) (N := some 35) (v := ?_) (a' := ?_) #[true, true, true, true, true, true, true, false, false, false, false, false] rfl rfl (by kernel_rfl) (fun _ _ _ h => h) (Or.inl ⟨by rfl, ?_⟩) ?_ ?_
        rotate_left
        · intro w'
          go_simp
          with_reducible rfl
        rotate_left
        · simp only [Act.put, List.setIfInBounds_toArray, List.set_cons_zero, List.set_cons_succ, i64_w, i32_w]
          rfl
        refine one_ (i := 7) (N := some 36) #[true, true, true, true, true, true, true, true, false, false, false, false] rfl rfl (by kernel_rfl) (by decide) (fun K hK => ?_)
        refine value_ (w1 := ?_) (v := ?_) (by rfl) rfl ?_ ?_
        rotate_left 2
        · go_simp
          constructor
          · rfl
          · rfl
        refine hK.out _ _ ⟨(HAL.out.cell (p := ⟨g, 0, none⟩) (World.block_lt_of_cell? _ _ y0)).trans y0, (HAL.out.cell (p := ⟨z, 0, none⟩) (World.block_lt_of_cell? _ _ z0)).trans z0, (HAL.out.cell (p := ⟨z, 1, none⟩) (World.block_lt_of_cell? _ _ z1)).trans z1, (HAL.out.cell (p := ⟨z, 2, none⟩) (World.block_lt_of_cell? _ _ z2)).trans z2⟩ (fun hHeld => ?_)
        clear hK K
        refine norm_ (a' := ?_) ?_ ?_
        rotate_left
        · show Act.put _ (some 36) _ = _
          simp only [Act.put, List.setIfInBounds_toArray, List.set_cons_zero, List.set_cons_succ, i64_w, i32_w]
          rfl
        refine last_ (i := 8) (N := some 37) #[true, true, true, true, true, true, true, true, true, false, false, false] rfl rfl (by kernel_rfl) (by decide) (fun K hK => ?_)
        refine Kd.R_append_step (Kd.raw 4) (w0 := w) w.heap.size (by rfl) (.tmp 33) (.tmp 36) 40 46 (.agg #[.string ⟨#[]⟩, .int .i64 0, .int .i64 0, .slice none 0 0]) 56 rfl (by rfl) info46 rfl (by decide) (by decide) v ((l.take j).map rowq) (rowq qq) (rowq qq) (fun _ => True) (fun _ => False) rfl rfl ⟨rfl, rfl, by intro u hu; simp [rowq] at hu; rcases hu with rfl | rfl | rfl | rfl <;> rfl⟩ (fun _ h => h.elim) (fun _ _ => trivial) (Kd.R_drew HR5.out) (below_drew1 HB10.out) (HB10.out.size) (by rw [List.length_map, List.length_take]; have := HL.out; omega) ?_
        intro v6 w6 hR6 hB6 hg6 hat6
        obtain ⟨A6, n6, c6, rfl⟩ : ∃ A n c, v6 = .slice A n c := by
          obtain ⟨A, c, e, _⟩ := Kd.R_reads hR6
          exact ⟨A, _, c, e⟩
        have HG6 := Aside0.mk (blk_grown (blk_drew HG5.out) hg6 (Kd.R_ne HR5.out HG5.out (by decide)))
        have HR6 := Aside0.mk hR6
        have HB6 := Aside0.mk hB6
        clear hR6 hB6 hg6 hat6
        have fz6 := blk_frozen HG6.out 0
        have v60 := (blk_cell HG6.out 0).trans rfl
        refine hK.out _ _ ?_
        clear hK K
        refine norm_ (a' := ?_) ?_ ?_
        rotate_left
        · show Act.put _ (some 37) _ = _
          simp only [Act.put, List.setIfInBounds_toArray, List.set_cons_zero, List.set_cons_succ, i64_w, i32_w]
          rfl
        refine pure_ (i := 9) (N := some 38) (v := ?_) (a' := ?_) #[true, true, true, true, true, true, true, true, true, true, false, false] rfl rfl (by kernel_rfl) (fun _ _ _ h => h) (Or.inl ⟨by rfl, ?_⟩) ?_ ?_
        rotate_left
        · intro w'
          go_simp
          with_reducible rfl
        rotate_left
        · simp only [Act.put, List.setIfInBounds_toArray, List.set_cons_zero, List.set_cons_succ, i64_w, i32_w]
          rfl
        refine pure_ (i := 10) (N := some 39) (v := ?_) (a' := ?_) #[true, true, true, true, true, true, true, true, true, true, true, false] rfl rfl (by kernel_rfl) (fun _ _ _ h => h) (Or.inl ⟨by rfl, ?_⟩) ?_ ?_
        rotate_left
        · intro w'
          go_simp
          with_reducible rfl
        rotate_left
        · simp only [Act.put, List.setIfInBounds_toArray, List.set_cons_zero, List.set_cons_succ, i64_w, i32_w]
          rfl
        refine last_ (i := 11) (N := none) #[true, true, true, true, true, true, true, true, true, true, true, true] rfl rfl (by kernel_rfl) (by decide) (fun K hK => ?_)
        refine skip_ (w1 := ?_) (by rfl) rfl ?_ ?_
        rotate_left
        · go_simp
          rfl
        refine hK.out _ _ ?_
        clear hK K
        refine done_ (by kernel_rfl) ?_
        have hgA := blk_put HG6.out 0 (.slice A6 n6 c6) (cs' := #[(.slice A6 n6 c6), .int .i64 0]) rfl
        have hRA := Kd.R_far (p := ⟨g, 0, none⟩) (Kd.R_mono (Kd.R_types HR6.out HG6.out (by decide)) (ok' := fun k => k ≠ g) (fun k hk => hk.2)) (fun k hk => hk) (.slice A6 n6 c6)
        have HBA := Aside0.mk (HB6.out.setCell (p := ⟨g, 0, none⟩) HGB.out (.slice A6 n6 c6))
        have HNA := Aside0.mk (show IsN w.heap.size (w6.setCell ⟨g, 0, none⟩ (.slice A6 n6 c6)) g (l.take (j + 1)) from ⟨(.slice A6 n6 c6), hgA, HGB.out, by rw [HTK.out, List.map_append]; exact Kd.R_mono hRA (fun _ _ => trivial)⟩)
        clear hgA hRA hHeld fz6 v60
        go_wp2
        go_roundw
        case rel => exact ⟨rfl, j + 1, by omega, by rw [HK.out], ⟨HFB.out.symm⟩, HNA, HBA⟩
        case measure => have := HI.out; simp [intOf, HK.out]; omega
end Go.Proofs.YtchfkkpghipeiaaDoor.Q
