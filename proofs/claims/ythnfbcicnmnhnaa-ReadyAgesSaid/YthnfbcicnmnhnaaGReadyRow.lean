/- readyq: Len, Less and Push of the row. -/
import Derived.Test.YthnfbcicnmnhnaaGReadyState
namespace Go.Proofs.Ythnfbcicnmnhnaa.Q
open Go.RowKit Go.Shelf Go.Proofs.YthnfbcicnmnhnaaW.PrintWords Go.Proofs.YthnfbcicnmnhnaaW.PrintLast Go.Proofs.YthnfbcicnmnhnaaW.PrintMore
set_option linter.unusedVariables false
set_option linter.unusedSimpArgs false

set_option maxRecDepth 100000 in
set_option maxHeartbeats 2000000 in
theorem row_Len.calls (w0 w : World) (q : Nat) (cap age last : Int) (es : List En) (h : IsQ w0 w q cap age last es) :
    Calls Try.prog 21 #[.pointer (some ⟨q, 3, none⟩)] w fun e w' => e = .returned (.int .i64 (es.length : Int)) ∧ Below w.heap.size w w' := by
  obtain ⟨v, m, n, hx, _⟩ := h
  obtain ⟨A, c, rfl⟩ := hx.slice
  have y3 : w.cell? ⟨q, 3, none⟩ = some (.slice A es.length c) := (blk_cell hx.1 3).trans rfl
  clear hx
  go_enter Try.func21, Try.ntmps21
  go_wp2
  go_ret
  exact ⟨rfl, Below.refl _ _⟩
set_option maxRecDepth 100000 in
set_option maxHeartbeats 2000000 in
theorem queue_Len.calls (w0 w : World) (q : Nat) (cap age last : Int) (es : List En) (h : IsQ w0 w q cap age last es) :
    Calls Try.prog 12 #[.pointer (some ⟨q, 0, none⟩)] w fun e w' => e = .returned (.int .i64 (es.length : Int)) ∧ Below w.heap.size w w' := by
  have HQ := Aside0.mk h
  clear h
  go_enter Try.func12, Try.ntmps12
  go_wp2_with (go_at_call 21; refine (row_Len.calls w0 _ q cap age last es HQ.out).mono ?_; rintro e w1 ⟨rfl, hb⟩; have HB1 := Aside0.mk hb; clear hb)
  go_ret
  exact ⟨rfl, HB1.out⟩
set_option maxRecDepth 100000 in
set_option maxHeartbeats 4000000 in
theorem row_Less.calls (w0 w : World) (q : Nat) (cap age last : Int) (es : List En) (h : IsQ w0 w q cap age last es) (i j : Nat) (hi : i < es.length) (hj : j < es.length) (ii jj : Int) (hii : ii.toNat = i) (hi0 : 0 ≤ ii) (hjj : jj.toNat = j) (hj0 : 0 ≤ jj) :
    Calls Try.prog 65 #[.pointer (some ⟨q, 3, none⟩), .int .i64 ii, .int .i64 jj] w fun e w' => e = .returned (.bool (decide (cmpE es[i] es[j] < 0))) ∧ Below w.heap.size w w' := by
  obtain ⟨v, m, n, hx, _⟩ := h
  obtain ⟨A, c, rfl⟩ := hx.slice
  obtain ⟨a, rfl, xi, ei⟩ := hx.at_ i hi
  obtain ⟨a', e', xj, ej⟩ := hx.at_ j hj
  obtain rfl : a = a' := by simpa using e'
  have y3 : w.cell? ⟨q, 3, none⟩ = some (.slice (some ⟨a, 0, none⟩) es.length c) := (blk_cell hx.1 3).trans rfl
  have HEI := Aside0.mk ei
  have HEJ := Aside0.mk ej
  have hp1 : (0 ≤ ii) = True := eq_true hi0
  have hq1 : (ii < (es.length : Int)) = True := eq_true (by omega)
  have hp2 : (0 ≤ jj) = True := eq_true hj0
  have hq2 : (jj < (es.length : Int)) = True := eq_true (by omega)
  generalize es[i] = x at *
  generalize es[j] = y at *
  rw [← hii] at xi
  rw [← hjj] at xj
  clear hx e' ei ej hi hj hi0 hj0 hii hjj
  go_enter Try.func65, Try.ntmps65
  go_upto_region 1 with (fail)
  refine start_ (n := 17) (S := fun w' => w'.cell? ⟨q, 3, none⟩ = some (.slice (some ⟨a, 0, none⟩) es.length c) ∧ w'.cell? ⟨a, ii.toNat, none⟩ = some (.pointer (some ⟨x.b, 0, none⟩)) ∧ w'.cell? ⟨a, jj.toNat, none⟩ = some (.pointer (some ⟨y.b, 0, none⟩))) (ds := [14]) #[false, false, false, false, false, false, false, false, false, false, false, false, false, false, false, false, false] (by kernel_rfl) rfl rfl ⟨y3, xi, xj⟩ (fun hHeld => ?_)
  refine pure_ (i := 0) (N := some 7) (v := ?_) (a' := ?_) #[true, false, false, false, false, false, false, false, false, false, false, false, false, false, false, false, false] rfl rfl (by kernel_rfl) (fun _ _ _ h => h) (Or.inl ⟨by rfl, ?_⟩) ?_ ?_
  rotate_left
  · intro w'
    go_simp
    with_reducible rfl
  rotate_left
  · simp only [Act.put, List.setIfInBounds_toArray, List.set_cons_zero, List.set_cons_succ, i64_w, i32_w]
    rfl
  refine pure_ (i := 1) (N := some 8) (v := ?_) (a' := ?_) #[true, true, false, false, false, false, false, false, false, false, false, false, false, false, false, false, false] rfl rfl (by kernel_rfl) (fun _ _ _ h => h) (Or.inl ⟨by rfl, ?_⟩) ?_ ?_
  rotate_left
  · intro w'
    go_simp
    with_reducible rfl
  rotate_left
  · simp only [Act.put, List.setIfInBounds_toArray, List.set_cons_zero, List.set_cons_succ, i64_w, i32_w]
    rfl
  refine pure_ (i := 2) (N := some 9) (v := ?_) (a' := ?_) #[true, true, true, false, false, false, false, false, false, false, false, false, false, false, false, false, false] rfl rfl (by kernel_rfl) (fun _ _ _ h => h) (Or.inl ⟨by rfl, ?_⟩) ?_ ?_
  rotate_left
  · intro w'
    go_simp
    with_reducible rfl
  rotate_left
  · simp only [Act.put, List.setIfInBounds_toArray, List.set_cons_zero, List.set_cons_succ, i64_w, i32_w]
    rfl
  refine pure_ (i := 4) (N := some 11) (v := ?_) (a' := ?_) #[true, true, true, false, true, false, false, false, false, false, false, false, false, false, false, false, false] rfl rfl (by kernel_rfl) (fun _ _ _ h => h) (Or.inl ⟨by rfl, ?_⟩) ?_ ?_
  rotate_left
  · intro w'
    go_simp
    with_reducible rfl
  rotate_left
  · simp only [Act.put, List.setIfInBounds_toArray, List.set_cons_zero, List.set_cons_succ, i64_w, i32_w]
    rfl
  refine pure_ (i := 7) (N := some 14) (v := ?_) (a' := ?_) #[true, true, true, false, true, false, false, true, false, false, false, false, false, false, false, false, false] rfl rfl (by kernel_rfl) (fun _ _ _ h => h) (Or.inl ⟨by rfl, ?_⟩) ?_ ?_
  rotate_left
  · intro w'
    go_simp
    with_reducible rfl
  rotate_left
  · simp only [Act.put, List.setIfInBounds_toArray, List.set_cons_zero, List.set_cons_succ, i64_w, i32_w]
    rfl
  refine pure_ (i := 8) (N := some 15) (v := ?_) (a' := ?_) #[true, true, true, false, true, false, false, true, true, false, false, false, false, false, false, false, false] rfl rfl (by kernel_rfl) (fun _ _ _ h => h) (Or.inl ⟨by rfl, ?_⟩) ?_ ?_
  rotate_left
  · intro w'
    go_simp
    with_reducible rfl
  rotate_left
  · simp only [Act.put, List.setIfInBounds_toArray, List.set_cons_zero, List.set_cons_succ, i64_w, i32_w]
    rfl
  refine pure_ (i := 9) (N := some 16) (v := ?_) (a' := ?_) #[true, true, true, false, true, false, false, true, true, true, false, false, false, false, false, false, false] rfl rfl (by kernel_rfl) (fun _ _ _ h => h) (Or.inl ⟨by rfl, ?_⟩) ?_ ?_
  rotate_left
  · intro w'
    go_simp
    with_reducible rfl
  rotate_left
  · simp only [Act.put, List.setIfInBounds_toArray, List.set_cons_zero, List.set_cons_succ, i64_w, i32_w]
    rfl
  refine pure_ (i := 11) (N := some 18) (v := ?_) (a' := ?_) #[true, true, true, false, true, false, false, true, true, true, false, true, false, false, false, false, false] rfl rfl (by kernel_rfl) (fun _ _ _ h => h) (Or.inl ⟨by rfl, ?_⟩) ?_ ?_
  rotate_left
  · intro w'
    go_simp
    with_reducible rfl
  rotate_left
  · simp only [Act.put, List.setIfInBounds_toArray, List.set_cons_zero, List.set_cons_succ, i64_w, i32_w]
    rfl
  refine take_ (i := 3) (N := some 10) (v := ?_) (a' := ?_) #[true, true, true, true, true, false, false, true, true, true, false, true, false, false, false, false, false] rfl rfl (by kernel_rfl) (fun _ _ _ h => h) (Or.inl ⟨by rfl, ?_⟩) hHeld ?_ ?_
  rotate_left
  · rintro w' ⟨s0, s1, s2⟩
    go_simp
    with_reducible rfl
  rotate_left
  · simp only [Act.put, List.setIfInBounds_toArray, List.set_cons_zero, List.set_cons_succ, i64_w, i32_w]
    rfl
  refine pure_ (i := 5) (N := some 12) (v := ?_) (a' := ?_) #[true, true, true, true, true, true, false, true, true, true, false, true, false, false, false, false, false] rfl rfl (by kernel_rfl) (fun _ _ _ h => h) (Or.inl ⟨by rfl, ?_⟩) ?_ ?_
  rotate_left
  · intro w'
    go_simp
    with_reducible rfl
  rotate_left
  · simp only [Act.put, List.setIfInBounds_toArray, List.set_cons_zero, List.set_cons_succ, i64_w, i32_w]
    rfl
  refine take_ (i := 6) (N := some 13) (v := ?_) (a' := ?_) #[true, true, true, true, true, true, true, true, true, true, false, true, false, false, false, false, false] rfl rfl (by kernel_rfl) (fun _ _ _ h => h) (Or.inl ⟨by rfl, ?_⟩) hHeld ?_ ?_
  rotate_left
  · rintro w' ⟨s0, s1, s2⟩
    go_simp
    with_reducible rfl
  rotate_left
  · simp only [Act.put, List.setIfInBounds_toArray, List.set_cons_zero, List.set_cons_succ, i64_w, i32_w]
    rfl
  refine take_ (i := 10) (N := some 17) (v := ?_) (a' := ?_) #[true, true, true, true, true, true, true, true, true, true, true, true, false, false, false, false, false] rfl rfl (by kernel_rfl) (fun _ _ _ h => h) (Or.inl ⟨by rfl, ?_⟩) hHeld ?_ ?_
  rotate_left
  · rintro w' ⟨s0, s1, s2⟩
    go_simp
    with_reducible rfl
  rotate_left
  · simp only [Act.put, List.setIfInBounds_toArray, List.set_cons_zero, List.set_cons_succ, i64_w, i32_w]
    rfl
  refine pure_ (i := 12) (N := some 19) (v := ?_) (a' := ?_) #[true, true, true, true, true, true, true, true, true, true, true, true, true, false, false, false, false] rfl rfl (by kernel_rfl) (fun _ _ _ h => h) (Or.inl ⟨by rfl, ?_⟩) ?_ ?_
  rotate_left
  · intro w'
    go_simp
    with_reducible rfl
  rotate_left
  · simp only [Act.put, List.setIfInBounds_toArray, List.set_cons_zero, List.set_cons_succ, i64_w, i32_w]
    rfl
  refine take_ (i := 13) (N := some 20) (v := ?_) (a' := ?_) #[true, true, true, true, true, true, true, true, true, true, true, true, true, true, false, false, false] rfl rfl (by kernel_rfl) (fun _ _ _ h => h) (Or.inl ⟨by rfl, ?_⟩) hHeld ?_ ?_
  rotate_left
  · rintro w' ⟨s0, s1, s2⟩
    go_simp
    with_reducible rfl
  rotate_left
  · simp only [Act.put, List.setIfInBounds_toArray, List.set_cons_zero, List.set_cons_succ, i64_w, i32_w]
    rfl
  refine last_ (i := 14) (N := some 21) #[true, true, true, true, true, true, true, true, true, true, true, true, true, true, true, false, false] rfl rfl (by kernel_rfl) (by decide) (fun K hK => ?_)
  refine goes_ Try.func25 (by kernel_rfl) rfl #[.pointer (some ⟨x.b, 0, none⟩), .pointer (some ⟨y.b, 0, none⟩)] (by rfl) rfl rfl (by simp only [List.map_toArray, List.map_cons, List.map_nil]; rfl) ?_
  with_reducible refine (readyq_compare.calls w0 _ x y _ _ (HEI.out.below (below_drew1 (Below.refl _ _))) (HEJ.out.below (below_drew1 (Below.refl _ _)))).mono ?_
  rintro e w5 ⟨rfl, hb⟩
  refine ⟨_, rfl, ?_⟩
  have HB5 := Aside0.mk (below_step (below_drew1 (Below.refl _ _)) hb)
  clear hb
  refine hK.out _ _ ?_
  clear hK K
  refine norm_ (a' := ?_) ?_ ?_
  rotate_left
  · show Act.put _ (some 21) _ = _
    simp only [Act.put, List.setIfInBounds_toArray, List.set_cons_zero, List.set_cons_succ, i64_w, i32_w]
    rfl
  refine pure_ (i := 15) (N := some 22) (v := ?_) (a' := ?_) #[true, true, true, true, true, true, true, true, true, true, true, true, true, true, true, true, false] rfl rfl (by kernel_rfl) (fun _ _ _ h => h) (Or.inl ⟨by rfl, ?_⟩) ?_ ?_
  rotate_left
  · intro w'
    go_simp
    with_reducible rfl
  rotate_left
  · simp only [Act.put, List.setIfInBounds_toArray, List.set_cons_zero, List.set_cons_succ, i64_w, i32_w]
    rfl
  refine pure_ (i := 16) (N := some 6) (v := ?_) (a' := ?_) #[true, true, true, true, true, true, true, true, true, true, true, true, true, true, true, true, true] rfl rfl (by kernel_rfl) (fun _ _ _ h => h) (Or.inl ⟨by rfl, ?_⟩) ?_ ?_
  rotate_left
  · intro w'
    go_simp
    with_reducible rfl
  rotate_left
  · simp only [Act.put, List.setIfInBounds_toArray, List.set_cons_zero, List.set_cons_succ, i64_w, i32_w]
    rfl
  refine done_ (by kernel_rfl) ?_
  clear hHeld y3 xi xj
  go_wp2
  go_ret
  exact ⟨rfl, HB5.out⟩

theorem info59 : (Try.prog.info? 59).map (fun i => (i.zero, i.size, i.bytes)) = some (some (.pointer none), 1, 8) := by kernel_rfl
/-- An entry that is pushed. -/
theorem IsQX.push {w0 W W' : World} {q : Nat} {cap age last : Int} {es : List En} {v v' : Value} {m n : Nat} (h : IsQX w0 W q cap age last es v m n) (e : En) (he : IsEn w0 W e (es.length : Int)) (hg : W.grownBy W' v.ownBlock) (hR : (Kd.raw 1).R 59 W' w0.heap.size (fun _ => True) v' (es.map rowe ++ [rowe e])) :
    IsQX w0 (W'.setCell ⟨q, 3, none⟩ v') q cap age last (es ++ [e]) v' m n := by
  obtain ⟨h1, h2, h3, h4, h5⟩ := h
  have hg' := blk_grown h1 hg (Kd.R_ne h3 h1 (by decide))
  have hm1 : (Kd.raw 1).R 59 W w0.heap.size (fun k => True ∧ k ≠ m) v (es.map rowe) := Kd.R_mono (Kd.R_bound h3) (fun k hk => ⟨trivial, fun e => by
    obtain ⟨_, _, _, q', _, cells, hc⟩ := hk
    exact h4.1.ne hc e.symm⟩)
  have hmv : some m ≠ v.ownBlock := fun e => (hm1.1 m e.symm).2 rfl
  have hm' : HasM W' m n := h4.1.step (hg.block m h4.1.lt hmv)
  have hek : ∀ x pl, IsEn w0 W x pl → IsEn w0 (W'.setCell ⟨q, 3, none⟩ v') x pl := fun x pl hx =>
    ⟨blk_far (blk_grown hx.1 hg (Kd.R_ne h3 hx.1 (by decide))) (blk_ne (blk_grown hx.1 hg (Kd.R_ne h3 hx.1 (by decide))) hg' (by decide)) v', hx.2⟩
  refine ⟨blk_put hg' 3 v' rfl, h2, ?_, ⟨hm'.step (Below.heap_setCell _ _ _ m (hm'.ne hg')), h4.2⟩, fun j x hj => ?_⟩
  · rw [List.map_append]
    exact Kd.R_set hR hg' (by decide) 3 v'
  · by_cases hl : j < es.length
    · rw [List.getElem?_append_left hl] at hj
      exact hek _ _ (h5 j x hj)
    · rw [List.getElem?_append_right (by omega)] at hj
      have h0 : j - es.length = 0 := by
        cases hd : j - es.length with
        | zero => rfl
        | succ d => rw [hd] at hj; cases hj
      rw [h0] at hj
      cases hj
      have : j = es.length := by omega
      subst this
      exact hek _ _ he
set_option maxRecDepth 100000 in
set_option maxHeartbeats 4000000 in
theorem row_Push.calls (w0 w : World) (q : Nat) (cap age last : Int) (es : List En) (v : Value) (m n : Nat) (h : IsQX w0 w q cap age last es v m n) (e : En) (pl : Int) (he : IsEn w0 w e pl) (hd : ∀ x ∈ es, x.b ≠ e.b) (hl : es.length < 1000000) (hb : Below w0.heap.size w0 w) :
    Calls Try.prog 67 #[.pointer (some ⟨q, 3, none⟩), .iface 59 (.pointer (some ⟨e.b, 0, none⟩))] w fun en w' => ∃ v', en = .returned (.tuple #[]) ∧ IsQX w0 w' q cap age last (es ++ [e]) v' m n ∧ Below w0.heap.size w0 w' := by
  obtain ⟨A, c, rfl⟩ := h.slice
  have y3 : w.cell? ⟨q, 3, none⟩ = some (.slice A es.length c) := (blk_cell h.1 3).trans rfl
  have e3 : w.cell? ⟨e.b, 3, none⟩ = some (.int .i64 pl) := (blk_cell he.1 3).trans rfl
  have fe3 := blk_frozen he.1 3
  have HX1 := Aside0.mk (show IsQX w0 (w.setCell ⟨e.b, 3, none⟩ (.int .i64 (es.length : Int))) q cap age last es (.slice A es.length c) m n from by
    obtain ⟨h1, h2, h3, h4, h5⟩ := h
    refine ⟨blk_far h1 (blk_ne h1 he.1 (by decide)) _, h2, Kd.R_set h3 he.1 (by decide) 3 _, ⟨h4.1.step (Below.heap_setCell _ _ _ m (h4.1.ne he.1)), h4.2⟩, fun j x hj => ⟨blk_far (h5 j x hj).1 (hd x (List.mem_of_getElem? hj)) _, (h5 j x hj).2⟩⟩)
  have HE1 := Aside0.mk (show IsEn w0 (w.setCell ⟨e.b, 3, none⟩ (.int .i64 (es.length : Int))) e (es.length : Int) from ⟨blk_put he.1 3 _ rfl, he.2⟩)
  have HB1 := Aside0.mk (hb.setCell (p := ⟨e.b, 3, none⟩) he.2 (.int .i64 (es.length : Int)))
  have HL := Aside0.mk hl
  clear h he hd hb hl
  have hta : ∀ W : World, (Instr.typeAssert (.iface 59 (.pointer (some ⟨e.b, 0, none⟩))) 20 59 false).run Try.prog W = .ok (.pointer (some ⟨e.b, 0, none⟩)) W := fun _ => by kernel_rfl
  go_enter Try.func67, Try.ntmps67
  go_upto_region 2 with (fail)
  clear y3 e3 fe3 hta
  generalize w.setCell ⟨e.b, 3, none⟩ (.int .i64 (es.length : Int)) = W1 at *
  have y3 : W1.cell? ⟨q, 3, none⟩ = some (.slice A es.length c) := (blk_cell HX1.out.1 3).trans rfl
  go_wp2_with (first | ((with_reducible refine gate_builtin (b := .append) (xs := #[.tmp 19, .tmp 21]) rfl ?_); at_builtin; refine Kd.R_append (Kd.raw 1) (w0 := w0) w0.heap.size rfl (.tmp 19) (.tmp 21) 54 59 (.pointer none) 8 rfl Try.underlying54 info59 rfl (by decide) (by decide) (.slice A es.length c) (es.map rowe) (rowe e) (rowe e) (fun _ => True) (fun _ => False) rfl rfl ⟨rfl, rfl, by intro u hu; simp [rowe] at hu; subst hu; rfl⟩ (fun _ h => h.elim) (fun _ _ => trivial) HX1.out.2.2.1 HB1.out HB1.out.size ?aL ?_; (case aL => have := HL.out; rw [List.length_map]; omega); intro v7 w7 hR7 hB7 hg7 hat7; have HX7 := Aside0.mk (HX1.out.push e HE1.out hg7 hR7); have HB7 := Aside0.mk (hB7.setCell (p := ⟨q, 3, none⟩) HX1.out.2.1 v7); have y7 : w7.cell? ⟨q, 3, none⟩ = some (.slice A es.length c) := (blk_cell (blk_grown HX1.out.1 hg7 (Kd.R_ne HX1.out.2.2.1 HX1.out.1 (by decide))) 3).trans rfl; have fz7 := blk_frozen (blk_grown HX1.out.1 hg7 (Kd.R_ne HX1.out.2.2.1 HX1.out.1 (by decide))) 3; obtain ⟨A7, n7, c7, rfl⟩ : ∃ A n c, v7 = .slice A n c := (by obtain ⟨A, c, e, _⟩ := Kd.R_reads hR7; exact ⟨A, _, c, e⟩); clear hR7 hB7 hg7 hat7))
  go_end0
  exact ⟨_, rfl, HX7.out, HB7.out⟩
end Go.Proofs.Ythnfbcicnmnhnaa.Q
