/- readyq: Len, Less, Swap, Push and Pop of the row. -/
import Derived.Test.YthnfbcicnmnhnaaGRqState
namespace Go.Proofs.Ythnfbcicnmnhnaa.Q
open Go.RowKit Go.Shelf Go.Proofs.YthnfbcicnmnhnaaW.PrintWords Go.Proofs.YthnfbcicnmnhnaaW.PrintLast Go.Proofs.YthnfbcicnmnhnaaW.PrintMore
set_option linter.unusedVariables false
set_option linter.unusedSimpArgs false

set_option maxRecDepth 100000 in
set_option maxHeartbeats 2000000 in
theorem row_Len.calls (w0 w : World) (q : Nat) (cap age last : Int) (es : List En) (v : Value) (m n : Nat) (ms : List En) (hx : IsQX w0 w q cap age last es v m n ms) :
    Calls Try.prog 21 #[.pointer (some ⟨q, 3, none⟩)] w fun e w' => e = .returned (.int .i64 (es.length : Int)) ∧ Below w.heap.size w w' := by
  obtain ⟨A, c, rfl⟩ := hx.slice
  have y3 : w.cell? ⟨q, 3, none⟩ = some (.slice A es.length c) := (blk_cell hx.1 3).trans rfl
  clear hx
  go_enter Try.func21, Try.ntmps21
  go_wp2
  go_ret
  exact ⟨rfl, Below.refl _ _⟩
set_option maxRecDepth 100000 in
set_option maxHeartbeats 2000000 in
theorem queue_Len.calls (w0 w : World) (q : Nat) (cap age last : Int) (es : List En) (v : Value) (m n : Nat) (ms : List En) (h : IsQX w0 w q cap age last es v m n ms) :
    Calls Try.prog 12 #[.pointer (some ⟨q, 0, none⟩)] w fun e w' => e = .returned (.int .i64 (es.length : Int)) ∧ Below w.heap.size w w' := by
  have HQ := Aside0.mk h
  clear h
  go_enter Try.func12, Try.ntmps12
  go_wp2_with (go_at_call 21; refine (row_Len.calls w0 _ q cap age last es v m n ms HQ.out).mono ?_; rintro e w1 ⟨rfl, hb⟩; have HB1 := Aside0.mk hb; clear hb)
  go_ret
  exact ⟨rfl, HB1.out⟩
set_option maxRecDepth 100000 in
set_option maxHeartbeats 4000000 in
theorem row_Less.calls (w0 w : World) (q : Nat) (cap age last : Int) (es : List En) (v : Value) (m n : Nat) (ms : List En) (hx : IsQX w0 w q cap age last es v m n ms) (i j : Nat) (hi : i < es.length) (hj : j < es.length) (ii jj : Int) (hii : ii.toNat = i) (hi0 : 0 ≤ ii) (hjj : jj.toNat = j) (hj0 : 0 ≤ jj) :
    Calls Try.prog 65 #[.pointer (some ⟨q, 3, none⟩), .int .i64 ii, .int .i64 jj] w fun e w' => e = .returned (.bool (decide (cmpE es[i] es[j] < 0))) ∧ Below w.heap.size w w' := by
  obtain ⟨A, c, rfl⟩ := hx.slice
  obtain ⟨a, rfl, xi, ei⟩ := hx.at_ i hi
  obtain ⟨a', e', xj, ej⟩ := hx.at_ j hj
  obtain rfl : a = a' := by simpa using e'
  have y3 : w.cell? ⟨q, 3, none⟩ = some (.slice (some ⟨a, 0, none⟩) es.length c) := (blk_cell hx.1 3).trans rfl
  have HEI := Aside0.mk ei
  have HEJ := Aside0.mk ej
  have hp1 : (0 ≤ ii) = True := eq_true hi0
  have hq1 : (ii < (es.length : Int)) = True := eq_true (by omega)
  have hp2 : (0 ≤ jj) = True := eq_true hj0
  have hq2 : (jj < (es.length : Int)) = True := eq_true (by omega)
  generalize es[i] = x at *
  generalize es[j] = y at *
  rw [← hii] at xi
  rw [← hjj] at xj
  clear hx e' ei ej hi hj hi0 hj0 hii hjj
  go_enter Try.func65, Try.ntmps65
  go_upto_region 1 with (fail)
  refine start_ (n := 17) (S := fun w' => w'.cell? ⟨q, 3, none⟩ = some (.slice (some ⟨a, 0, none⟩) es.length c) ∧ w'.cell? ⟨a, ii.toNat, none⟩ = some (.pointer (some ⟨x.b, 0, none⟩)) ∧ w'.cell? ⟨a, jj.toNat, none⟩ = some (.pointer (some ⟨y.b, 0, none⟩))) (ds := [14]) #[false, false, false, false, false, false, false, false, false, false, false, false, false, false, false, false, false] (by kernel_rfl) rfl rfl ⟨y3, xi, xj⟩ (fun hHeld => ?_)
  refine pure_ (i := 0) (N := some 7) (v := ?_) (a' := ?_) #[true, false, false, false, false, false, false, false, false, false, false, false, false, false, false, false, false] rfl rfl (by kernel_rfl) (fun _ _ _ h => h) (Or.inl ⟨by rfl, ?_⟩) ?_ ?_
  rotate_left
  · intro w'
    go_simp
    with_reducible rfl
  rotate_left
  · simp only [Act.put, List.setIfInBounds_toArray, List.set_cons_zero, List.set_cons_succ, i64_w, i32_w]
    rfl
  refine pure_ (i := 1) (N := some 8) (v := ?_) (a' := ?_) #[true, true, false, false, false, false, false, false, false, false, false, false, false, false, false, false, false] rfl rfl (by kernel_rfl) (fun _ _ _ h => h) (Or.inl ⟨by rfl, ?_⟩) ?_ ?_
  rotate_left
  · intro w'
    go_simp
    with_reducible rfl
  rotate_left
  · simp only [Act.put, List.setIfInBounds_toArray, List.set_cons_zero, List.set_cons_succ, i64_w, i32_w]
    rfl
  refine pure_ (i := 2) (N := some 9) (v := ?_) (a' := ?_) #[true, true, true, false, false, false, false, false, false, false, false, false, false, false, false, false, false] rfl rfl (by kernel_rfl) (fun _ _ _ h => h) (Or.inl ⟨by rfl, ?_⟩) ?_ ?_
  rotate_left
  · intro w'
    go_simp
    with_reducible rfl
  rotate_left
  · simp only [Act.put, List.setIfInBounds_toArray, List.set_cons_zero, List.set_cons_succ, i64_w, i32_w]
    rfl
  refine pure_ (i := 4) (N := some 11) (v := ?_) (a' := ?_) #[true, true, true, false, true, false, false, false, false, false, false, false, false, false, false, false, false] rfl rfl (by kernel_rfl) (fun _ _ _ h => h) (Or.inl ⟨by rfl, ?_⟩) ?_ ?_
  rotate_left
  · intro w'
    go_simp
    with_reducible rfl
  rotate_left
  · simp only [Act.put, List.setIfInBounds_toArray, List.set_cons_zero, List.set_cons_succ, i64_w, i32_w]
    rfl
  refine pure_ (i := 7) (N := some 14) (v := ?_) (a' := ?_) #[true, true, true, false, true, false, false, true, false, false, false, false, false, false, false, false, false] rfl rfl (by kernel_rfl) (fun _ _ _ h => h) (Or.inl ⟨by rfl, ?_⟩) ?_ ?_
  rotate_left
  · intro w'
    go_simp
    with_reducible rfl
  rotate_left
  · simp only [Act.put, List.setIfInBounds_toArray, List.set_cons_zero, List.set_cons_succ, i64_w, i32_w]
    rfl
  refine pure_ (i := 8) (N := some 15) (v := ?_) (a' := ?_) #[true, true, true, false, true, false, false, true, true, false, false, false, false, false, false, false, false] rfl rfl (by kernel_rfl) (fun _ _ _ h => h) (Or.inl ⟨by rfl, ?_⟩) ?_ ?_
  rotate_left
  · intro w'
    go_simp
    with_reducible rfl
  rotate_left
  · simp only [Act.put, List.setIfInBounds_toArray, List.set_cons_zero, List.set_cons_succ, i64_w, i32_w]
    rfl
  refine pure_ (i := 9) (N := some 16) (v := ?_) (a' := ?_) #[true, true, true, false, true, false, false, true, true, true, false, false, false, false, false, false, false] rfl rfl (by kernel_rfl) (fun _ _ _ h => h) (Or.inl ⟨by rfl, ?_⟩) ?_ ?_
  rotate_left
  · intro w'
    go_simp
    with_reducible rfl
  rotate_left
  · simp only [Act.put, List.setIfInBounds_toArray, List.set_cons_zero, List.set_cons_succ, i64_w, i32_w]
    rfl
  refine pure_ (i := 11) (N := some 18) (v := ?_) (a' := ?_) #[true, true, true, false, true, false, false, true, true, true, false, true, false, false, false, false, false] rfl rfl (by kernel_rfl) (fun _ _ _ h => h) (Or.inl ⟨by rfl, ?_⟩) ?_ ?_
  rotate_left
  · intro w'
    go_simp
    with_reducible rfl
  rotate_left
  · simp only [Act.put, List.setIfInBounds_toArray, List.set_cons_zero, List.set_cons_succ, i64_w, i32_w]
    rfl
  refine take_ (i := 3) (N := some 10) (v := ?_) (a' := ?_) #[true, true, true, true, true, false, false, true, true, true, false, true, false, false, false, false, false] rfl rfl (by kernel_rfl) (fun _ _ _ h => h) (Or.inl ⟨by rfl, ?_⟩) hHeld ?_ ?_
  rotate_left
  · rintro w' ⟨s0, s1, s2⟩
    go_simp
    with_reducible rfl
  rotate_left
  · simp only [Act.put, List.setIfInBounds_toArray, List.set_cons_zero, List.set_cons_succ, i64_w, i32_w]
    rfl
  refine pure_ (i := 5) (N := some 12) (v := ?_) (a' := ?_) #[true, true, true, true, true, true, false, true, true, true, false, true, false, false, false, false, false] rfl rfl (by kernel_rfl) (fun _ _ _ h => h) (Or.inl ⟨by rfl, ?_⟩) ?_ ?_
  rotate_left
  · intro w'
    go_simp
    with_reducible rfl
  rotate_left
  · simp only [Act.put, List.setIfInBounds_toArray, List.set_cons_zero, List.set_cons_succ, i64_w, i32_w]
    rfl
  refine take_ (i := 6) (N := some 13) (v := ?_) (a' := ?_) #[true, true, true, true, true, true, true, true, true, true, false, true, false, false, false, false, false] rfl rfl (by kernel_rfl) (fun _ _ _ h => h) (Or.inl ⟨by rfl, ?_⟩) hHeld ?_ ?_
  rotate_left
  · rintro w' ⟨s0, s1, s2⟩
    go_simp
    with_reducible rfl
  rotate_left
  · simp only [Act.put, List.setIfInBounds_toArray, List.set_cons_zero, List.set_cons_succ, i64_w, i32_w]
    rfl
  refine take_ (i := 10) (N := some 17) (v := ?_) (a' := ?_) #[true, true, true, true, true, true, true, true, true, true, true, true, false, false, false, false, false] rfl rfl (by kernel_rfl) (fun _ _ _ h => h) (Or.inl ⟨by rfl, ?_⟩) hHeld ?_ ?_
  rotate_left
  · rintro w' ⟨s0, s1, s2⟩
    go_simp
    with_reducible rfl
  rotate_left
  · simp only [Act.put, List.setIfInBounds_toArray, List.set_cons_zero, List.set_cons_succ, i64_w, i32_w]
    rfl
  refine pure_ (i := 12) (N := some 19) (v := ?_) (a' := ?_) #[true, true, true, true, true, true, true, true, true, true, true, true, true, false, false, false, false] rfl rfl (by kernel_rfl) (fun _ _ _ h => h) (Or.inl ⟨by rfl, ?_⟩) ?_ ?_
  rotate_left
  · intro w'
    go_simp
    with_reducible rfl
  rotate_left
  · simp only [Act.put, List.setIfInBounds_toArray, List.set_cons_zero, List.set_cons_succ, i64_w, i32_w]
    rfl
  refine take_ (i := 13) (N := some 20) (v := ?_) (a' := ?_) #[true, true, true, true, true, true, true, true, true, true, true, true, true, true, false, false, false] rfl rfl (by kernel_rfl) (fun _ _ _ h => h) (Or.inl ⟨by rfl, ?_⟩) hHeld ?_ ?_
  rotate_left
  · rintro w' ⟨s0, s1, s2⟩
    go_simp
    with_reducible rfl
  rotate_left
  · simp only [Act.put, List.setIfInBounds_toArray, List.set_cons_zero, List.set_cons_succ, i64_w, i32_w]
    rfl
  refine last_ (i := 14) (N := some 21) #[true, true, true, true, true, true, true, true, true, true, true, true, true, true, true, false, false] rfl rfl (by kernel_rfl) (by decide) (fun K hK => ?_)
  refine goes_ Try.func25 (by kernel_rfl) rfl #[.pointer (some ⟨x.b, 0, none⟩), .pointer (some ⟨y.b, 0, none⟩)] (by rfl) rfl rfl (by simp only [List.map_toArray, List.map_cons, List.map_nil]; rfl) ?_
  with_reducible refine (readyq_compare.calls w0 _ x y _ _ (HEI.out.below (below_drew1 (Below.refl _ _))) (HEJ.out.below (below_drew1 (Below.refl _ _)))).mono ?_
  rintro e w5 ⟨rfl, hb⟩
  refine ⟨_, rfl, ?_⟩
  have HB5 := Aside0.mk (below_step (below_drew1 (Below.refl _ _)) hb)
  clear hb
  refine hK.out _ _ ?_
  clear hK K
  refine norm_ (a' := ?_) ?_ ?_
  rotate_left
  · show Act.put _ (some 21) _ = _
    simp only [Act.put, List.setIfInBounds_toArray, List.set_cons_zero, List.set_cons_succ, i64_w, i32_w]
    rfl
  refine pure_ (i := 15) (N := some 22) (v := ?_) (a' := ?_) #[true, true, true, true, true, true, true, true, true, true, true, true, true, true, true, true, false] rfl rfl (by kernel_rfl) (fun _ _ _ h => h) (Or.inl ⟨by rfl, ?_⟩) ?_ ?_
  rotate_left
  · intro w'
    go_simp
    with_reducible rfl
  rotate_left
  · simp only [Act.put, List.setIfInBounds_toArray, List.set_cons_zero, List.set_cons_succ, i64_w, i32_w]
    rfl
  refine pure_ (i := 16) (N := some 6) (v := ?_) (a' := ?_) #[true, true, true, true, true, true, true, true, true, true, true, true, true, true, true, true, true] rfl rfl (by kernel_rfl) (fun _ _ _ h => h) (Or.inl ⟨by rfl, ?_⟩) ?_ ?_
  rotate_left
  · intro w'
    go_simp
    with_reducible rfl
  rotate_left
  · simp only [Act.put, List.setIfInBounds_toArray, List.set_cons_zero, List.set_cons_succ, i64_w, i32_w]
    rfl
  refine done_ (by kernel_rfl) ?_
  clear hHeld y3 xi xj
  go_wp2
  go_ret
  exact ⟨rfl, HB5.out⟩

theorem info59 : (Try.prog.info? 59).map (fun i => (i.zero, i.size, i.bytes)) = some (some (.pointer none), 1, 8) := by kernel_rfl
/-- An entry that is pushed. -/
theorem IsQX.push {w0 W W' : World} {q : Nat} {cap age last : Int} {es : List En} {v v' : Value} {m n : Nat} {ms : List En} (h : IsQX w0 W q cap age last es v m n ms) (e : En) (he : IsEn w0 W e (es.length : Int)) (hg : W.grownBy W' v.ownBlock) (hR : (Kd.raw 1).R 59 W' w0.heap.size (fun _ => True) v' (es.map rowe ++ [rowe e])) :
    IsQX w0 (W'.setCell ⟨q, 3, none⟩ v') q cap age last (es ++ [e]) v' m n ms := by
  obtain ⟨h1, h2, h3, h4, h5⟩ := h
  have hg' := blk_grown h1 hg (Kd.R_ne h3 h1 (by decide))
  have hm1 : (Kd.raw 1).R 59 W w0.heap.size (fun k => True ∧ k ≠ m) v (es.map rowe) := Kd.R_mono (Kd.R_bound h3) (fun k hk => ⟨trivial, fun e => by
    obtain ⟨_, _, _, q', _, cells, hc⟩ := hk
    exact h4.1.ne hc e.symm⟩)
  have hmv : some m ≠ v.ownBlock := fun e => (hm1.1 m e.symm).2 rfl
  have hm' : HasM W' m n ms := h4.1.step (hg.block m h4.1.lt hmv)
  have hek : ∀ x pl, IsEn w0 W x pl → IsEn w0 (W'.setCell ⟨q, 3, none⟩ v') x pl := fun x pl hx =>
    ⟨blk_far (blk_grown hx.1 hg (Kd.R_ne h3 hx.1 (by decide))) (blk_ne (blk_grown hx.1 hg (Kd.R_ne h3 hx.1 (by decide))) hg' (by decide)) v', hx.2⟩
  refine ⟨blk_put hg' 3 v' rfl, h2, ?_, ⟨hm'.step (Below.heap_setCell _ _ _ m (hm'.ne hg')), h4.2⟩, fun j x hj => ?_⟩
  · rw [List.map_append]
    exact Kd.R_set hR hg' (by decide) 3 v'
  · by_cases hl : j < es.length
    · rw [List.getElem?_append_left hl] at hj
      exact hek _ _ (h5 j x hj)
    · rw [List.getElem?_append_right (by omega)] at hj
      have h0 : j - es.length = 0 := by
        cases hd : j - es.length with
        | zero => rfl
        | succ d => rw [hd] at hj; cases hj
      rw [h0] at hj
      cases hj
      have : j = es.length := by omega
      subst this
      exact hek _ _ he
set_option maxRecDepth 100000 in
set_option maxHeartbeats 4000000 in
theorem row_Push.calls (w0 w : World) (q : Nat) (cap age last : Int) (es : List En) (v : Value) (m n : Nat) (ms : List En) (h : IsQX w0 w q cap age last es v m n ms) (e : En) (pl : Int) (he : IsEn w0 w e pl) (hd : ∀ x ∈ es, x.b ≠ e.b) (hl : es.length < 1000000) (hb : Below w0.heap.size w0 w) :
    Calls Try.prog 67 #[.pointer (some ⟨q, 3, none⟩), .iface 59 (.pointer (some ⟨e.b, 0, none⟩))] w fun en w' => ∃ v', en = .returned (.tuple #[]) ∧ IsQX w0 w' q cap age last (es ++ [e]) v' m n ms ∧ Below w0.heap.size w0 w' := by
  obtain ⟨A, c, rfl⟩ := h.slice
  have y3 : w.cell? ⟨q, 3, none⟩ = some (.slice A es.length c) := (blk_cell h.1 3).trans rfl
  have e3 : w.cell? ⟨e.b, 3, none⟩ = some (.int .i64 pl) := (blk_cell he.1 3).trans rfl
  have fe3 := blk_frozen he.1 3
  have HX1 := Aside0.mk (show IsQX w0 (w.setCell ⟨e.b, 3, none⟩ (.int .i64 (es.length : Int))) q cap age last es (.slice A es.length c) m n ms from by
    obtain ⟨h1, h2, h3, h4, h5⟩ := h
    refine ⟨blk_far h1 (blk_ne h1 he.1 (by decide)) _, h2, Kd.R_set h3 he.1 (by decide) 3 _, ⟨h4.1.step (Below.heap_setCell _ _ _ m (h4.1.ne he.1)), h4.2⟩, fun j x hj => ⟨blk_far (h5 j x hj).1 (hd x (List.mem_of_getElem? hj)) _, (h5 j x hj).2⟩⟩)
  have HE1 := Aside0.mk (show IsEn w0 (w.setCell ⟨e.b, 3, none⟩ (.int .i64 (es.length : Int))) e (es.length : Int) from ⟨blk_put he.1 3 _ rfl, he.2⟩)
  have HB1 := Aside0.mk (hb.setCell (p := ⟨e.b, 3, none⟩) he.2 (.int .i64 (es.length : Int)))
  have HL := Aside0.mk hl
  clear h he hd hb hl
  have hta : ∀ W : World, (Instr.typeAssert (.iface 59 (.pointer (some ⟨e.b, 0, none⟩))) 20 59 false).run Try.prog W = .ok (.pointer (some ⟨e.b, 0, none⟩)) W := fun _ => by kernel_rfl
  go_enter Try.func67, Try.ntmps67
  go_upto_region 2 with (fail)
  clear y3 e3 fe3 hta
  generalize w.setCell ⟨e.b, 3, none⟩ (.int .i64 (es.length : Int)) = W1 at *
  have y3 : W1.cell? ⟨q, 3, none⟩ = some (.slice A es.length c) := (blk_cell HX1.out.1 3).trans rfl
  go_wp2_with (first | ((with_reducible refine gate_builtin (b := .append) (xs := #[.tmp 19, .tmp 21]) rfl ?_); at_builtin; refine Kd.R_append (Kd.raw 1) (w0 := w0) w0.heap.size rfl (.tmp 19) (.tmp 21) 54 59 (.pointer none) 8 rfl Try.underlying54 info59 rfl (by decide) (by decide) (.slice A es.length c) (es.map rowe) (rowe e) (rowe e) (fun _ => True) (fun _ => False) rfl rfl ⟨rfl, rfl, by intro u hu; simp [rowe] at hu; subst hu; rfl⟩ (fun _ h => h.elim) (fun _ _ => trivial) HX1.out.2.2.1 HB1.out HB1.out.size ?aL ?_; (case aL => have := HL.out; rw [List.length_map]; omega); intro v7 w7 hR7 hB7 hg7 hat7; have HX7 := Aside0.mk (HX1.out.push e HE1.out hg7 hR7); have HB7 := Aside0.mk (hB7.setCell (p := ⟨q, 3, none⟩) HX1.out.2.1 v7); have y7 : w7.cell? ⟨q, 3, none⟩ = some (.slice A es.length c) := (blk_cell (blk_grown HX1.out.1 hg7 (Kd.R_ne HX1.out.2.2.1 HX1.out.1 (by decide))) 3).trans rfl; have fz7 := blk_frozen (blk_grown HX1.out.1 hg7 (Kd.R_ne HX1.out.2.2.1 HX1.out.1 (by decide))) 3; obtain ⟨A7, n7, c7, rfl⟩ : ∃ A n c, v7 = .slice A n c := (by obtain ⟨A, c, e, _⟩ := Kd.R_reads hR7; exact ⟨A, _, c, e⟩); clear hR7 hB7 hg7 hat7))
  go_end0
  exact ⟨_, rfl, HX7.out, HB7.out⟩

/-! ### two turned -/
theorem IsQX.apart {w0 W : World} {q : Nat} {cap age last : Int} {es : List En} {v : Value} {m n : Nat} {ms : List En} (h : IsQX w0 W q cap age last es v m n ms) {i j : Nat} (hi : i < es.length) (hj : j < es.length) (hij : i ≠ j) : es[i].b ≠ es[j].b := fun e => by
  have h1 := (h.2.2.2.2 i _ (List.getElem?_eq_getElem hi)).1
  have h2 := (h.2.2.2.2 j _ (List.getElem?_eq_getElem hj)).1
  rw [e, h2] at h1
  simp only [Option.some.injEq, Obj.cells.injEq, Array.mk.injEq, List.cons.injEq, Value.int.injEq, true_and] at h1
  omega
theorem setCells_one (W : World) (g o : Nat) (v : Value) : W.setCells g (o * 1 + 0) [v] = W.setCell ⟨g, o, none⟩ v := by
  simp [World.setCells]
theorem R_turn {w0 W : World} {es : List En} {a c : Nat} (h : (Kd.raw 1).R 59 W w0.heap.size (fun _ => True) (.slice (some ⟨a, 0, none⟩) es.length c) (es.map rowe)) (i : Nat) (hi : i < es.length) (e : En) :
    (Kd.raw 1).R 59 (W.setCell ⟨a, i, none⟩ (.pointer (some ⟨e.b, 0, none⟩))) w0.heap.size (fun _ => True) (.slice (some ⟨a, 0, none⟩) es.length c) ((es.set i e).map rowe) := by
  obtain ⟨cs, hcl, hM, hcc, _⟩ := Kd.R_elem h [] (i : Int) (by omega) (by omega)
  have hc : cs = rowe es[i] := by
    have h6 : cs = (es.map rowe).getD (i : Int).toNat [] := hM.1
    rw [Int.toNat_natCast, List.getD_eq_getElem?_getD, List.getElem?_map, List.getElem?_eq_getElem hi] at h6
    exact h6
  subst hc
  have hx : (Kd.raw 1).R 59 W w0.heap.size (fun k => True ∧ k ≠ a ∨ True) (.slice (some ⟨a, 0, none⟩) es.length c) (es.map rowe) := Kd.R_mono h (fun _ _ => .inr trivial)
  have h6 := (Kd.R_seg h (i : Int) (by omega) (by omega) (c := rowe es[i]) (seg := [.pointer (some ⟨e.b, 0, none⟩)]) (j := 0) (x' := rowe e) (okp := fun _ => False) hcl hcc (show 0 + 1 ≤ 1 by decide) ⟨rfl, rfl, by intro u hu; simp [rowe] at hu; subst hu; rfl⟩ (fun _ hk => hk.elim)).1
  rw [Int.toNat_natCast, show (Kd.raw 1).sz = 1 from rfl, setCells_one] at h6
  rw [List.map_set]
  exact h6
theorem IsQX.swap {w0 W : World} {q : Nat} {cap age last : Int} {es : List En} {a c m n : Nat} {ms : List En} (h : IsQX w0 W q cap age last es (.slice (some ⟨a, 0, none⟩) es.length c) m n ms) {i j : Nat} (hi : i < es.length) (hj : j < es.length) (hij : i ≠ j) :
    IsQX w0 ((((W.setCell ⟨a, i, none⟩ (.pointer (some ⟨es[j].b, 0, none⟩))).setCell ⟨a, j, none⟩ (.pointer (some ⟨es[i].b, 0, none⟩))).setCell ⟨es[j].b, 3, none⟩ (.int .i64 (i : Int))).setCell ⟨es[i].b, 3, none⟩ (.int .i64 (j : Int))) q cap age last (Hp.swapL es i j) (.slice (some ⟨a, 0, none⟩) es.length c) m n ms := by
  have hap := h.apart hi hj hij
  have hall : ∀ k (hk : k < es.length), k ≠ i → k ≠ j → es[k].b ≠ es[i].b ∧ es[k].b ≠ es[j].b := fun k hk h1 h2 => ⟨h.apart hk hi h1, h.apart hk hj h2⟩
  obtain ⟨h1, h2, h3, h4, h5⟩ := h
  obtain ⟨a', cap', ev, hge, hlt, cells, hca⟩ := Kd.R_form h3 (by rw [List.length_map]; omega)
  obtain rfl : a = a' := by injection ev with ev; injection ev with ev; injection ev
  have bi := h5 i _ (List.getElem?_eq_getElem hi)
  have bj := h5 j _ (List.getElem?_eq_getElem hj)
  have nea : ∀ {b : Nat} {cs : Array Value} {t : TypeId}, W.heap[b]? = some (.cells cs t (0, 0)) → t ≠ 59 → b ≠ a := fun hb ht e => by
    rw [e, hca] at hb
    simp only [Option.some.injEq, Obj.cells.injEq] at hb
    exact ht hb.2.1.symm
  have nqi : q ≠ es[i].b := blk_ne h1 bi.1 (by decide)
  have nqj : q ≠ es[j].b := blk_ne h1 bj.1 (by decide)
  have nma : m ≠ a := h4.1.ne hca
  have hR1 := R_turn h3 i hi es[j]
  have hl1 : (es.set i es[j]).length = es.length := by simp
  rw [← hl1] at hR1
  have hR2 := R_turn hR1 j (by rw [hl1]; exact hj) es[i]
  rw [hl1] at hR2
  have bi2 : ((W.setCell ⟨a, i, none⟩ (.pointer (some ⟨es[j].b, 0, none⟩))).setCell ⟨a, j, none⟩ (.pointer (some ⟨es[i].b, 0, none⟩))).heap[es[i].b]? = _ := blk_far (blk_far bi.1 (p := ⟨a, i, none⟩) (nea bi.1 (by decide)) _) (p := ⟨a, j, none⟩) (nea bi.1 (by decide)) _
  have bj2 : ((W.setCell ⟨a, i, none⟩ (.pointer (some ⟨es[j].b, 0, none⟩))).setCell ⟨a, j, none⟩ (.pointer (some ⟨es[i].b, 0, none⟩))).heap[es[j].b]? = _ := blk_far (blk_far bj.1 (p := ⟨a, i, none⟩) (nea bj.1 (by decide)) _) (p := ⟨a, j, none⟩) (nea bj.1 (by decide)) _
  have bj3 := blk_put bj2 3 (.int .i64 (i : Int)) rfl
  have bi3 := blk_far bi2 (p := ⟨es[j].b, 3, none⟩) hap (.int .i64 (i : Int))
  have bi4 := blk_put bi3 3 (.int .i64 (j : Int)) rfl
  have bj4 := blk_far bj3 (p := ⟨es[i].b, 3, none⟩) hap.symm (.int .i64 (j : Int))
  refine ⟨blk_far (blk_far (blk_far (blk_far h1 (p := ⟨a, i, none⟩) (nea h1 (by decide)) _) (p := ⟨a, j, none⟩) (nea h1 (by decide)) _) (p := ⟨es[j].b, 3, none⟩) nqj _) (p := ⟨es[i].b, 3, none⟩) nqi _, h2, ?_, ⟨((((h4.1.step (Below.heap_setCell _ _ _ m nma)).step (Below.heap_setCell _ _ _ m nma)).step (Below.heap_setCell _ _ _ m (h4.1.ne bj.1))).step (Below.heap_setCell _ _ _ m (h4.1.ne bi.1))), h4.2⟩, fun k e hk => ?_⟩
  · rw [Hp.swap_eq hi hj]
    exact Kd.R_set (Kd.R_set hR2 bj2 (by decide) 3 _) bi3 (by decide) 3 _
  · rw [Hp.swap_get hi hj] at hk
    by_cases ekj : k = j
    · rw [if_pos ekj, List.getElem?_eq_getElem hi] at hk
      obtain rfl := Option.some.inj hk
      rw [ekj]
      exact ⟨bi4, bi.2⟩
    · rw [if_neg ekj] at hk
      by_cases eki : k = i
      · rw [if_pos eki, List.getElem?_eq_getElem hj] at hk
        obtain rfl := Option.some.inj hk
        rw [eki]
        exact ⟨bj4, bj.2⟩
      · rw [if_neg eki] at hk
        obtain ⟨hkl, rfl⟩ := List.getElem?_eq_some_iff.1 hk
        have bk := h5 k _ hk
        exact ⟨blk_far (blk_far (blk_far (blk_far bk.1 (p := ⟨a, i, none⟩) (nea bk.1 (by decide)) _) (p := ⟨a, j, none⟩) (nea bk.1 (by decide)) _) (p := ⟨es[j].b, 3, none⟩) (hall k hkl eki ekj).2 _) (p := ⟨es[i].b, 3, none⟩) (hall k hkl eki ekj).1 _, bk.2⟩
set_option maxRecDepth 100000 in
set_option maxHeartbeats 8000000 in
theorem row_Swap.calls (w0 w : World) (q : Nat) (cap age last : Int) (es : List En) (v : Value) (m n : Nat) (ms : List En) (hx : IsQX w0 w q cap age last es v m n ms) (hb : Below w0.heap.size w0 w) (i j : Nat) (hi : i < es.length) (hj : j < es.length) (hij : i ≠ j) (ii jj : Int) (hii : (i : Int) = ii) (hjj : (j : Int) = jj) :
    Calls Try.prog 68 #[.pointer (some ⟨q, 3, none⟩), .int .i64 ii, .int .i64 jj] w fun e w' => e = .returned (.tuple #[]) ∧ IsQX w0 w' q cap age last (Hp.swapL es i j) v m n ms ∧ Below w0.heap.size w0 w' := by
  obtain ⟨A, c, rfl⟩ := hx.slice
  obtain ⟨a, rfl, xi, ei⟩ := hx.at_ i hi
  obtain ⟨a', e', xj, ej⟩ := hx.at_ j hj
  obtain rfl : a = a' := by simpa using e'
  have y3 : w.cell? ⟨q, 3, none⟩ = some (.slice (some ⟨a, 0, none⟩) es.length c) := (blk_cell hx.1 3).trans rfl
  obtain ⟨a', cap', ev, hge, hlt, cells, hca⟩ := Kd.R_form hx.2.2.1 (by rw [List.length_map]; omega)
  obtain rfl : a = a' := by injection ev with ev; injection ev with ev; injection ev
  have fi := blk_frozen hca i
  have fj := blk_frozen hca j
  have HX := Aside0.mk (hx.swap hi hj hij)
  have HB := Aside0.mk ((((hb.setCell (p := ⟨a, i, none⟩) hge (.pointer (some ⟨es[j].b, 0, none⟩))).setCell (p := ⟨a, j, none⟩) hge (.pointer (some ⟨es[i].b, 0, none⟩))).setCell (p := ⟨es[j].b, 3, none⟩) ej.2 (.int .i64 (i : Int))).setCell (p := ⟨es[i].b, 3, none⟩) ei.2 (.int .i64 (j : Int)))
  have HNA := Aside0.mk (hx.apart hi hj hij)
  have HEI := Aside0.mk ei
  have HEJ := Aside0.mk ej
  have nai : es[i].b ≠ a := fun e => by have h := ei.1; rw [e, hca] at h; simp at h
  have naj : es[j].b ≠ a := fun e => by have h := ej.1; rw [e, hca] at h; simp at h
  have naq : q ≠ a := fun e => by have h := hx.1; rw [e, hca] at h; simp at h
  have HBI := Aside0.mk (blk_far (blk_far ei.1 (p := ⟨a, i, none⟩) nai (.pointer (some ⟨es[j].b, 0, none⟩))) (p := ⟨a, j, none⟩) nai (.pointer (some ⟨es[i].b, 0, none⟩)))
  have HBJ := Aside0.mk (blk_far (blk_far ej.1 (p := ⟨a, i, none⟩) naj (.pointer (some ⟨es[j].b, 0, none⟩))) (p := ⟨a, j, none⟩) naj (.pointer (some ⟨es[i].b, 0, none⟩)))
  have HBQ := Aside0.mk (blk_far (blk_far hx.1 (p := ⟨a, i, none⟩) naq (.pointer (some ⟨es[j].b, 0, none⟩))) (p := ⟨a, j, none⟩) naq (.pointer (some ⟨es[i].b, 0, none⟩)))
  have hp1 : (0 ≤ ii) = True := eq_true (by omega)
  have hq1 : (ii < (es.length : Int)) = True := eq_true (by omega)
  have hp2 : (0 ≤ jj) = True := eq_true (by omega)
  have hq2 : (jj < (es.length : Int)) = True := eq_true (by omega)
  have hti : i = ii.toNat := by omega
  have htj : j = jj.toNat := by omega
  have hne1 : (ii.toNat = jj.toNat) = False := eq_false (by omega)
  have hne2 : (jj.toNat = ii.toNat) = False := eq_false (by omega)
  generalize hei : es[i] = x at *
  generalize hej : es[j] = y at *
  generalize hsw : Hp.swapL es i j = es' at *
  have hcI : ((w.setCell ⟨a, i, none⟩ (.pointer (some ⟨y.b, 0, none⟩))).setCell ⟨a, j, none⟩ (.pointer (some ⟨x.b, 0, none⟩))).cell? ⟨a, i, none⟩ = some (.pointer (some ⟨y.b, 0, none⟩)) := by
    rw [World.cell?_setCell_other _ _ _ _ (by first | (simp; done) | (simp; omega))]
    exact World.cell?_setCell_same _ _ _ xi
  have hcJ : ((w.setCell ⟨a, i, none⟩ (.pointer (some ⟨y.b, 0, none⟩))).setCell ⟨a, j, none⟩ (.pointer (some ⟨x.b, 0, none⟩))).cell? ⟨a, j, none⟩ = some (.pointer (some ⟨x.b, 0, none⟩)) :=
    World.cell?_setCell_same _ _ _ ((World.cell?_setCell_other _ _ _ _ (by first | (simp; done) | (simp; omega))).trans xj)
  have HCI := Aside0.mk hcI
  have HCJ := Aside0.mk hcJ
  rw [hii, hjj] at HX HB
  rw [hti] at xi fi HX HB HBI HBJ HBQ HCI HCJ
  rw [htj] at xj fj HX HB HBI HBJ HBQ HCI HCJ
  clear hx hb e' ei ej hi hj hij hii hjj ev hge hlt hca nai naj naq hti htj hei hej hsw hcI hcJ
  go_enter Try.func68, Try.ntmps68
  go_upto_region 0 with (fail)
  refine start_ (n := 28) (S := fun w' => w'.cell? ⟨q, 3, none⟩ = some (.slice (some ⟨a, 0, none⟩) es.length c) ∧ w'.cell? ⟨a, ii.toNat, none⟩ = some (.pointer (some ⟨x.b, 0, none⟩)) ∧ w'.cell? ⟨a, jj.toNat, none⟩ = some (.pointer (some ⟨y.b, 0, none⟩))) (ds := [25, 27]) #[false, false, false, false, false, false, false, false, false, false, false, false, false, false, false, false, false, false, false, false, false, false, false, false, false, false, false, false] (by kernel_rfl) rfl rfl ⟨y3, xi, xj⟩ (fun hHeld => ?_)
  refine pure_ (i := 0) (N := some 6) (v := ?_) (a' := ?_) #[true, false, false, false, false, false, false, false, false, false, false, false, false, false, false, false, false, false, false, false, false, false, false, false, false, false, false, false] rfl rfl (by kernel_rfl) (fun _ _ _ h => h) (Or.inl ⟨by rfl, ?_⟩) ?_ ?_
  rotate_left
  · intro w'
    go_simp
    with_reducible rfl
  rotate_left
  · simp only [Act.put, List.setIfInBounds_toArray, List.set_cons_zero, List.set_cons_succ, i64_w, i32_w]
    rfl
  refine pure_ (i := 1) (N := some 7) (v := ?_) (a' := ?_) #[true, true, false, false, false, false, false, false, false, false, false, false, false, false, false, false, false, false, false, false, false, false, false, false, false, false, false, false] rfl rfl (by kernel_rfl) (fun _ _ _ h => h) (Or.inl ⟨by rfl, ?_⟩) ?_ ?_
  rotate_left
  · intro w'
    go_simp
    with_reducible rfl
  rotate_left
  · simp only [Act.put, List.setIfInBounds_toArray, List.set_cons_zero, List.set_cons_succ, i64_w, i32_w]
    rfl
  refine pure_ (i := 2) (N := some 8) (v := ?_) (a' := ?_) #[true, true, true, false, false, false, false, false, false, false, false, false, false, false, false, false, false, false, false, false, false, false, false, false, false, false, false, false] rfl rfl (by kernel_rfl) (fun _ _ _ h => h) (Or.inl ⟨by rfl, ?_⟩) ?_ ?_
  rotate_left
  · intro w'
    go_simp
    with_reducible rfl
  rotate_left
  · simp only [Act.put, List.setIfInBounds_toArray, List.set_cons_zero, List.set_cons_succ, i64_w, i32_w]
    rfl
  refine pure_ (i := 4) (N := some 10) (v := ?_) (a' := ?_) #[true, true, true, false, true, false, false, false, false, false, false, false, false, false, false, false, false, false, false, false, false, false, false, false, false, false, false, false] rfl rfl (by kernel_rfl) (fun _ _ _ h => h) (Or.inl ⟨by rfl, ?_⟩) ?_ ?_
  rotate_left
  · intro w'
    go_simp
    with_reducible rfl
  rotate_left
  · simp only [Act.put, List.setIfInBounds_toArray, List.set_cons_zero, List.set_cons_succ, i64_w, i32_w]
    rfl
  refine pure_ (i := 5) (N := some 11) (v := ?_) (a' := ?_) #[true, true, true, false, true, true, false, false, false, false, false, false, false, false, false, false, false, false, false, false, false, false, false, false, false, false, false, false] rfl rfl (by kernel_rfl) (fun _ _ _ h => h) (Or.inl ⟨by rfl, ?_⟩) ?_ ?_
  rotate_left
  · intro w'
    go_simp
    with_reducible rfl
  rotate_left
  · simp only [Act.put, List.setIfInBounds_toArray, List.set_cons_zero, List.set_cons_succ, i64_w, i32_w]
    rfl
  refine pure_ (i := 6) (N := some 12) (v := ?_) (a' := ?_) #[true, true, true, false, true, true, true, false, false, false, false, false, false, false, false, false, false, false, false, false, false, false, false, false, false, false, false, false] rfl rfl (by kernel_rfl) (fun _ _ _ h => h) (Or.inl ⟨by rfl, ?_⟩) ?_ ?_
  rotate_left
  · intro w'
    go_simp
    with_reducible rfl
  rotate_left
  · simp only [Act.put, List.setIfInBounds_toArray, List.set_cons_zero, List.set_cons_succ, i64_w, i32_w]
    rfl
  refine pure_ (i := 7) (N := some 13) (v := ?_) (a' := ?_) #[true, true, true, false, true, true, true, true, false, false, false, false, false, false, false, false, false, false, false, false, false, false, false, false, false, false, false, false] rfl rfl (by kernel_rfl) (fun _ _ _ h => h) (Or.inl ⟨by rfl, ?_⟩) ?_ ?_
  rotate_left
  · intro w'
    go_simp
    with_reducible rfl
  rotate_left
  · simp only [Act.put, List.setIfInBounds_toArray, List.set_cons_zero, List.set_cons_succ, i64_w, i32_w]
    rfl
  refine pure_ (i := 9) (N := some 15) (v := ?_) (a' := ?_) #[true, true, true, false, true, true, true, true, false, true, false, false, false, false, false, false, false, false, false, false, false, false, false, false, false, false, false, false] rfl rfl (by kernel_rfl) (fun _ _ _ h => h) (Or.inl ⟨by rfl, ?_⟩) ?_ ?_
  rotate_left
  · intro w'
    go_simp
    with_reducible rfl
  rotate_left
  · simp only [Act.put, List.setIfInBounds_toArray, List.set_cons_zero, List.set_cons_succ, i64_w, i32_w]
    rfl
  refine pure_ (i := 10) (N := some 16) (v := ?_) (a' := ?_) #[true, true, true, false, true, true, true, true, false, true, true, false, false, false, false, false, false, false, false, false, false, false, false, false, false, false, false, false] rfl rfl (by kernel_rfl) (fun _ _ _ h => h) (Or.inl ⟨by rfl, ?_⟩) ?_ ?_
  rotate_left
  · intro w'
    go_simp
    with_reducible rfl
  rotate_left
  · simp only [Act.put, List.setIfInBounds_toArray, List.set_cons_zero, List.set_cons_succ, i64_w, i32_w]
    rfl
  refine pure_ (i := 11) (N := some 17) (v := ?_) (a' := ?_) #[true, true, true, false, true, true, true, true, false, true, true, true, false, false, false, false, false, false, false, false, false, false, false, false, false, false, false, false] rfl rfl (by kernel_rfl) (fun _ _ _ h => h) (Or.inl ⟨by rfl, ?_⟩) ?_ ?_
  rotate_left
  · intro w'
    go_simp
    with_reducible rfl
  rotate_left
  · simp only [Act.put, List.setIfInBounds_toArray, List.set_cons_zero, List.set_cons_succ, i64_w, i32_w]
    rfl
  refine pure_ (i := 12) (N := some 18) (v := ?_) (a' := ?_) #[true, true, true, false, true, true, true, true, false, true, true, true, true, false, false, false, false, false, false, false, false, false, false, false, false, false, false, false] rfl rfl (by kernel_rfl) (fun _ _ _ h => h) (Or.inl ⟨by rfl, ?_⟩) ?_ ?_
  rotate_left
  · intro w'
    go_simp
    with_reducible rfl
  rotate_left
  · simp only [Act.put, List.setIfInBounds_toArray, List.set_cons_zero, List.set_cons_succ, i64_w, i32_w]
    rfl
  refine pure_ (i := 14) (N := some 20) (v := ?_) (a' := ?_) #[true, true, true, false, true, true, true, true, false, true, true, true, true, false, true, false, false, false, false, false, false, false, false, false, false, false, false, false] rfl rfl (by kernel_rfl) (fun _ _ _ h => h) (Or.inl ⟨by rfl, ?_⟩) ?_ ?_
  rotate_left
  · intro w'
    go_simp
    with_reducible rfl
  rotate_left
  · simp only [Act.put, List.setIfInBounds_toArray, List.set_cons_zero, List.set_cons_succ, i64_w, i32_w]
    rfl
  refine pure_ (i := 17) (N := some 23) (v := ?_) (a' := ?_) #[true, true, true, false, true, true, true, true, false, true, true, true, true, false, true, false, false, true, false, false, false, false, false, false, false, false, false, false] rfl rfl (by kernel_rfl) (fun _ _ _ h => h) (Or.inl ⟨by rfl, ?_⟩) ?_ ?_
  rotate_left
  · intro w'
    go_simp
    with_reducible rfl
  rotate_left
  · simp only [Act.put, List.setIfInBounds_toArray, List.set_cons_zero, List.set_cons_succ, i64_w, i32_w]
    rfl
  refine pure_ (i := 18) (N := some 24) (v := ?_) (a' := ?_) #[true, true, true, false, true, true, true, true, false, true, true, true, true, false, true, false, false, true, true, false, false, false, false, false, false, false, false, false] rfl rfl (by kernel_rfl) (fun _ _ _ h => h) (Or.inl ⟨by rfl, ?_⟩) ?_ ?_
  rotate_left
  · intro w'
    go_simp
    with_reducible rfl
  rotate_left
  · simp only [Act.put, List.setIfInBounds_toArray, List.set_cons_zero, List.set_cons_succ, i64_w, i32_w]
    rfl
  refine pure_ (i := 19) (N := some 25) (v := ?_) (a' := ?_) #[true, true, true, false, true, true, true, true, false, true, true, true, true, false, true, false, false, true, true, true, false, false, false, false, false, false, false, false] rfl rfl (by kernel_rfl) (fun _ _ _ h => h) (Or.inl ⟨by rfl, ?_⟩) ?_ ?_
  rotate_left
  · intro w'
    go_simp
    with_reducible rfl
  rotate_left
  · simp only [Act.put, List.setIfInBounds_toArray, List.set_cons_zero, List.set_cons_succ, i64_w, i32_w]
    rfl
  refine pure_ (i := 21) (N := some 27) (v := ?_) (a' := ?_) #[true, true, true, false, true, true, true, true, false, true, true, true, true, false, true, false, false, true, true, true, false, true, false, false, false, false, false, false] rfl rfl (by kernel_rfl) (fun _ _ _ h => h) (Or.inl ⟨by rfl, ?_⟩) ?_ ?_
  rotate_left
  · intro w'
    go_simp
    with_reducible rfl
  rotate_left
  · simp only [Act.put, List.setIfInBounds_toArray, List.set_cons_zero, List.set_cons_succ, i64_w, i32_w]
    rfl
  refine take_ (i := 3) (N := some 9) (v := ?_) (a' := ?_) #[true, true, true, true, true, true, true, true, false, true, true, true, true, false, true, false, false, true, true, true, false, true, false, false, false, false, false, false] rfl rfl (by kernel_rfl) (fun _ _ _ h => h) (Or.inl ⟨by rfl, ?_⟩) hHeld ?_ ?_
  rotate_left
  · rintro w' ⟨s0, s1, s2⟩
    go_simp
    with_reducible rfl
  rotate_left
  · simp only [Act.put, List.setIfInBounds_toArray, List.set_cons_zero, List.set_cons_succ, i64_w, i32_w]
    rfl
  refine take_ (i := 8) (N := some 14) (v := ?_) (a' := ?_) #[true, true, true, true, true, true, true, true, true, true, true, true, true, false, true, false, false, true, true, true, false, true, false, false, false, false, false, false] rfl rfl (by kernel_rfl) (fun _ _ _ h => h) (Or.inl ⟨by rfl, ?_⟩) hHeld ?_ ?_
  rotate_left
  · rintro w' ⟨s0, s1, s2⟩
    go_simp
    with_reducible rfl
  rotate_left
  · simp only [Act.put, List.setIfInBounds_toArray, List.set_cons_zero, List.set_cons_succ, i64_w, i32_w]
    rfl
  refine take_ (i := 13) (N := some 19) (v := ?_) (a' := ?_) #[true, true, true, true, true, true, true, true, true, true, true, true, true, true, true, false, false, true, true, true, false, true, false, false, false, false, false, false] rfl rfl (by kernel_rfl) (fun _ _ _ h => h) (Or.inl ⟨by rfl, ?_⟩) hHeld ?_ ?_
  rotate_left
  · rintro w' ⟨s0, s1, s2⟩
    go_simp
    with_reducible rfl
  rotate_left
  · simp only [Act.put, List.setIfInBounds_toArray, List.set_cons_zero, List.set_cons_succ, i64_w, i32_w]
    rfl
  refine pure_ (i := 15) (N := some 21) (v := ?_) (a' := ?_) #[true, true, true, true, true, true, true, true, true, true, true, true, true, true, true, true, false, true, true, true, false, true, false, false, false, false, false, false] rfl rfl (by kernel_rfl) (fun _ _ _ h => h) (Or.inl ⟨by rfl, ?_⟩) ?_ ?_
  rotate_left
  · intro w'
    go_simp
    with_reducible rfl
  rotate_left
  · simp only [Act.put, List.setIfInBounds_toArray, List.set_cons_zero, List.set_cons_succ, i64_w, i32_w]
    rfl
  refine take_ (i := 16) (N := some 22) (v := ?_) (a' := ?_) #[true, true, true, true, true, true, true, true, true, true, true, true, true, true, true, true, true, true, true, true, false, true, false, false, false, false, false, false] rfl rfl (by kernel_rfl) (fun _ _ _ h => h) (Or.inl ⟨by rfl, ?_⟩) hHeld ?_ ?_
  rotate_left
  · rintro w' ⟨s0, s1, s2⟩
    go_simp
    with_reducible rfl
  rotate_left
  · simp only [Act.put, List.setIfInBounds_toArray, List.set_cons_zero, List.set_cons_succ, i64_w, i32_w]
    rfl
  refine take_ (i := 20) (N := some 26) (v := ?_) (a' := ?_) #[true, true, true, true, true, true, true, true, true, true, true, true, true, true, true, true, true, true, true, true, true, true, false, false, false, false, false, false] rfl rfl (by kernel_rfl) (fun _ _ _ h => h) (Or.inl ⟨by rfl, ?_⟩) hHeld ?_ ?_
  rotate_left
  · rintro w' ⟨s0, s1, s2⟩
    go_simp
    with_reducible rfl
  rotate_left
  · simp only [Act.put, List.setIfInBounds_toArray, List.set_cons_zero, List.set_cons_succ, i64_w, i32_w]
    rfl
  refine pure_ (i := 22) (N := some 28) (v := ?_) (a' := ?_) #[true, true, true, true, true, true, true, true, true, true, true, true, true, true, true, true, true, true, true, true, true, true, true, false, false, false, false, false] rfl rfl (by kernel_rfl) (fun _ _ _ h => h) (Or.inl ⟨by rfl, ?_⟩) ?_ ?_
  rotate_left
  · intro w'
    go_simp
    with_reducible rfl
  rotate_left
  · simp only [Act.put, List.setIfInBounds_toArray, List.set_cons_zero, List.set_cons_succ, i64_w, i32_w]
    rfl
  refine take_ (i := 23) (N := some 29) (v := ?_) (a' := ?_) #[true, true, true, true, true, true, true, true, true, true, true, true, true, true, true, true, true, true, true, true, true, true, true, true, false, false, false, false] rfl rfl (by kernel_rfl) (fun _ _ _ h => h) (Or.inl ⟨by rfl, ?_⟩) hHeld ?_ ?_
  rotate_left
  · rintro w' ⟨s0, s1, s2⟩
    go_simp
    with_reducible rfl
  rotate_left
  · simp only [Act.put, List.setIfInBounds_toArray, List.set_cons_zero, List.set_cons_succ, i64_w, i32_w]
    rfl
  refine pure_ (i := 24) (N := some 30) (v := ?_) (a' := ?_) #[true, true, true, true, true, true, true, true, true, true, true, true, true, true, true, true, true, true, true, true, true, true, true, true, true, false, false, false] rfl rfl (by kernel_rfl) (fun _ _ _ h => h) (Or.inl ⟨by rfl, ?_⟩) ?_ ?_
  rotate_left
  · intro w'
    go_simp
    with_reducible rfl
  rotate_left
  · simp only [Act.put, List.setIfInBounds_toArray, List.set_cons_zero, List.set_cons_succ, i64_w, i32_w]
    rfl
  refine last_ (i := 25) (N := none) #[true, true, true, true, true, true, true, true, true, true, true, true, true, true, true, true, true, true, true, true, true, true, true, true, true, true, false, false] rfl rfl (by kernel_rfl) (by decide) (fun K hK => ?_)
  refine skip_ (w1 := ?_) (by rfl) rfl ?_ ?_
  rotate_left
  · go_simp
    rfl
  refine hK.out _ _ ?_
  clear hK K
  refine pure_ (i := 26) (N := some 31) (v := ?_) (a' := ?_) #[true, true, true, true, true, true, true, true, true, true, true, true, true, true, true, true, true, true, true, true, true, true, true, true, true, true, true, false] rfl rfl (by kernel_rfl) (fun _ _ _ h => h) (Or.inl ⟨by rfl, ?_⟩) ?_ ?_
  rotate_left
  · intro w'
    go_simp
    with_reducible rfl
  rotate_left
  · simp only [Act.put, List.setIfInBounds_toArray, List.set_cons_zero, List.set_cons_succ, i64_w, i32_w]
    rfl
  refine last_ (i := 27) (N := none) #[true, true, true, true, true, true, true, true, true, true, true, true, true, true, true, true, true, true, true, true, true, true, true, true, true, true, true, true] rfl rfl (by kernel_rfl) (by decide) (fun K hK => ?_)
  refine skip_ (w1 := ?_) (by rfl) rfl ?_ ?_
  rotate_left
  · go_simp
    rfl
  refine hK.out _ _ ?_
  clear hK K
  refine done_ (by kernel_rfl) ?_
  clear hHeld y3 xi xj fi fj
  generalize (w.setCell ⟨a, ii.toNat, none⟩ (.pointer (some ⟨y.b, 0, none⟩))).setCell ⟨a, jj.toNat, none⟩ (.pointer (some ⟨x.b, 0, none⟩)) = W2 at *
  go_upto_region 1 with (fail)
  have y3 : W2.cell? ⟨q, 3, none⟩ = some (.slice (some ⟨a, 0, none⟩) es.length c) := (blk_cell HBQ.out 3).trans rfl
  have xi := HCI.out
  have xj := HCJ.out
  have ex : W2.cell? ⟨x.b, 3, none⟩ = some (.int .i64 (ii.toNat : Int)) := (blk_cell HBI.out 3).trans rfl
  have ey : W2.cell? ⟨y.b, 3, none⟩ = some (.int .i64 (jj.toNat : Int)) := (blk_cell HBJ.out 3).trans rfl
  have fx := blk_frozen HBI.out 3
  have fy := blk_frozen HBJ.out 3
  have hne3 := HNA.out
  have hne4 := HNA.out.symm
  refine start_ (n := 22) (S := fun w' => w'.cell? ⟨q, 3, none⟩ = some (.slice (some ⟨a, 0, none⟩) es.length c) ∧ w'.cell? ⟨a, ii.toNat, none⟩ = some (.pointer (some ⟨y.b, 0, none⟩)) ∧ w'.cell? ⟨a, jj.toNat, none⟩ = some (.pointer (some ⟨x.b, 0, none⟩))) (ds := [18, 21]) #[false, false, false, false, false, false, false, false, false, false, false, false, false, false, false, false, false, false, false, false, false, false] (by kernel_rfl) rfl rfl ⟨y3, xi, xj⟩ (fun hHeld => ?_)
  refine pure_ (i := 0) (N := some 32) (v := ?_) (a' := ?_) #[true, false, false, false, false, false, false, false, false, false, false, false, false, false, false, false, false, false, false, false, false, false] rfl rfl (by kernel_rfl) (fun _ _ _ h => h) (Or.inl ⟨by rfl, ?_⟩) ?_ ?_
  rotate_left
  · intro w'
    go_simp
    with_reducible rfl
  rotate_left
  · simp only [Act.put, List.setIfInBounds_toArray, List.set_cons_zero, List.set_cons_succ, i64_w, i32_w]
    rfl
  refine pure_ (i := 1) (N := some 33) (v := ?_) (a' := ?_) #[true, true, false, false, false, false, false, false, false, false, false, false, false, false, false, false, false, false, false, false, false, false] rfl rfl (by kernel_rfl) (fun _ _ _ h => h) (Or.inl ⟨by rfl, ?_⟩) ?_ ?_
  rotate_left
  · intro w'
    go_simp
    with_reducible rfl
  rotate_left
  · simp only [Act.put, List.setIfInBounds_toArray, List.set_cons_zero, List.set_cons_succ, i64_w, i32_w]
    rfl
  refine pure_ (i := 2) (N := some 34) (v := ?_) (a' := ?_) #[true, true, true, false, false, false, false, false, false, false, false, false, false, false, false, false, false, false, false, false, false, false] rfl rfl (by kernel_rfl) (fun _ _ _ h => h) (Or.inl ⟨by rfl, ?_⟩) ?_ ?_
  rotate_left
  · intro w'
    go_simp
    with_reducible rfl
  rotate_left
  · simp only [Act.put, List.setIfInBounds_toArray, List.set_cons_zero, List.set_cons_succ, i64_w, i32_w]
    rfl
  refine pure_ (i := 4) (N := some 36) (v := ?_) (a' := ?_) #[true, true, true, false, true, false, false, false, false, false, false, false, false, false, false, false, false, false, false, false, false, false] rfl rfl (by kernel_rfl) (fun _ _ _ h => h) (Or.inl ⟨by rfl, ?_⟩) ?_ ?_
  rotate_left
  · intro w'
    go_simp
    with_reducible rfl
  rotate_left
  · simp only [Act.put, List.setIfInBounds_toArray, List.set_cons_zero, List.set_cons_succ, i64_w, i32_w]
    rfl
  refine pure_ (i := 7) (N := some 39) (v := ?_) (a' := ?_) #[true, true, true, false, true, false, false, true, false, false, false, false, false, false, false, false, false, false, false, false, false, false] rfl rfl (by kernel_rfl) (fun _ _ _ h => h) (Or.inl ⟨by rfl, ?_⟩) ?_ ?_
  rotate_left
  · intro w'
    go_simp
    with_reducible rfl
  rotate_left
  · simp only [Act.put, List.setIfInBounds_toArray, List.set_cons_zero, List.set_cons_succ, i64_w, i32_w]
    rfl
  refine pure_ (i := 8) (N := some 40) (v := ?_) (a' := ?_) #[true, true, true, false, true, false, false, true, true, false, false, false, false, false, false, false, false, false, false, false, false, false] rfl rfl (by kernel_rfl) (fun _ _ _ h => h) (Or.inl ⟨by rfl, ?_⟩) ?_ ?_
  rotate_left
  · intro w'
    go_simp
    with_reducible rfl
  rotate_left
  · simp only [Act.put, List.setIfInBounds_toArray, List.set_cons_zero, List.set_cons_succ, i64_w, i32_w]
    rfl
  refine pure_ (i := 9) (N := some 41) (v := ?_) (a' := ?_) #[true, true, true, false, true, false, false, true, true, true, false, false, false, false, false, false, false, false, false, false, false, false] rfl rfl (by kernel_rfl) (fun _ _ _ h => h) (Or.inl ⟨by rfl, ?_⟩) ?_ ?_
  rotate_left
  · intro w'
    go_simp
    with_reducible rfl
  rotate_left
  · simp only [Act.put, List.setIfInBounds_toArray, List.set_cons_zero, List.set_cons_succ, i64_w, i32_w]
    rfl
  refine pure_ (i := 11) (N := some 43) (v := ?_) (a' := ?_) #[true, true, true, false, true, false, false, true, true, true, false, true, false, false, false, false, false, false, false, false, false, false] rfl rfl (by kernel_rfl) (fun _ _ _ h => h) (Or.inl ⟨by rfl, ?_⟩) ?_ ?_
  rotate_left
  · intro w'
    go_simp
    with_reducible rfl
  rotate_left
  · simp only [Act.put, List.setIfInBounds_toArray, List.set_cons_zero, List.set_cons_succ, i64_w, i32_w]
    rfl
  refine pure_ (i := 14) (N := some 46) (v := ?_) (a' := ?_) #[true, true, true, false, true, false, false, true, true, true, false, true, false, false, true, false, false, false, false, false, false, false] rfl rfl (by kernel_rfl) (fun _ _ _ h => h) (Or.inl ⟨by rfl, ?_⟩) ?_ ?_
  rotate_left
  · intro w'
    go_simp
    with_reducible rfl
  rotate_left
  · simp only [Act.put, List.setIfInBounds_toArray, List.set_cons_zero, List.set_cons_succ, i64_w, i32_w]
    rfl
  refine pure_ (i := 15) (N := some 47) (v := ?_) (a' := ?_) #[true, true, true, false, true, false, false, true, true, true, false, true, false, false, true, true, false, false, false, false, false, false] rfl rfl (by kernel_rfl) (fun _ _ _ h => h) (Or.inl ⟨by rfl, ?_⟩) ?_ ?_
  rotate_left
  · intro w'
    go_simp
    with_reducible rfl
  rotate_left
  · simp only [Act.put, List.setIfInBounds_toArray, List.set_cons_zero, List.set_cons_succ, i64_w, i32_w]
    rfl
  refine take_ (i := 3) (N := some 35) (v := ?_) (a' := ?_) #[true, true, true, true, true, false, false, true, true, true, false, true, false, false, true, true, false, false, false, false, false, false] rfl rfl (by kernel_rfl) (fun _ _ _ h => h) (Or.inl ⟨by rfl, ?_⟩) hHeld ?_ ?_
  rotate_left
  · rintro w' ⟨s0, s1, s2⟩
    go_simp
    with_reducible rfl
  rotate_left
  · simp only [Act.put, List.setIfInBounds_toArray, List.set_cons_zero, List.set_cons_succ, i64_w, i32_w]
    rfl
  refine pure_ (i := 5) (N := some 37) (v := ?_) (a' := ?_) #[true, true, true, true, true, true, false, true, true, true, false, true, false, false, true, true, false, false, false, false, false, false] rfl rfl (by kernel_rfl) (fun _ _ _ h => h) (Or.inl ⟨by rfl, ?_⟩) ?_ ?_
  rotate_left
  · intro w'
    go_simp
    with_reducible rfl
  rotate_left
  · simp only [Act.put, List.setIfInBounds_toArray, List.set_cons_zero, List.set_cons_succ, i64_w, i32_w]
    rfl
  refine take_ (i := 6) (N := some 38) (v := ?_) (a' := ?_) #[true, true, true, true, true, true, true, true, true, true, false, true, false, false, true, true, false, false, false, false, false, false] rfl rfl (by kernel_rfl) (fun _ _ _ h => h) (Or.inl ⟨by rfl, ?_⟩) hHeld ?_ ?_
  rotate_left
  · rintro w' ⟨s0, s1, s2⟩
    go_simp
    with_reducible rfl
  rotate_left
  · simp only [Act.put, List.setIfInBounds_toArray, List.set_cons_zero, List.set_cons_succ, i64_w, i32_w]
    rfl
  refine take_ (i := 10) (N := some 42) (v := ?_) (a' := ?_) #[true, true, true, true, true, true, true, true, true, true, true, true, false, false, true, true, false, false, false, false, false, false] rfl rfl (by kernel_rfl) (fun _ _ _ h => h) (Or.inl ⟨by rfl, ?_⟩) hHeld ?_ ?_
  rotate_left
  · rintro w' ⟨s0, s1, s2⟩
    go_simp
    with_reducible rfl
  rotate_left
  · simp only [Act.put, List.setIfInBounds_toArray, List.set_cons_zero, List.set_cons_succ, i64_w, i32_w]
    rfl
  refine pure_ (i := 12) (N := some 44) (v := ?_) (a' := ?_) #[true, true, true, true, true, true, true, true, true, true, true, true, true, false, true, true, false, false, false, false, false, false] rfl rfl (by kernel_rfl) (fun _ _ _ h => h) (Or.inl ⟨by rfl, ?_⟩) ?_ ?_
  rotate_left
  · intro w'
    go_simp
    with_reducible rfl
  rotate_left
  · simp only [Act.put, List.setIfInBounds_toArray, List.set_cons_zero, List.set_cons_succ, i64_w, i32_w]
    rfl
  refine take_ (i := 13) (N := some 45) (v := ?_) (a' := ?_) #[true, true, true, true, true, true, true, true, true, true, true, true, true, true, true, true, false, false, false, false, false, false] rfl rfl (by kernel_rfl) (fun _ _ _ h => h) (Or.inl ⟨by rfl, ?_⟩) hHeld ?_ ?_
  rotate_left
  · rintro w' ⟨s0, s1, s2⟩
    go_simp
    with_reducible rfl
  rotate_left
  · simp only [Act.put, List.setIfInBounds_toArray, List.set_cons_zero, List.set_cons_succ, i64_w, i32_w]
    rfl
  refine pure_ (i := 16) (N := some 48) (v := ?_) (a' := ?_) #[true, true, true, true, true, true, true, true, true, true, true, true, true, true, true, true, true, false, false, false, false, false] rfl rfl (by kernel_rfl) (fun _ _ _ h => h) (Or.inl ⟨by rfl, ?_⟩) ?_ ?_
  rotate_left
  · intro w'
    go_simp
    with_reducible rfl
  rotate_left
  · simp only [Act.put, List.setIfInBounds_toArray, List.set_cons_zero, List.set_cons_succ, i64_w, i32_w]
    rfl
  refine pure_ (i := 17) (N := some 49) (v := ?_) (a' := ?_) #[true, true, true, true, true, true, true, true, true, true, true, true, true, true, true, true, true, true, false, false, false, false] rfl rfl (by kernel_rfl) (fun _ _ _ h => h) (Or.inl ⟨by rfl, ?_⟩) ?_ ?_
  rotate_left
  · intro w'
    go_simp
    with_reducible rfl
  rotate_left
  · simp only [Act.put, List.setIfInBounds_toArray, List.set_cons_zero, List.set_cons_succ, i64_w, i32_w]
    rfl
  refine last_ (i := 18) (N := none) #[true, true, true, true, true, true, true, true, true, true, true, true, true, true, true, true, true, true, true, false, false, false] rfl rfl (by kernel_rfl) (by decide) (fun K hK => ?_)
  refine skip_ (w1 := ?_) (by rfl) rfl ?_ ?_
  rotate_left
  · go_simp
    rfl
  refine hK.out _ _ ?_
  clear hK K
  refine pure_ (i := 19) (N := some 50) (v := ?_) (a' := ?_) #[true, true, true, true, true, true, true, true, true, true, true, true, true, true, true, true, true, true, true, true, false, false] rfl rfl (by kernel_rfl) (fun _ _ _ h => h) (Or.inl ⟨by rfl, ?_⟩) ?_ ?_
  rotate_left
  · intro w'
    go_simp
    with_reducible rfl
  rotate_left
  · simp only [Act.put, List.setIfInBounds_toArray, List.set_cons_zero, List.set_cons_succ, i64_w, i32_w]
    rfl
  refine pure_ (i := 20) (N := some 51) (v := ?_) (a' := ?_) #[true, true, true, true, true, true, true, true, true, true, true, true, true, true, true, true, true, true, true, true, true, false] rfl rfl (by kernel_rfl) (fun _ _ _ h => h) (Or.inl ⟨by rfl, ?_⟩) ?_ ?_
  rotate_left
  · intro w'
    go_simp
    with_reducible rfl
  rotate_left
  · simp only [Act.put, List.setIfInBounds_toArray, List.set_cons_zero, List.set_cons_succ, i64_w, i32_w]
    rfl
  refine last_ (i := 21) (N := none) #[true, true, true, true, true, true, true, true, true, true, true, true, true, true, true, true, true, true, true, true, true, true] rfl rfl (by kernel_rfl) (by decide) (fun K hK => ?_)
  refine skip_ (w1 := ?_) (by rfl) rfl ?_ ?_
  rotate_left
  · go_simp
    rfl
  refine hK.out _ _ ?_
  clear hK K
  refine done_ (by kernel_rfl) ?_
  clear hHeld y3 xi xj ex ey fx fy
  go_wp2
  go_end0
  have hdd : ∀ W : World, Below W.heap.size W W.drew.drew := fun W => below_step (below_drew1 (Below.refl _ _)) (below_drew1 (Below.refl _ _))
  exact ⟨rfl, HX.out.below (hdd _), HB.out.trans ((hdd _).mono HB.out.size)⟩
/-! ### the last one taken -/
set_option maxRecDepth 100000 in
set_option maxHeartbeats 4000000 in
theorem row_Pop.calls (w0 w : World) (q : Nat) (cap age last : Int) (es : List En) (e : En) (v : Value) (m n : Nat) (ms : List En) (hx : IsQX w0 w q cap age last (es ++ [e]) v m n ms) (hb : Below w0.heap.size w0 w) (hl : es.length < 1000000) :
    Calls Try.prog 66 #[.pointer (some ⟨q, 3, none⟩)] w fun en w' => ∃ v', en = .returned (.iface 59 (.pointer (some ⟨e.b, 0, none⟩))) ∧ IsQX w0 w' q cap age last es v' m n ms ∧ (∃ pl, IsEn w0 w' e pl) ∧ Below w0.heap.size w0 w' := by
  obtain ⟨A, c, rfl⟩ := hx.slice
  obtain ⟨a, rfl, xi, ei⟩ := hx.at_ es.length (by simp)
  have hge : (es ++ [e])[es.length]'(by simp) = e := by simp
  rw [hge] at xi ei
  have y3 : w.cell? ⟨q, 3, none⟩ = some (.slice (some ⟨a, 0, none⟩) (es ++ [e]).length c) := (blk_cell hx.1 3).trans rfl
  have f3 := blk_frozen hx.1 3
  obtain ⟨k, hk⟩ : ∃ k : Int, (es.length : Int) = k := ⟨_, rfl⟩
  obtain ⟨nl, hnl⟩ : ∃ nl : Nat, (es ++ [e]).length = nl := ⟨_, rfl⟩
  have hnk : (nl : Int) = k + 1 := by rw [← hnl, List.length_append]; simp; omega
  have hw1 : wrap64 ((nl : Int) - 1) = k := by unfold wrap64; omega
  have hp1 : (0 ≤ k) = True := eq_true (by omega)
  have hq1 : (k < (nl : Int)) = True := eq_true (by omega)
  have hkt : es.length = k.toNat := by omega
  have hcc := (Kd.R_reads' hx.2.2.1).2.1
  have hq2 : (k ≤ (c : Int)) = True := eq_true (by omega)
  have HX := Aside0.mk (show IsQX w0 (w.setCell ⟨q, 3, none⟩ (.slice (some ⟨a, 0, none⟩) es.length c)) q cap age last es (.slice (some ⟨a, 0, none⟩) es.length c) m n ms by
    obtain ⟨h1, h2, h3, h4, h5⟩ := hx
    have hr := Kd.R_take h3 (m := es.length) (by simp)
    rw [← List.map_take, List.take_left' rfl] at hr
    refine ⟨blk_put h1 3 _ rfl, h2, Kd.R_set hr h1 (by decide) 3 _, ⟨h4.1.step (Below.heap_setCell _ _ _ m (h4.1.ne h1)), h4.2⟩, fun j x hj => ?_⟩
    have := h5 j x (by rw [List.getElem?_append_left (List.getElem?_eq_some_iff.1 hj).1]; exact hj)
    exact ⟨blk_far this.1 (p := ⟨q, 3, none⟩) (blk_ne this.1 h1 (by decide)) _, this.2⟩)
  have HE := Aside0.mk (show IsEn w0 (w.setCell ⟨q, 3, none⟩ (.slice (some ⟨a, 0, none⟩) es.length c)) e _ from ⟨blk_far ei.1 (p := ⟨q, 3, none⟩) (blk_ne ei.1 hx.1 (by decide)) _, ei.2⟩)
  have HB := Aside0.mk (hb.setCell (p := ⟨q, 3, none⟩) hx.2.1 (.slice (some ⟨a, 0, none⟩) es.length c))
  rw [hnl] at y3
  rw [hkt] at xi HX HE HB
  clear hx hb hge ei hk hnl hnk hkt hl hcc
  go_enter Try.func66, Try.ntmps66
  go_upto_region 1 with (fail)
  refine start_ (n := 13) (S := fun w' => w'.cell? ⟨q, 3, none⟩ = some (.slice (some ⟨a, 0, none⟩) nl c) ∧ w'.cell? ⟨a, k.toNat, none⟩ = some (.pointer (some ⟨e.b, 0, none⟩))) (ds := []) #[false, false, false, false, false, false, false, false, false, false, false, false, false] (by kernel_rfl) rfl rfl ⟨y3, xi⟩ (fun hHeld => ?_)
  refine pure_ (i := 0) (N := some 4) (v := ?_) (a' := ?_) #[true, false, false, false, false, false, false, false, false, false, false, false, false] rfl rfl (by kernel_rfl) (fun _ _ _ h => h) (Or.inl ⟨by rfl, ?_⟩) ?_ ?_
  rotate_left
  · intro w'
    go_simp
    with_reducible rfl
  rotate_left
  · simp only [Act.put, List.setIfInBounds_toArray, List.set_cons_zero, List.set_cons_succ, i64_w, i32_w]
    rfl
  refine pure_ (i := 1) (N := some 5) (v := ?_) (a' := ?_) #[true, true, false, false, false, false, false, false, false, false, false, false, false] rfl rfl (by kernel_rfl) (fun _ _ _ h => h) (Or.inl ⟨by rfl, ?_⟩) ?_ ?_
  rotate_left
  · intro w'
    go_simp
    with_reducible rfl
  rotate_left
  · simp only [Act.put, List.setIfInBounds_toArray, List.set_cons_zero, List.set_cons_succ, i64_w, i32_w]
    rfl
  refine pure_ (i := 2) (N := some 6) (v := ?_) (a' := ?_) #[true, true, true, false, false, false, false, false, false, false, false, false, false] rfl rfl (by kernel_rfl) (fun _ _ _ h => h) (Or.inl ⟨by rfl, ?_⟩) ?_ ?_
  rotate_left
  · intro w'
    go_simp
    with_reducible rfl
  rotate_left
  · simp only [Act.put, List.setIfInBounds_toArray, List.set_cons_zero, List.set_cons_succ, i64_w, i32_w]
    rfl
  refine pure_ (i := 4) (N := some 8) (v := ?_) (a' := ?_) #[true, true, true, false, true, false, false, false, false, false, false, false, false] rfl rfl (by kernel_rfl) (fun _ _ _ h => h) (Or.inl ⟨by rfl, ?_⟩) ?_ ?_
  rotate_left
  · intro w'
    go_simp
    with_reducible rfl
  rotate_left
  · simp only [Act.put, List.setIfInBounds_toArray, List.set_cons_zero, List.set_cons_succ, i64_w, i32_w]
    rfl
  refine pure_ (i := 5) (N := some 9) (v := ?_) (a' := ?_) #[true, true, true, false, true, true, false, false, false, false, false, false, false] rfl rfl (by kernel_rfl) (fun _ _ _ h => h) (Or.inl ⟨by rfl, ?_⟩) ?_ ?_
  rotate_left
  · intro w'
    go_simp
    with_reducible rfl
  rotate_left
  · simp only [Act.put, List.setIfInBounds_toArray, List.set_cons_zero, List.set_cons_succ, i64_w, i32_w]
    rfl
  refine pure_ (i := 6) (N := some 10) (v := ?_) (a' := ?_) #[true, true, true, false, true, true, true, false, false, false, false, false, false] rfl rfl (by kernel_rfl) (fun _ _ _ h => h) (Or.inl ⟨by rfl, ?_⟩) ?_ ?_
  rotate_left
  · intro w'
    go_simp
    with_reducible rfl
  rotate_left
  · simp only [Act.put, List.setIfInBounds_toArray, List.set_cons_zero, List.set_cons_succ, i64_w, i32_w]
    rfl
  refine take_ (i := 3) (N := some 7) (v := ?_) (a' := ?_) #[true, true, true, true, true, true, true, false, false, false, false, false, false] rfl rfl (by kernel_rfl) (fun _ _ _ h => h) (Or.inl ⟨by rfl, ?_⟩) hHeld ?_ ?_
  rotate_left
  · rintro w' ⟨s0, s1⟩
    go_simp
    with_reducible rfl
  rotate_left
  · simp only [Act.put, List.setIfInBounds_toArray, List.set_cons_zero, List.set_cons_succ, i64_w, i32_w]
    rfl
  refine take_ (i := 7) (N := some 11) (v := ?_) (a' := ?_) #[true, true, true, true, true, true, true, true, false, false, false, false, false] rfl rfl (by kernel_rfl) (fun _ _ _ h => h) (Or.inl ⟨by rfl, ?_⟩) hHeld ?_ ?_
  rotate_left
  · rintro w' ⟨s0, s1⟩
    go_simp
    with_reducible rfl
  rotate_left
  · simp only [Act.put, List.setIfInBounds_toArray, List.set_cons_zero, List.set_cons_succ, i64_w, i32_w]
    rfl
  refine pure_ (i := 8) (N := some 12) (v := ?_) (a' := ?_) #[true, true, true, true, true, true, true, true, true, false, false, false, false] rfl rfl (by kernel_rfl) (fun _ _ _ h => h) (Or.inl ⟨by rfl, ?_⟩) ?_ ?_
  rotate_left
  · intro w'
    go_simp
    with_reducible rfl
  rotate_left
  · simp only [Act.put, List.setIfInBounds_toArray, List.set_cons_zero, List.set_cons_succ, i64_w, i32_w]
    rfl
  refine pure_ (i := 9) (N := some 13) (v := ?_) (a' := ?_) #[true, true, true, true, true, true, true, true, true, true, false, false, false] rfl rfl (by kernel_rfl) (fun _ _ _ h => h) (Or.inl ⟨by rfl, ?_⟩) ?_ ?_
  rotate_left
  · intro w'
    go_simp
    with_reducible rfl
  rotate_left
  · simp only [Act.put, List.setIfInBounds_toArray, List.set_cons_zero, List.set_cons_succ, i64_w, i32_w]
    rfl
  refine pure_ (i := 10) (N := some 14) (v := ?_) (a' := ?_) #[true, true, true, true, true, true, true, true, true, true, true, false, false] rfl rfl (by kernel_rfl) (fun _ _ _ h => h) (Or.inl ⟨by rfl, ?_⟩) ?_ ?_
  rotate_left
  · intro w'
    go_simp
    with_reducible rfl
  rotate_left
  · simp only [Act.put, List.setIfInBounds_toArray, List.set_cons_zero, List.set_cons_succ, i64_w, i32_w]
    rfl
  refine take_ (i := 11) (N := some 15) (v := ?_) (a' := ?_) #[true, true, true, true, true, true, true, true, true, true, true, true, false] rfl rfl (by kernel_rfl) (fun _ _ _ h => h) (Or.inl ⟨by rfl, ?_⟩) hHeld ?_ ?_
  rotate_left
  · rintro w' ⟨s0, s1⟩
    go_simp
    with_reducible rfl
  rotate_left
  · simp only [Act.put, List.setIfInBounds_toArray, List.set_cons_zero, List.set_cons_succ, i64_w, i32_w]
    rfl
  refine pure_ (i := 12) (N := some 3) (v := ?_) (a' := ?_) #[true, true, true, true, true, true, true, true, true, true, true, true, true] rfl rfl (by kernel_rfl) (fun _ _ _ h => h) (Or.inl ⟨by rfl, ?_⟩) ?_ ?_
  rotate_left
  · intro w'
    go_simp
    with_reducible rfl
  rotate_left
  · simp only [Act.put, List.setIfInBounds_toArray, List.set_cons_zero, List.set_cons_succ, i64_w, i32_w]
    rfl
  refine done_ (by kernel_rfl) ?_
  clear hHeld xi
  go_upto_region 2 with (fail)
  refine start_ (n := 15) (S := fun w' => w'.cell? ⟨q, 3, none⟩ = some (.slice (some ⟨a, 0, none⟩) nl c)) (ds := [14]) #[false, false, false, false, false, false, false, false, false, false, false, false, false, false, false] (by kernel_rfl) rfl rfl (y3) (fun hHeld => ?_)
  refine pure_ (i := 0) (N := some 16) (v := ?_) (a' := ?_) #[true, false, false, false, false, false, false, false, false, false, false, false, false, false, false] rfl rfl (by kernel_rfl) (fun _ _ _ h => h) (Or.inl ⟨by rfl, ?_⟩) ?_ ?_
  rotate_left
  · intro w'
    go_simp
    with_reducible rfl
  rotate_left
  · simp only [Act.put, List.setIfInBounds_toArray, List.set_cons_zero, List.set_cons_succ, i64_w, i32_w]
    rfl
  refine pure_ (i := 1) (N := some 17) (v := ?_) (a' := ?_) #[true, true, false, false, false, false, false, false, false, false, false, false, false, false, false] rfl rfl (by kernel_rfl) (fun _ _ _ h => h) (Or.inl ⟨by rfl, ?_⟩) ?_ ?_
  rotate_left
  · intro w'
    go_simp
    with_reducible rfl
  rotate_left
  · simp only [Act.put, List.setIfInBounds_toArray, List.set_cons_zero, List.set_cons_succ, i64_w, i32_w]
    rfl
  refine pure_ (i := 2) (N := some 18) (v := ?_) (a' := ?_) #[true, true, true, false, false, false, false, false, false, false, false, false, false, false, false] rfl rfl (by kernel_rfl) (fun _ _ _ h => h) (Or.inl ⟨by rfl, ?_⟩) ?_ ?_
  rotate_left
  · intro w'
    go_simp
    with_reducible rfl
  rotate_left
  · simp only [Act.put, List.setIfInBounds_toArray, List.set_cons_zero, List.set_cons_succ, i64_w, i32_w]
    rfl
  refine pure_ (i := 3) (N := some 19) (v := ?_) (a' := ?_) #[true, true, true, true, false, false, false, false, false, false, false, false, false, false, false] rfl rfl (by kernel_rfl) (fun _ _ _ h => h) (Or.inl ⟨by rfl, ?_⟩) ?_ ?_
  rotate_left
  · intro w'
    go_simp
    with_reducible rfl
  rotate_left
  · simp only [Act.put, List.setIfInBounds_toArray, List.set_cons_zero, List.set_cons_succ, i64_w, i32_w]
    rfl
  refine pure_ (i := 5) (N := some 21) (v := ?_) (a' := ?_) #[true, true, true, true, false, true, false, false, false, false, false, false, false, false, false] rfl rfl (by kernel_rfl) (fun _ _ _ h => h) (Or.inl ⟨by rfl, ?_⟩) ?_ ?_
  rotate_left
  · intro w'
    go_simp
    with_reducible rfl
  rotate_left
  · simp only [Act.put, List.setIfInBounds_toArray, List.set_cons_zero, List.set_cons_succ, i64_w, i32_w]
    rfl
  refine pure_ (i := 6) (N := some 22) (v := ?_) (a' := ?_) #[true, true, true, true, false, true, true, false, false, false, false, false, false, false, false] rfl rfl (by kernel_rfl) (fun _ _ _ h => h) (Or.inl ⟨by rfl, ?_⟩) ?_ ?_
  rotate_left
  · intro w'
    go_simp
    with_reducible rfl
  rotate_left
  · simp only [Act.put, List.setIfInBounds_toArray, List.set_cons_zero, List.set_cons_succ, i64_w, i32_w]
    rfl
  refine pure_ (i := 7) (N := some 23) (v := ?_) (a' := ?_) #[true, true, true, true, false, true, true, true, false, false, false, false, false, false, false] rfl rfl (by kernel_rfl) (fun _ _ _ h => h) (Or.inl ⟨by rfl, ?_⟩) ?_ ?_
  rotate_left
  · intro w'
    go_simp
    with_reducible rfl
  rotate_left
  · simp only [Act.put, List.setIfInBounds_toArray, List.set_cons_zero, List.set_cons_succ, i64_w, i32_w]
    rfl
  refine take_ (i := 4) (N := some 20) (v := ?_) (a' := ?_) #[true, true, true, true, true, true, true, true, false, false, false, false, false, false, false] rfl rfl (by kernel_rfl) (fun _ _ _ h => h) (Or.inl ⟨by rfl, ?_⟩) hHeld ?_ ?_
  rotate_left
  · intro w' s0
    go_simp
    with_reducible rfl
  rotate_left
  · simp only [Act.put, List.setIfInBounds_toArray, List.set_cons_zero, List.set_cons_succ, i64_w, i32_w]
    rfl
  refine take_ (i := 8) (N := some 24) (v := ?_) (a' := ?_) #[true, true, true, true, true, true, true, true, true, false, false, false, false, false, false] rfl rfl (by kernel_rfl) (fun _ _ _ h => h) (Or.inl ⟨by rfl, ?_⟩) hHeld ?_ ?_
  rotate_left
  · intro w' s0
    go_simp
    with_reducible rfl
  rotate_left
  · simp only [Act.put, List.setIfInBounds_toArray, List.set_cons_zero, List.set_cons_succ, i64_w, i32_w]
    rfl
  refine pure_ (i := 9) (N := some 25) (v := ?_) (a' := ?_) #[true, true, true, true, true, true, true, true, true, true, false, false, false, false, false] rfl rfl (by kernel_rfl) (fun _ _ _ h => h) (Or.inl ⟨by rfl, ?_⟩) ?_ ?_
  rotate_left
  · intro w'
    go_simp
    with_reducible rfl
  rotate_left
  · simp only [Act.put, List.setIfInBounds_toArray, List.set_cons_zero, List.set_cons_succ, i64_w, i32_w]
    rfl
  refine pure_ (i := 10) (N := some 26) (v := ?_) (a' := ?_) #[true, true, true, true, true, true, true, true, true, true, true, false, false, false, false] rfl rfl (by kernel_rfl) (fun _ _ _ h => h) (Or.inl ⟨by rfl, ?_⟩) ?_ ?_
  rotate_left
  · intro w'
    go_simp
    with_reducible rfl
  rotate_left
  · simp only [Act.put, List.setIfInBounds_toArray, List.set_cons_zero, List.set_cons_succ, i64_w, i32_w]
    rfl
  refine pure_ (i := 11) (N := some 27) (v := ?_) (a' := ?_) #[true, true, true, true, true, true, true, true, true, true, true, true, false, false, false] rfl rfl (by kernel_rfl) (fun _ _ _ h => h) (Or.inl ⟨by rfl, ?_⟩) ?_ ?_
  rotate_left
  · intro w'
    go_simp
    with_reducible rfl
  rotate_left
  · simp only [Act.put, List.setIfInBounds_toArray, List.set_cons_zero, List.set_cons_succ, i64_w, i32_w]
    rfl
  refine pure_ (i := 12) (N := some 28) (v := ?_) (a' := ?_) #[true, true, true, true, true, true, true, true, true, true, true, true, true, false, false] rfl rfl (by kernel_rfl) (fun _ _ _ h => h) (Or.inl ⟨by rfl, ?_⟩) ?_ ?_
  rotate_left
  · intro w'
    go_simp
    with_reducible rfl
  rotate_left
  · simp only [Act.put, List.setIfInBounds_toArray, List.set_cons_zero, List.set_cons_succ, i64_w, i32_w]
    rfl
  refine pure_ (i := 13) (N := some 29) (v := ?_) (a' := ?_) #[true, true, true, true, true, true, true, true, true, true, true, true, true, true, false] rfl rfl (by kernel_rfl) (fun _ _ _ h => h) (Or.inl ⟨by rfl, ?_⟩) ?_ ?_
  rotate_left
  · intro w'
    go_simp
    with_reducible rfl
  rotate_left
  · simp only [Act.put, List.setIfInBounds_toArray, List.set_cons_zero, List.set_cons_succ, i64_w, i32_w]
    rfl
  refine last_ (i := 14) (N := none) #[true, true, true, true, true, true, true, true, true, true, true, true, true, true, true] rfl rfl (by kernel_rfl) (by decide) (fun K hK => ?_)
  refine skip_ (w1 := ?_) (by rfl) rfl ?_ ?_
  rotate_left
  · go_simp
    rfl
  refine hK.out _ _ ?_
  clear hK K
  refine done_ (by kernel_rfl) ?_
  clear hHeld y3 f3
  go_wp2
  go_ret
  have hdd : ∀ W : World, Below W.heap.size W W.drew.drew := fun W => below_step (below_drew1 (Below.refl _ _)) (below_drew1 (Below.refl _ _))
  exact ⟨_, rfl, HX.out.below (hdd _), ⟨_, HE.out.below (hdd _)⟩, HB.out.trans ((hdd _).mono HB.out.size)⟩
end Go.Proofs.Ythnfbcicnmnhnaa.Q
