/- readyq: New, Put and First. -/
import Derived.Test.YthnfbcicnmnhnaaGReadyHeap
namespace Go.Proofs.Ythnfbcicnmnhnaa.Q
open Go.RowKit Go.Shelf Go.Maps Go.Proofs.YthnfbcicnmnhnaaW.PrintWords Go.Proofs.YthnfbcicnmnhnaaW.PrintLast Go.Proofs.YthnfbcicnmnhnaaW.PrintMore
set_option linter.unusedVariables false
set_option linter.unusedSimpArgs false

set_option maxRecDepth 100000 in
set_option maxHeartbeats 2000000 in
theorem readyq_New.calls (w : World) (cap age : Int) (h1 : 1 ≤ cap) (h2 : cap ≤ 65536) (h3 : 1 ≤ age) (h4 : age ≤ 1048576) :
    Calls Try.prog 7 #[.int .i64 cap, .int .i64 age] w fun e w' => ∃ q, e = .returned (.pointer (some ⟨q, 0, none⟩)) ∧ IsQ w w' q cap age 0 [] ∧ Below w.heap.size w w' := by
  have c0 : decide (cap < 1) = false := decide_eq_false (by omega)
  have c1 : decide (65536 < cap) = false := decide_eq_false (by omega)
  have c2 : decide (age < 1) = false := decide_eq_false (by omega)
  have c3 : decide (1048576 < age) = false := decide_eq_false (by omega)
  clear h1 h2 h3 h4
  have hmm := @run_makeMap Try.prog
  go_enter Try.func7, Try.ntmps7
  go_wp2
  go_ret
  have hg1 := blk_new (w.alloc (.map #[] 0)) (.cells #[.int .i64 cap, .int .i64 age, .int .i64 0, .slice none 0 0, .map (some w.heap.size)] 58)
  rw [World.size_alloc] at hg1
  have hm1 : HasM ((w.alloc (.map #[] 0)).alloc (.cells #[.int .i64 cap, .int .i64 age, .int .i64 0, .slice none 0 0, .map (some w.heap.size)] 58)) w.heap.size 0 := ⟨_, World.ownsMap.alloc (World.ownsMap_made _ _ _ _) _⟩
  exact ⟨w.heap.size + 1, rfl, ⟨_, _, 0, ⟨hg1, by omega, Kd.R_nil _ _ _ _ _, ⟨hm1, Nat.le_refl _⟩, fun j e hj => by simp at hj⟩, Nat.zero_le _⟩, ((Below.refl w.heap.size w).alloc (Nat.le_refl _) _).alloc (by simp) _⟩

theorem IsQX.setLast {w0 W : World} {q : Nat} {cap age last : Int} {es : List En} {v : Value} {m n : Nat} (h : IsQX w0 W q cap age last es v m n) (l' : Int) : IsQX w0 (W.setCell ⟨q, 2, none⟩ (.int .i64 l')) q cap age l' es v m n := by
  obtain ⟨h1, h2, h3, h4, h5⟩ := h
  exact ⟨blk_put h1 2 _ rfl, h2, Kd.R_set h3 h1 (by decide) 2 _, ⟨h4.1.step (Below.heap_setCell _ _ _ m (h4.1.ne h1)), h4.2⟩, fun j x hj => ⟨blk_far (h5 j x hj).1 (blk_ne (h5 j x hj).1 h1 (by decide)) _, (h5 j x hj).2⟩⟩
theorem IsQX.mapput {w0 W W' : World} {q : Nat} {cap age last : Int} {es : List En} {v : Value} {m n n' : Nat} (h : IsQX w0 W q cap age last es v m n) (hg : W.grownBy W' (some m)) (hm' : HasM W' m n') : IsQX w0 W' q cap age last es v m n' := by
  obtain ⟨h1, h2, h3, h4, h5⟩ := h
  refine ⟨blk_grown h1 hg (fun e => h4.1.ne h1 (by injection e with e; exact e.symm)), h2, Kd.R_mono (Kd.R_grown (ok := fun k => True ∧ k ≠ m) (Kd.R_mono (Kd.R_bound h3) (fun k hk => ⟨trivial, fun e => by
    obtain ⟨_, _, _, q', _, cells, hc⟩ := hk
    exact h4.1.ne hc e.symm⟩)) hg (fun k hk e => hk.2 (by injection e))) (fun _ _ => trivial), ⟨hm', h4.2⟩, fun j x hj => ⟨blk_grown (h5 j x hj).1 hg (fun e => h4.1.ne (h5 j x hj).1 (by injection e with e; exact e.symm)), (h5 j x hj).2⟩⟩

set_option maxRecDepth 100000 in
set_option maxHeartbeats 4000000 in
theorem queue_First.calls (w0 w : World) (q : Nat) (cap age last : Int) (x : En) (es : List En) (h : IsQ w0 w q cap age last (x :: es)) :
    Calls Try.prog 9 #[.pointer (some ⟨q, 0, none⟩)] w fun e w' => e = .returned (.tuple #[.int .i64 x.id, .int .i64 x.h, .bool true]) ∧ Below w.heap.size w w' := by
  have HQ := Aside0.mk h
  obtain ⟨nl, hnl⟩ : ∃ nl : Int, ((x :: es).length : Int) = nl := ⟨_, rfl⟩
  have hd : (nl == 0) = false := beq_eq_false_iff_ne.mpr (by rw [List.length_cons] at hnl; omega)
  have HNL := Aside0.mk hnl
  clear h hnl
  go_enter Try.func9, Try.ntmps9
  go_upto_region 3 with (go_at_call 12; (refine (queue_Len.calls w0 _ q cap age last (x :: es) HQ.out).mono ?_; rw [HNL.out]; rintro e w1 ⟨rfl, hb⟩; have HB1 := Aside0.mk hb; have HQ1 := Aside0.mk (HQ.out.below hb); clear hb))
  obtain ⟨v, m, n, hx, _⟩ := HQ1.out
  obtain ⟨A, c, rfl⟩ := hx.slice
  obtain ⟨a, rfl, xi, ei⟩ := hx.at_ 0 (by simp)
  have y3 : w1.cell? ⟨q, 3, none⟩ = some (.slice (some ⟨a, 0, none⟩) (x :: es).length c) := (blk_cell hx.1 3).trans rfl
  have hp3 : (0 < (x :: es).length) = True := eq_true (by simp)
  have e0 : w1.cell? ⟨x.b, 0, none⟩ = some (.int .i64 x.h) := (blk_cell ei.1 0).trans rfl
  have e1 : w1.cell? ⟨x.b, 1, none⟩ = some (.int .i64 x.id) := (blk_cell ei.1 1).trans rfl
  have xi' : w1.cell? ⟨a, 0, none⟩ = some (.pointer (some ⟨x.b, 0, none⟩)) := xi
  clear hx ei xi
  go_upto_region 4 with (fail)
  go_quiet (fail)
  go_wp2
  go_ret3
  exact ⟨rfl, below_step HB1.out (pw_below_drewN (Below.refl _ _) _)⟩

theorem good_f (a : Int) (h0 : 0 ≤ a) (h1 : a ≤ 1099511627776) : tick_Good.f a = some true := by
  unfold tick_Good.f
  rw [if_pos h0, decide_eq_true h1]
set_option maxRecDepth 100000 in
set_option maxHeartbeats 4000000 in
theorem queue_Put.calls (w0 w : World) (q : Nat) (cap age last : Int) (es : List En) (id prio now : Int) (h : IsQ w0 w q cap age last es) (hb : Below w0.heap.size w0 w) (hp0 : 0 ≤ prio) (hp1 : prio ≤ 255) (hn0 : 0 ≤ now) (hn1 : now ≤ 1099511627776) (hc : (es.length : Int) ≠ cap) (hl : es.length < 100000) (hla : 0 ≤ last ∧ last < 1000000) (hpa : 0 ≤ prio * age ∧ prio * age ≤ 300000000)
    (hu : ∀ b, NoUp (es ++ [⟨b, last + 1, id, prio * age - now⟩]) es.length) :
    Calls Try.prog 8 #[.pointer (some ⟨q, 0, none⟩), .int .i64 id, .int .i64 prio, .int .i64 now] w fun e w' => ∃ b, e = .returned (.tuple #[.int .i64 (last + 1), .int .i64 0]) ∧ IsQ w0 w' q cap age (last + 1) (es ++ [⟨b, last + 1, id, prio * age - now⟩]) ∧ Below w0.heap.size w0 w' := by
  have HQ := Aside0.mk h
  have HB := Aside0.mk hb
  have HL := Aside0.mk hl
  have HLA := Aside0.mk hla
  have HU := Aside0.mk hu
  have HTG := Aside0.mk (good_f now hn0 hn1)
  have c0 : decide (prio < 0) = false := decide_eq_false (by omega)
  have c1 : decide (255 < prio) = false := decide_eq_false (by omega)
  have c2 : ((es.length : Int) == cap) = false := beq_eq_false_iff_ne.mpr hc
  have hw0 : wrap64 (last + 1) = last + 1 := by unfold wrap64; omega
  obtain ⟨pa, hpae⟩ : ∃ pa, prio * age = pa := ⟨_, rfl⟩
  have hw1 : wrap64 (prio * age) = pa := by rw [hpae] at hpa ⊢; unfold wrap64; omega
  obtain ⟨wt, hwt⟩ : ∃ wt, pa - now = wt := ⟨_, rfl⟩
  have hw2 : wrap64 (pa - now) = wt := by rw [hpae] at hpa; unfold wrap64; omega
  rw [hpae, hwt] at HU ⊢
  have HWF := Aside0.mk (show (Lit.int .i64 (last + 1)).wf = true by
    simp [Lit.wf, IntKind.min, IntKind.max, IntKind.signed, IntKind.bits]
    omega)
  clear h hb hp0 hp1 hn0 hn1 hc hl hla hpa hu hpae hwt
  go_enter Try.func8, Try.ntmps8
  go_upto_region 3 with (go_at_call 19; with_reducible refine (tick_Good.calls now true _ HTG.out).mono ?_; rintro e w1 ⟨rfl, hd⟩; have HB1 := Aside0.mk (HB.out.trans (hd.below.mono HB.out.size)); have HQ1 := Aside0.mk (HQ.out.below hd.below); clear hd)
  have hxc := HQ1.out
  obtain ⟨v, m, n, hx, hnl⟩ := hxc
  obtain ⟨A, c, rfl⟩ := hx.slice
  have y0 : w1.cell? ⟨q, 0, none⟩ = some (.int .i64 cap) := (blk_cell hx.1 0).trans rfl
  have HX1 := Aside0.mk hx
  have HNL := Aside0.mk hnl
  clear hx hnl
  refine start_ (n := 8) (S := fun w' => w'.cell? ⟨q, 0, none⟩ = some (.int .i64 cap)) (ds := []) #[false, false, false, false, false, false, false, false] (by kernel_rfl) rfl rfl (y0) (fun hHeld => ?_)
  refine pure_ (i := 0) (N := some 24) (v := ?_) (a' := ?_) #[true, false, false, false, false, false, false, false] rfl rfl (by kernel_rfl) (fun _ _ _ h => h) (Or.inl ⟨by rfl, ?_⟩) ?_ ?_
  rotate_left
  · intro w'
    go_simp
    with_reducible rfl
  rotate_left
  · simp only [Act.put, List.setIfInBounds_toArray, List.set_cons_zero, List.set_cons_succ, i64_w, i32_w]
    rfl
  refine pure_ (i := 2) (N := some 26) (v := ?_) (a' := ?_) #[true, false, true, false, false, false, false, false] rfl rfl (by kernel_rfl) (fun _ _ _ h => h) (Or.inl ⟨by rfl, ?_⟩) ?_ ?_
  rotate_left
  · intro w'
    go_simp
    with_reducible rfl
  rotate_left
  · simp only [Act.put, List.setIfInBounds_toArray, List.set_cons_zero, List.set_cons_succ, i64_w, i32_w]
    rfl
  refine pure_ (i := 3) (N := some 27) (v := ?_) (a' := ?_) #[true, false, true, true, false, false, false, false] rfl rfl (by kernel_rfl) (fun _ _ _ h => h) (Or.inl ⟨by rfl, ?_⟩) ?_ ?_
  rotate_left
  · intro w'
    go_simp
    with_reducible rfl
  rotate_left
  · simp only [Act.put, List.setIfInBounds_toArray, List.set_cons_zero, List.set_cons_succ, i64_w, i32_w]
    rfl
  refine pure_ (i := 4) (N := some 28) (v := ?_) (a' := ?_) #[true, false, true, true, true, false, false, false] rfl rfl (by kernel_rfl) (fun _ _ _ h => h) (Or.inl ⟨by rfl, ?_⟩) ?_ ?_
  rotate_left
  · intro w'
    go_simp
    with_reducible rfl
  rotate_left
  · simp only [Act.put, List.setIfInBounds_toArray, List.set_cons_zero, List.set_cons_succ, i64_w, i32_w]
    rfl
  refine take_ (i := 5) (N := some 29) (v := ?_) (a' := ?_) #[true, false, true, true, true, true, false, false] rfl rfl (by kernel_rfl) (fun _ _ _ h => h) (Or.inl ⟨by rfl, ?_⟩) hHeld ?_ ?_
  rotate_left
  · intro w' s0
    go_simp
    with_reducible rfl
  rotate_left
  · simp only [Act.put, List.setIfInBounds_toArray, List.set_cons_zero, List.set_cons_succ, i64_w, i32_w]
    rfl
  refine one_ (i := 1) (N := some 25) #[true, true, true, true, true, true, false, false] rfl rfl (by kernel_rfl) (by decide) (fun K hK => ?_)
  refine goes_ Try.func12 (by kernel_rfl) rfl #[.pointer (some ⟨q, 0, none⟩)] (by rfl) rfl rfl (by simp only [List.map_toArray, List.map_cons, List.map_nil]; rfl) ?_
  with_reducible refine (queue_Len.calls w0 _ q cap age last es (HQ1.out.below (below_drew1 (Below.refl _ _)))).mono ?_
  rintro e W3 ⟨rfl, hb⟩
  refine ⟨_, rfl, ?_⟩
  have HX3 := Aside0.mk (HX1.out.below (below_step (below_drew1 (Below.refl _ _)) hb))
  have HB3 := Aside0.mk (HB1.out.trans ((below_step (below_drew1 (Below.refl _ _)) hb).mono HB1.out.size))
  clear hb
  refine hK.out _ _ ((blk_cell HX3.out.1 0).trans rfl) (fun hHeld => ?_)
  clear hK K
  refine norm_ (a' := ?_) ?_ ?_
  rotate_left
  · show Act.put _ (some 25) _ = _
    simp only [Act.put, List.setIfInBounds_toArray, List.set_cons_zero, List.set_cons_succ, i64_w, i32_w]
    rfl
  refine pure_ (i := 6) (N := some 30) (v := ?_) (a' := ?_) #[true, true, true, true, true, true, true, false] rfl rfl (by kernel_rfl) (fun _ _ _ h => h) (Or.inl ⟨by rfl, ?_⟩) ?_ ?_
  rotate_left
  · intro w'
    go_simp
    with_reducible rfl
  rotate_left
  · simp only [Act.put, List.setIfInBounds_toArray, List.set_cons_zero, List.set_cons_succ, i64_w, i32_w]
    rfl
  refine pure_ (i := 7) (N := some 23) (v := ?_) (a' := ?_) #[true, true, true, true, true, true, true, true] rfl rfl (by kernel_rfl) (fun _ _ _ h => h) (Or.inl ⟨by rfl, ?_⟩) ?_ ?_
  rotate_left
  · intro w'
    go_simp
    with_reducible rfl
  rotate_left
  · simp only [Act.put, List.setIfInBounds_toArray, List.set_cons_zero, List.set_cons_succ, i64_w, i32_w]
    rfl
  refine done_ (by kernel_rfl) ?_
  clear hHeld y0
  have y2 : W3.cell? ⟨q, 2, none⟩ = some (.int .i64 last) := (blk_cell HX3.out.1 2).trans rfl
  have fz2 := blk_frozen HX3.out.1 2
  have HX4 := Aside0.mk (HX3.out.setLast (last + 1))
  have HB4 := Aside0.mk (HB3.out.setCell (p := ⟨q, 2, none⟩) HX3.out.2.1 (.int .i64 (last + 1)))
  go_upto_region 6 with (fail)
  clear y2 fz2
  generalize W3.setCell ⟨q, 2, none⟩ (.int .i64 (last + 1)) = W4 at *
  have y2 : W4.cell? ⟨q, 2, none⟩ = some (.int .i64 (last + 1)) := (blk_cell HX4.out.1 2).trans rfl
  have y1 : W4.cell? ⟨q, 1, none⟩ = some (.int .i64 age) := (blk_cell HX4.out.1 1).trans rfl
  refine start_ (n := 16) (S := fun w' => w'.cell? ⟨q, 2, none⟩ = some (.int .i64 (last + 1)) ∧ w'.cell? ⟨q, 1, none⟩ = some (.int .i64 age)) (ds := [14]) #[false, false, false, false, false, false, false, false, false, false, false, false, false, false, false, false] (by kernel_rfl) rfl rfl ⟨y2, y1⟩ (fun hHeld => ?_)
  refine pure_ (i := 0) (N := some 38) (v := ?_) (a' := ?_) #[true, false, false, false, false, false, false, false, false, false, false, false, false, false, false, false] rfl rfl (by kernel_rfl) (fun _ _ _ h => h) (Or.inl ⟨by rfl, ?_⟩) ?_ ?_
  rotate_left
  · intro w'
    go_simp
    with_reducible rfl
  rotate_left
  · simp only [Act.put, List.setIfInBounds_toArray, List.set_cons_zero, List.set_cons_succ, i64_w, i32_w]
    rfl
  refine pure_ (i := 1) (N := some 39) (v := ?_) (a' := ?_) #[true, true, false, false, false, false, false, false, false, false, false, false, false, false, false, false] rfl rfl (by kernel_rfl) (fun _ _ _ h => h) (Or.inl ⟨by rfl, ?_⟩) ?_ ?_
  rotate_left
  · intro w'
    go_simp
    with_reducible rfl
  rotate_left
  · simp only [Act.put, List.setIfInBounds_toArray, List.set_cons_zero, List.set_cons_succ, i64_w, i32_w]
    rfl
  refine pure_ (i := 2) (N := some 40) (v := ?_) (a' := ?_) #[true, true, true, false, false, false, false, false, false, false, false, false, false, false, false, false] rfl rfl (by kernel_rfl) (fun _ _ _ h => h) (Or.inl ⟨by rfl, ?_⟩) ?_ ?_
  rotate_left
  · intro w'
    go_simp
    with_reducible rfl
  rotate_left
  · simp only [Act.put, List.setIfInBounds_toArray, List.set_cons_zero, List.set_cons_succ, i64_w, i32_w]
    rfl
  refine pure_ (i := 4) (N := some 42) (v := ?_) (a' := ?_) #[true, true, true, false, true, false, false, false, false, false, false, false, false, false, false, false] rfl rfl (by kernel_rfl) (fun _ _ _ h => h) (Or.inl ⟨by rfl, ?_⟩) ?_ ?_
  rotate_left
  · intro w'
    go_simp
    with_reducible rfl
  rotate_left
  · simp only [Act.put, List.setIfInBounds_toArray, List.set_cons_zero, List.set_cons_succ, i64_w, i32_w]
    rfl
  refine pure_ (i := 5) (N := some 43) (v := ?_) (a' := ?_) #[true, true, true, false, true, true, false, false, false, false, false, false, false, false, false, false] rfl rfl (by kernel_rfl) (fun _ _ _ h => h) (Or.inl ⟨by rfl, ?_⟩) ?_ ?_
  rotate_left
  · intro w'
    go_simp
    with_reducible rfl
  rotate_left
  · simp only [Act.put, List.setIfInBounds_toArray, List.set_cons_zero, List.set_cons_succ, i64_w, i32_w]
    rfl
  refine pure_ (i := 6) (N := some 44) (v := ?_) (a' := ?_) #[true, true, true, false, true, true, true, false, false, false, false, false, false, false, false, false] rfl rfl (by kernel_rfl) (fun _ _ _ h => h) (Or.inl ⟨by rfl, ?_⟩) ?_ ?_
  rotate_left
  · intro w'
    go_simp
    with_reducible rfl
  rotate_left
  · simp only [Act.put, List.setIfInBounds_toArray, List.set_cons_zero, List.set_cons_succ, i64_w, i32_w]
    rfl
  refine pure_ (i := 7) (N := some 45) (v := ?_) (a' := ?_) #[true, true, true, false, true, true, true, true, false, false, false, false, false, false, false, false] rfl rfl (by kernel_rfl) (fun _ _ _ h => h) (Or.inl ⟨by rfl, ?_⟩) ?_ ?_
  rotate_left
  · intro w'
    go_simp
    with_reducible rfl
  rotate_left
  · simp only [Act.put, List.setIfInBounds_toArray, List.set_cons_zero, List.set_cons_succ, i64_w, i32_w]
    rfl
  refine pure_ (i := 8) (N := some 46) (v := ?_) (a' := ?_) #[true, true, true, false, true, true, true, true, true, false, false, false, false, false, false, false] rfl rfl (by kernel_rfl) (fun _ _ _ h => h) (Or.inl ⟨by rfl, ?_⟩) ?_ ?_
  rotate_left
  · intro w'
    go_simp
    with_reducible rfl
  rotate_left
  · simp only [Act.put, List.setIfInBounds_toArray, List.set_cons_zero, List.set_cons_succ, i64_w, i32_w]
    rfl
  refine pure_ (i := 11) (N := some 49) (v := ?_) (a' := ?_) #[true, true, true, false, true, true, true, true, true, false, false, true, false, false, false, false] rfl rfl (by kernel_rfl) (fun _ _ _ h => h) (Or.inl ⟨by rfl, ?_⟩) ?_ ?_
  rotate_left
  · intro w'
    go_simp
    with_reducible rfl
  rotate_left
  · simp only [Act.put, List.setIfInBounds_toArray, List.set_cons_zero, List.set_cons_succ, i64_w, i32_w]
    rfl
  refine take_ (i := 3) (N := some 41) (v := ?_) (a' := ?_) #[true, true, true, true, true, true, true, true, true, false, false, true, false, false, false, false] rfl rfl (by kernel_rfl) (fun _ _ _ h => h) (Or.inl ⟨by rfl, ?_⟩) hHeld ?_ ?_
  rotate_left
  · rintro w' ⟨s0, s1⟩
    go_simp
    with_reducible rfl
  rotate_left
  · simp only [Act.put, List.setIfInBounds_toArray, List.set_cons_zero, List.set_cons_succ, i64_w, i32_w]
    rfl
  refine take_ (i := 9) (N := some 47) (v := ?_) (a' := ?_) #[true, true, true, true, true, true, true, true, true, true, false, true, false, false, false, false] rfl rfl (by kernel_rfl) (fun _ _ _ h => h) (Or.inl ⟨by rfl, ?_⟩) hHeld ?_ ?_
  rotate_left
  · rintro w' ⟨s0, s1⟩
    go_simp
    with_reducible rfl
  rotate_left
  · simp only [Act.put, List.setIfInBounds_toArray, List.set_cons_zero, List.set_cons_succ, i64_w, i32_w]
    rfl
  refine pure_ (i := 10) (N := some 48) (v := ?_) (a' := ?_) #[true, true, true, true, true, true, true, true, true, true, true, true, false, false, false, false] rfl rfl (by kernel_rfl) (fun _ _ _ h => h) (Or.inl ⟨by rfl, ?_⟩) ?_ ?_
  rotate_left
  · intro w'
    go_simp
    with_reducible rfl
  rotate_left
  · simp only [Act.put, List.setIfInBounds_toArray, List.set_cons_zero, List.set_cons_succ, i64_w, i32_w]
    rfl
  refine pure_ (i := 12) (N := some 50) (v := ?_) (a' := ?_) #[true, true, true, true, true, true, true, true, true, true, true, true, true, false, false, false] rfl rfl (by kernel_rfl) (fun _ _ _ h => h) (Or.inl ⟨by rfl, ?_⟩) ?_ ?_
  rotate_left
  · intro w'
    go_simp
    with_reducible rfl
  rotate_left
  · simp only [Act.put, List.setIfInBounds_toArray, List.set_cons_zero, List.set_cons_succ, i64_w, i32_w]
    rfl
  refine pure_ (i := 13) (N := some 51) (v := ?_) (a' := ?_) #[true, true, true, true, true, true, true, true, true, true, true, true, true, true, false, false] rfl rfl (by kernel_rfl) (fun _ _ _ h => h) (Or.inl ⟨by rfl, ?_⟩) ?_ ?_
  rotate_left
  · intro w'
    go_simp
    with_reducible rfl
  rotate_left
  · simp only [Act.put, List.setIfInBounds_toArray, List.set_cons_zero, List.set_cons_succ, i64_w, i32_w]
    rfl
  refine last_ (i := 14) (N := some 52) #[true, true, true, true, true, true, true, true, true, true, true, true, true, true, true, false] rfl rfl (by kernel_rfl) (by decide) (fun K hK => ?_)
  refine value_ (w1 := ?_) (v := ?_) (by rfl) rfl ?_ ?_
  rotate_left 2
  · go_simp
    constructor
    · rfl
    · rfl
  refine hK.out _ _ ?_
  clear hK K
  refine norm_ (a' := ?_) ?_ ?_
  rotate_left
  · show Act.put _ (some 52) _ = _
    simp only [Act.put, List.setIfInBounds_toArray, List.set_cons_zero, List.set_cons_succ, i64_w, i32_w]
    rfl
  refine pure_ (i := 15) (N := some 10) (v := ?_) (a' := ?_) #[true, true, true, true, true, true, true, true, true, true, true, true, true, true, true, true] rfl rfl (by kernel_rfl) (fun _ _ _ h => h) (Or.inl ⟨by rfl, ?_⟩) ?_ ?_
  rotate_left
  · intro w'
    go_simp
    with_reducible rfl
  rotate_left
  · simp only [Act.put, List.setIfInBounds_toArray, List.set_cons_zero, List.set_cons_succ, i64_w, i32_w]
    rfl
  refine done_ (by kernel_rfl) ?_
  clear hHeld y1 y2
  have hb5 : Below W4.heap.size W4 (W4.alloc (.cells #[.int .i64 (last + 1), .int .i64 id, .int .i64 wt, .int .i64 0] 61)).drew := below_step (below_alloc (Below.refl _ _) _) (below_drew1 (Below.refl _ _))
  have hn5 : (W4.alloc (.cells #[.int .i64 (last + 1), .int .i64 id, .int .i64 wt, .int .i64 0] 61)).drew.heap[W4.heap.size]? = some (.cells #[.int .i64 (last + 1), .int .i64 id, .int .i64 wt, .int .i64 0] 61) := blk_new W4 (.cells #[.int .i64 (last + 1), .int .i64 id, .int .i64 wt, .int .i64 0] 61)
  have HD := Aside0.mk (show ∀ x ∈ es, x.b ≠ W4.heap.size from fun x hx => by
    obtain ⟨j, hj⟩ := List.getElem?_of_mem hx
    have := blk_lt (HX4.out.2.2.2.2 j x hj).1
    omega)
  generalize (W4.alloc (.cells #[.int .i64 (last + 1), .int .i64 id, .int .i64 wt, .int .i64 0] 61)).drew = W5 at *
  obtain ⟨b, hbb⟩ : ∃ b, W4.heap.size = b := ⟨_, rfl⟩
  have HX5 := Aside0.mk (HX4.out.below hb5)
  have HB5 := Aside0.mk (HB4.out.trans (hb5.mono HB4.out.size))
  have HE5 := Aside0.mk (show IsEn w0 W5 ⟨b, last + 1, id, wt⟩ 0 from ⟨by rw [← hbb]; exact hn5, by rw [← hbb]; exact HB4.out.size⟩)
  rw [hbb] at HD ⊢
  clear hb5 hn5 hbb
  have y4 : W5.cell? ⟨q, 4, none⟩ = some (.map (some m)) := (blk_cell HX5.out.1 4).trans rfl
  have e0 : W5.cell? ⟨b, 0, none⟩ = some (.int .i64 (last + 1)) := (blk_cell HE5.out.1 0).trans rfl
  obtain ⟨D, hown⟩ := HX5.out.2.2.2.1.1
  obtain ⟨W6, hrun, hm6, hg6⟩ := (World.ownsMap.drew hown).update (t := 53) (int_keyed Try.underlying3) Try.underlying53 (val := .pointer (some ⟨b, 0, none⟩)) (by have := HL.out; have := HNL.out; unfold maxLen; omega) (keyOf_int_mk Try.underlying3 HWF.out) rfl
  go_upto_region 7 with (fail)
  refine start_ (n := 10) (S := fun w' => w'.cell? ⟨q, 4, none⟩ = some (.map (some m)) ∧ w'.cell? ⟨b, 0, none⟩ = some (.int .i64 (last + 1))) (ds := [9]) #[false, false, false, false, false, false, false, false, false, false] (by kernel_rfl) rfl rfl ⟨y4, e0⟩ (fun hHeld => ?_)
  refine pure_ (i := 0) (N := some 53) (v := ?_) (a' := ?_) #[true, false, false, false, false, false, false, false, false, false] rfl rfl (by kernel_rfl) (fun _ _ _ h => h) (Or.inl ⟨by rfl, ?_⟩) ?_ ?_
  rotate_left
  · intro w'
    go_simp
    with_reducible rfl
  rotate_left
  · simp only [Act.put, List.setIfInBounds_toArray, List.set_cons_zero, List.set_cons_succ, i64_w, i32_w]
    rfl
  refine pure_ (i := 1) (N := some 54) (v := ?_) (a' := ?_) #[true, true, false, false, false, false, false, false, false, false] rfl rfl (by kernel_rfl) (fun _ _ _ h => h) (Or.inl ⟨by rfl, ?_⟩) ?_ ?_
  rotate_left
  · intro w'
    go_simp
    with_reducible rfl
  rotate_left
  · simp only [Act.put, List.setIfInBounds_toArray, List.set_cons_zero, List.set_cons_succ, i64_w, i32_w]
    rfl
  refine pure_ (i := 2) (N := some 55) (v := ?_) (a' := ?_) #[true, true, true, false, false, false, false, false, false, false] rfl rfl (by kernel_rfl) (fun _ _ _ h => h) (Or.inl ⟨by rfl, ?_⟩) ?_ ?_
  rotate_left
  · intro w'
    go_simp
    with_reducible rfl
  rotate_left
  · simp only [Act.put, List.setIfInBounds_toArray, List.set_cons_zero, List.set_cons_succ, i64_w, i32_w]
    rfl
  refine pure_ (i := 4) (N := some 57) (v := ?_) (a' := ?_) #[true, true, true, false, true, false, false, false, false, false] rfl rfl (by kernel_rfl) (fun _ _ _ h => h) (Or.inl ⟨by rfl, ?_⟩) ?_ ?_
  rotate_left
  · intro w'
    go_simp
    with_reducible rfl
  rotate_left
  · simp only [Act.put, List.setIfInBounds_toArray, List.set_cons_zero, List.set_cons_succ, i64_w, i32_w]
    rfl
  refine pure_ (i := 5) (N := some 58) (v := ?_) (a' := ?_) #[true, true, true, false, true, true, false, false, false, false] rfl rfl (by kernel_rfl) (fun _ _ _ h => h) (Or.inl ⟨by rfl, ?_⟩) ?_ ?_
  rotate_left
  · intro w'
    go_simp
    with_reducible rfl
  rotate_left
  · simp only [Act.put, List.setIfInBounds_toArray, List.set_cons_zero, List.set_cons_succ, i64_w, i32_w]
    rfl
  refine pure_ (i := 6) (N := some 59) (v := ?_) (a' := ?_) #[true, true, true, false, true, true, true, false, false, false] rfl rfl (by kernel_rfl) (fun _ _ _ h => h) (Or.inl ⟨by rfl, ?_⟩) ?_ ?_
  rotate_left
  · intro w'
    go_simp
    with_reducible rfl
  rotate_left
  · simp only [Act.put, List.setIfInBounds_toArray, List.set_cons_zero, List.set_cons_succ, i64_w, i32_w]
    rfl
  refine pure_ (i := 8) (N := some 61) (v := ?_) (a' := ?_) #[true, true, true, false, true, true, true, false, true, false] rfl rfl (by kernel_rfl) (fun _ _ _ h => h) (Or.inl ⟨by rfl, ?_⟩) ?_ ?_
  rotate_left
  · intro w'
    go_simp
    with_reducible rfl
  rotate_left
  · simp only [Act.put, List.setIfInBounds_toArray, List.set_cons_zero, List.set_cons_succ, i64_w, i32_w]
    rfl
  refine take_ (i := 3) (N := some 56) (v := ?_) (a' := ?_) #[true, true, true, true, true, true, true, false, true, false] rfl rfl (by kernel_rfl) (fun _ _ _ h => h) (Or.inl ⟨by rfl, ?_⟩) hHeld ?_ ?_
  rotate_left
  · rintro w' ⟨s0, s1⟩
    go_simp
    with_reducible rfl
  rotate_left
  · simp only [Act.put, List.setIfInBounds_toArray, List.set_cons_zero, List.set_cons_succ, i64_w, i32_w]
    rfl
  refine take_ (i := 7) (N := some 60) (v := ?_) (a' := ?_) #[true, true, true, true, true, true, true, true, true, false] rfl rfl (by kernel_rfl) (fun _ _ _ h => h) (Or.inl ⟨by rfl, ?_⟩) hHeld ?_ ?_
  rotate_left
  · rintro w' ⟨s0, s1⟩
    go_simp
    with_reducible rfl
  rotate_left
  · simp only [Act.put, List.setIfInBounds_toArray, List.set_cons_zero, List.set_cons_succ, i64_w, i32_w]
    rfl
  refine last_ (i := 9) (N := none) #[true, true, true, true, true, true, true, true, true, true] rfl rfl (by kernel_rfl) (by decide) (fun K hK => ?_)
  refine skip_ (w1 := W6) (by rfl) rfl ?_ ?_
  · go_simp
  refine hK.out _ _ ?_
  clear hK K
  refine done_ (by kernel_rfl) ?_
  have HX6 := Aside0.mk ((HX5.out.below (below_drew1 (Below.refl _ _))).mapput hg6 ⟨_, hm6⟩)
  have HE6 := Aside0.mk (show IsEn w0 W6 ⟨b, last + 1, id, wt⟩ 0 from ⟨blk_grown (blk_drew HE5.out.1) hg6 (fun e => HX5.out.2.2.2.1.1.ne HE5.out.1 (by injection e with e; exact e.symm)), HE5.out.2⟩)
  have HB6 := Aside0.mk ((HB5.out.trans ((below_drew1 (Below.refl W5.heap.size W5)).mono HB5.out.size)).grown hg6 HB5.out.size (fun q' hq => by cases hq; exact HX5.out.2.2.2.1.2))
  clear hHeld y4 e0 hown hrun hm6 hg6
  go_upto_region 9 with (go_at_call 20; refine (heap_Push.calls w0 _ q cap age (last + 1) es (.slice A es.length c) m (n + 1) HX6.out (by have := HNL.out; omega) ⟨b, last + 1, id, wt⟩ 0 HE6.out HD.out (by have := HL.out; omega) HB6.out (HU.out b)).mono ?_; rintro en w7 ⟨rfl, hq, hb⟩; have HQ7 := Aside0.mk hq; have HB7 := Aside0.mk hb; clear hq hb)
  have e7 : w7.cell? ⟨b, 0, none⟩ = some (.int .i64 (last + 1)) := by
    obtain ⟨v7, m7, n7, hx7, _⟩ := HQ7.out
    exact (blk_cell (hx7.2.2.2.2 es.length ⟨b, last + 1, id, wt⟩ (by simp)).1 0).trans rfl
  go_wp2
  go_ret2
  exact ⟨b, rfl, HQ7.out, HB7.out⟩
end Go.Proofs.Ythnfbcicnmnhnaa.Q
