/- readyq: New, Len, Put, First, Weight, Remove and Take. -/
import Derived.Test.YthnfbcicnmnhnaaGRqHeap
namespace Go.Proofs.Ythnfbcicnmnhnaa.Q
open Go.RowKit Go.Shelf Go.Maps Go.Proofs.YthnfbcicnmnhnaaW.PrintWords Go.Proofs.YthnfbcicnmnhnaaW.PrintLast Go.Proofs.YthnfbcicnmnhnaaW.PrintMore
set_option linter.unusedVariables false
set_option linter.unusedSimpArgs false

/-! ### the map, in plain words -/
theorem keyI (x : Int) : WideAt.IsKeyLit (.int .i64 x) := by
  first | trivial | exact .int _ _ | simp [WideAt.IsKeyLit]
theorem litNe {a b : Int} (h : a ≠ b) : (Lit.int .i64 a) ≠ (Lit.int .i64 b) := fun e => h (by injection e)
theorem MapD.nil : MapD (.map []) [] := ⟨fun h => rfl, fun e he => by cases he⟩
theorem MapD.put {D : DataW Unit} {es : List En} (h : MapD D es) (hm : IsMap D) (e : En) (hnew : ∀ x ∈ es, x.h ≠ e.h) : MapD (D.put (.int .i64 e.h) (.lit (.int .i64 (e.b : Int)))) (e :: es) := by
  refine ⟨fun x => ?_, fun y hy z => ?_⟩
  · rw [List.any_cons]
    by_cases hx : e.h = x
    · subst hx
      rw [has_put_same hm (keyI _)]
      simp
    · rw [has_put_other (litNe (fun e => hx e.symm)), h.1 x]
      have : (e.h == x) = false := beq_eq_false_iff_ne.mpr hx
      rw [this, Bool.false_or]
  · rcases List.mem_cons.1 hy with rfl | hy
    · exact atKey_put_same hm (keyI _) _ _
    · rw [atKey_put_other (litNe (hnew y hy))]
      exact h.2 y hy z
theorem MapD.del {D : DataW Unit} {es : List En} {e : En} (h : MapD D (e :: es)) (hnew : ∀ x ∈ es, x.h ≠ e.h) : MapD (D.del (.int .i64 e.h)) es := by
  refine ⟨fun x => ?_, fun y hy z => ?_⟩
  · by_cases hx : e.h = x
    · subst hx
      rw [has_del_same, eq_comm, List.any_eq_false]
      intro y hy
      simpa using hnew y hy
    · rw [has_del_other (litNe (fun e => hx e.symm)), h.1 x, List.any_cons]
      have : (e.h == x) = false := beq_eq_false_iff_ne.mpr hx
      rw [this, Bool.false_or]
  · rw [atKey_del_other (litNe (hnew y hy))]
    exact h.2 y (by simp [hy]) z
theorem zero59 (w : World) : (zeroValue 59).run Try.prog w = .ok (.pointer none) w := by kernel_rfl
theorem HasM.found {W : World} {m n : Nat} {es : List En} (h : HasM W m n es) (e : En) (he : e ∈ es) (hwf : (Lit.int .i64 e.h).wf = true) : (Instr.lookup 53 (.map (some m)) (.int .i64 e.h) true).run Try.prog W = .ok (.tuple #[.pointer (some ⟨e.b, 0, none⟩), .bool true]) W := by
  obtain ⟨D, hown, h1, h2⟩ := h
  obtain ⟨v, ps, hrun, hv⟩ := hown.look_ok (t := 53) (int_keyed Try.underlying3) Try.underlying53 (zero59 W) (zd := .lit (.int .i64 (-1))) (zp := []) rfl (keyOf_int_mk Try.underlying3 hwf)
  rw [h2 e he] at hv
  have hh : has D (.int .i64 e.h) = true := by rw [h1, List.any_eq_true]; exact ⟨e, he, by simp⟩
  rw [hh] at hrun
  rcases ptrR_inv hv with ⟨h, _⟩ | ⟨b, hb, rfl⟩
  · omega
  · obtain rfl : e.b = b := by omega
    exact hrun
theorem HasM.absent {W : World} {m n : Nat} {es : List En} (h : HasM W m n es) (x : Int) (hx : ∀ e ∈ es, e.h ≠ x) (hwf : (Lit.int .i64 x).wf = true) : (Instr.lookup 53 (.map (some m)) (.int .i64 x) true).run Try.prog W = .ok (.tuple #[.pointer none, .bool false]) W := by
  obtain ⟨D, hown, h1, h2⟩ := h
  obtain ⟨v, ps, hrun, hv⟩ := hown.look_ok (t := 53) (int_keyed Try.underlying3) Try.underlying53 (zero59 W) (zd := .lit (.int .i64 (-1))) (zp := []) rfl (keyOf_int_mk Try.underlying3 hwf)
  have hh : has D (.int .i64 x) = false := by
    rw [h1, List.any_eq_false]
    intro y hy
    simpa using hx y hy
  rw [hh] at hrun
  rw [atKey_of_not_has hh] at hv
  rcases ptrR_inv hv with ⟨_, rfl⟩ | ⟨b, hb, _⟩
  · exact hrun
  · omega
theorem wf64 {x : Int} (h0 : -9223372036854775808 ≤ x) (h1 : x ≤ 9223372036854775807) : (Lit.int .i64 x).wf = true := by
  simp [Lit.wf, IntKind.min, IntKind.max, IntKind.signed, IntKind.bits]
  omega

set_option maxRecDepth 100000 in
set_option maxHeartbeats 2000000 in
theorem readyq_New.calls (w : World) (cap age : Int) (h1 : 1 ≤ cap) (h2 : cap ≤ 65536) (h3 : 1 ≤ age) (h4 : age ≤ 1048576) :
    Calls Try.prog 7 #[.int .i64 cap, .int .i64 age] w fun e w' => ∃ q, e = .returned (.pointer (some ⟨q, 0, none⟩)) ∧ IsQ w w' q cap age 0 [] ∧ Below w.heap.size w w' := by
  have c0 : decide (cap < 1) = false := decide_eq_false (by omega)
  have c1 : decide (65536 < cap) = false := decide_eq_false (by omega)
  have c2 : decide (age < 1) = false := decide_eq_false (by omega)
  have c3 : decide (1048576 < age) = false := decide_eq_false (by omega)
  clear h1 h2 h3 h4
  have hmm := @run_makeMap Try.prog
  go_enter Try.func7, Try.ntmps7
  go_wp2
  go_ret
  have hg1 := blk_new (w.alloc (.map #[] 0)) (.cells #[.int .i64 cap, .int .i64 age, .int .i64 0, .slice none 0 0, .map (some w.heap.size)] 58)
  rw [World.size_alloc] at hg1
  have hm1 : HasM ((w.alloc (.map #[] 0)).alloc (.cells #[.int .i64 cap, .int .i64 age, .int .i64 0, .slice none 0 0, .map (some w.heap.size)] 58)) w.heap.size 0 [] := ⟨_, World.ownsMap.alloc (World.ownsMap_made _ _ _ _) _, MapD.nil⟩
  exact ⟨w.heap.size + 1, rfl, ⟨_, _, 0, ⟨hg1, by omega, Kd.R_nil _ _ _ _ _, ⟨hm1, Nat.le_refl _⟩, fun j e hj => by simp at hj⟩, Nat.zero_le _⟩, ((Below.refl w.heap.size w).alloc (Nat.le_refl _) _).alloc (by simp) _⟩
set_option maxRecDepth 100000 in
set_option maxHeartbeats 2000000 in
theorem readyq_New_none (w : World) (cap age : Int) (h : cap < 1 ∨ 65536 < cap ∨ age < 1 ∨ 1048576 < age) :
    Calls Try.prog 7 #[.int .i64 cap, .int .i64 age] w fun e w' => e = .returned (.pointer none) ∧ Below w.heap.size w w' := by
  have key : ∀ (b0 b1 b2 b3 : Bool), decide (cap < 1) = b0 → decide (65536 < cap) = b1 → decide (age < 1) = b2 → decide (1048576 < age) = b3 → (b0 || (b1 || (b2 || b3))) = true → Calls Try.prog 7 #[.int .i64 cap, .int .i64 age] w fun e w' => e = .returned (.pointer none) ∧ Below w.heap.size w w' := by
    intro b0 b1 b2 b3 c0 c1 c2 c3 hb
    clear h
    cases b0 <;> cases b1 <;> cases b2 <;> cases b3 <;> first | (exact absurd hb (by decide)) | (clear hb; go_enter Try.func7, Try.ntmps7; go_wp2; go_ret; exact ⟨rfl, Below.refl _ _⟩)
  refine key _ _ _ _ rfl rfl rfl rfl ?_
  rcases h with h | h | h | h
  · rw [decide_eq_true h]; rfl
  · rw [decide_eq_true h]; simp
  · rw [decide_eq_true h]; simp
  · rw [decide_eq_true h]; simp
theorem queue_LenQ.calls (w0 w : World) (q : Nat) (cap age last : Int) (es : List En) (h : IsQ w0 w q cap age last es) :
    Calls Try.prog 12 #[.pointer (some ⟨q, 0, none⟩)] w fun e w' => e = .returned (.int .i64 (es.length : Int)) ∧ Below w.heap.size w w' := by
  obtain ⟨v, m, n, hx, _⟩ := h
  exact queue_Len.calls w0 w q cap age last es v m n es hx

theorem IsQX.setLast {w0 W : World} {q : Nat} {cap age last : Int} {es : List En} {v : Value} {m n : Nat} {ms : List En} (h : IsQX w0 W q cap age last es v m n ms) (l' : Int) : IsQX w0 (W.setCell ⟨q, 2, none⟩ (.int .i64 l')) q cap age l' es v m n ms := by
  obtain ⟨h1, h2, h3, h4, h5⟩ := h
  exact ⟨blk_put h1 2 _ rfl, h2, Kd.R_set h3 h1 (by decide) 2 _, ⟨h4.1.step (Below.heap_setCell _ _ _ m (h4.1.ne h1)), h4.2⟩, fun j x hj => ⟨blk_far (h5 j x hj).1 (blk_ne (h5 j x hj).1 h1 (by decide)) _, (h5 j x hj).2⟩⟩
theorem IsQX.mapput {w0 W W' : World} {q : Nat} {cap age last : Int} {es : List En} {v : Value} {m n n' : Nat} {ms ms' : List En} (h : IsQX w0 W q cap age last es v m n ms) (hg : W.grownBy W' (some m)) (hm' : HasM W' m n' ms') : IsQX w0 W' q cap age last es v m n' ms' := by
  obtain ⟨h1, h2, h3, h4, h5⟩ := h
  refine ⟨blk_grown h1 hg (fun e => h4.1.ne h1 (by injection e with e; exact e.symm)), h2, Kd.R_mono (Kd.R_grown (ok := fun k => True ∧ k ≠ m) (Kd.R_mono (Kd.R_bound h3) (fun k hk => ⟨trivial, fun e => by
    obtain ⟨_, _, _, q', _, cells, hc⟩ := hk
    exact h4.1.ne hc e.symm⟩)) hg (fun k hk e => hk.2 (by injection e))) (fun _ _ => trivial), ⟨hm', h4.2⟩, fun j x hj => ⟨blk_grown (h5 j x hj).1 hg (fun e => h4.1.ne (h5 j x hj).1 (by injection e with e; exact e.symm)), (h5 j x hj).2⟩⟩
theorem IsQX.perm {w0 W : World} {q : Nat} {cap age last : Int} {es : List En} {v : Value} {m n : Nat} {ms ms' : List En} (h : IsQX w0 W q cap age last es v m n ms) (hp : ms'.Perm ms) : IsQX w0 W q cap age last es v m n ms' := by
  obtain ⟨h1, h2, h3, h4, h5⟩ := h
  exact ⟨h1, h2, h3, ⟨h4.1.perm hp, h4.2⟩, h5⟩

set_option maxRecDepth 100000 in
set_option maxHeartbeats 4000000 in
theorem queue_First.calls (w0 w : World) (q : Nat) (cap age last : Int) (x : En) (es : List En) (h : IsQ w0 w q cap age last es) (h0 : 0 < es.length) (hx0 : es[0] = x) :
    Calls Try.prog 9 #[.pointer (some ⟨q, 0, none⟩)] w fun e w' => e = .returned (.tuple #[.int .i64 x.id, .int .i64 x.h, .bool true]) ∧ Below w.heap.size w w' := by
  have HQ := Aside0.mk h
  obtain ⟨nl, hnl⟩ : ∃ nl : Int, (es.length : Int) = nl := ⟨_, rfl⟩
  have hd : (nl == 0) = false := beq_eq_false_iff_ne.mpr (by omega)
  have HNL := Aside0.mk hnl
  have H0 := Aside0.mk (show ∃ h : 0 < es.length, es[0] = x from ⟨h0, hx0⟩)
  clear h hnl h0 hx0
  go_enter Try.func9, Try.ntmps9
  go_upto_region 3 with (go_at_call 12; (refine (queue_LenQ.calls w0 _ q cap age last es HQ.out).mono ?_; rw [HNL.out]; rintro e w1 ⟨rfl, hb⟩; have HB1 := Aside0.mk hb; have HQ1 := Aside0.mk (HQ.out.below hb); clear hb))
  obtain ⟨v, m, n, hx, _⟩ := HQ1.out
  obtain ⟨A, c, rfl⟩ := hx.slice
  obtain ⟨h00, hx0⟩ := H0.out
  obtain ⟨a, rfl, xi, ei⟩ := hx.at_ 0 h00
  rw [hx0] at xi ei
  have y3 : w1.cell? ⟨q, 3, none⟩ = some (.slice (some ⟨a, 0, none⟩) es.length c) := (blk_cell hx.1 3).trans rfl
  have hp3 : (0 < es.length) = True := eq_true h00
  have e0 : w1.cell? ⟨x.b, 0, none⟩ = some (.int .i64 x.h) := (blk_cell ei.1 0).trans rfl
  have e1 : w1.cell? ⟨x.b, 1, none⟩ = some (.int .i64 x.id) := (blk_cell ei.1 1).trans rfl
  have xi' : w1.cell? ⟨a, 0, none⟩ = some (.pointer (some ⟨x.b, 0, none⟩)) := xi
  clear hx ei xi h00 hx0
  go_upto_region 4 with (fail)
  go_quiet (fail)
  go_wp2
  go_ret3
  exact ⟨rfl, below_step HB1.out (pw_below_drewN (Below.refl _ _) _)⟩
set_option maxRecDepth 100000 in
set_option maxHeartbeats 4000000 in
theorem queue_First_none (w0 w : World) (q : Nat) (cap age last : Int) (h : IsQ w0 w q cap age last []) :
    Calls Try.prog 9 #[.pointer (some ⟨q, 0, none⟩)] w fun e w' => e = .returned (.tuple #[.int .i64 0, .int .i64 0, .bool false]) ∧ Below w.heap.size w w' := by
  have HQ := Aside0.mk h
  clear h
  go_enter Try.func9, Try.ntmps9
  go_wp2_with (go_at_call 12; (refine (queue_LenQ.calls w0 _ q cap age last [] HQ.out).mono ?_; rintro e w1 ⟨rfl, hb⟩; have HB1 := Aside0.mk hb; clear hb))
  go_ret3
  exact ⟨rfl, HB1.out⟩

theorem good_f (a : Int) (h0 : 0 ≤ a) (h1 : a ≤ 1099511627776) : tick_Good.f a = some true := by
  unfold tick_Good.f
  rw [if_pos h0, decide_eq_true h1]
set_option maxRecDepth 100000 in
set_option maxHeartbeats 4000000 in
theorem queue_Put.calls (w0 w : World) (q : Nat) (cap age last : Int) (es : List En) (id prio now : Int) (h : IsQ w0 w q cap age last es) (hb : Below w0.heap.size w0 w) (hp0 : 0 ≤ prio) (hp1 : prio ≤ 255) (hn0 : 0 ≤ now) (hn1 : now ≤ 1099511627776) (hc : (es.length : Int) ≠ cap) (hl : es.length < 100000) (hla : 0 ≤ last ∧ last < 1000000) (hpa : 0 ≤ prio * age ∧ prio * age ≤ 300000000)
    (hu : ∀ x ∈ es, x.h ≠ last + 1) :
    Calls Try.prog 8 #[.pointer (some ⟨q, 0, none⟩), .int .i64 id, .int .i64 prio, .int .i64 now] w fun e w' => ∃ b, e = .returned (.tuple #[.int .i64 (last + 1), .int .i64 0]) ∧ IsQ w0 w' q cap age (last + 1) (Hp.pushF ltE es ⟨b, last + 1, id, prio * age - now⟩) ∧ Below w0.heap.size w0 w' := by
  have HQ := Aside0.mk h
  have HB := Aside0.mk hb
  have HL := Aside0.mk hl
  have HLA := Aside0.mk hla
  have HU := Aside0.mk hu
  have HTG := Aside0.mk (good_f now hn0 hn1)
  have c0 : decide (prio < 0) = false := decide_eq_false (by omega)
  have c1 : decide (255 < prio) = false := decide_eq_false (by omega)
  have c2 : ((es.length : Int) == cap) = false := beq_eq_false_iff_ne.mpr hc
  have hw0 : wrap64 (last + 1) = last + 1 := by unfold wrap64; omega
  obtain ⟨pa, hpae⟩ : ∃ pa, prio * age = pa := ⟨_, rfl⟩
  have hw1 : wrap64 (prio * age) = pa := by rw [hpae] at hpa ⊢; unfold wrap64; omega
  obtain ⟨wt, hwt⟩ : ∃ wt, pa - now = wt := ⟨_, rfl⟩
  have hw2 : wrap64 (pa - now) = wt := by rw [hpae] at hpa; unfold wrap64; omega
  rw [hpae, hwt]
  have HWF := Aside0.mk (wf64 (x := last + 1) (by omega) (by omega))
  clear h hb hp0 hp1 hn0 hn1 hc hl hla hpa hu hpae hwt
  go_enter Try.func8, Try.ntmps8
  go_upto_region 3 with (go_at_call 19; with_reducible refine (tick_Good.calls now true _ HTG.out).mono ?_; rintro e w1 ⟨rfl, hd⟩; have HB1 := Aside0.mk (HB.out.trans (hd.below.mono HB.out.size)); have HQ1 := Aside0.mk (HQ.out.below hd.below); clear hd)
  have hxc := HQ1.out
  obtain ⟨v, m, n, hx, hnl⟩ := hxc
  obtain ⟨A, c, rfl⟩ := hx.slice
  have y0 : w1.cell? ⟨q, 0, none⟩ = some (.int .i64 cap) := (blk_cell hx.1 0).trans rfl
  have HX1 := Aside0.mk hx
  have HNL := Aside0.mk hnl
  clear hx hnl
  refine start_ (n := 8) (S := fun w' => w'.cell? ⟨q, 0, none⟩ = some (.int .i64 cap)) (ds := []) #[false, false, false, false, false, false, false, false] (by kernel_rfl) rfl rfl (y0) (fun hHeld => ?_)
  refine pure_ (i := 0) (N := some 24) (v := ?_) (a' := ?_) #[true, false, false, false, false, false, false, false] rfl rfl (by kernel_rfl) (fun _ _ _ h => h) (Or.inl ⟨by rfl, ?_⟩) ?_ ?_
  rotate_left
  · intro w'
    go_simp
    with_reducible rfl
  rotate_left
  · simp only [Act.put, List.setIfInBounds_toArray, List.set_cons_zero, List.set_cons_succ, i64_w, i32_w]
    rfl
  refine pure_ (i := 2) (N := some 26) (v := ?_) (a' := ?_) #[true, false, true, false, false, false, false, false] rfl rfl (by kernel_rfl) (fun _ _ _ h => h) (Or.inl ⟨by rfl, ?_⟩) ?_ ?_
  rotate_left
  · intro w'
    go_simp
    with_reducible rfl
  rotate_left
  · simp only [Act.put, List.setIfInBounds_toArray, List.set_cons_zero, List.set_cons_succ, i64_w, i32_w]
    rfl
  refine pure_ (i := 3) (N := some 27) (v := ?_) (a' := ?_) #[true, false, true, true, false, false, false, false] rfl rfl (by kernel_rfl) (fun _ _ _ h => h) (Or.inl ⟨by rfl, ?_⟩) ?_ ?_
  rotate_left
  · intro w'
    go_simp
    with_reducible rfl
  rotate_left
  · simp only [Act.put, List.setIfInBounds_toArray, List.set_cons_zero, List.set_cons_succ, i64_w, i32_w]
    rfl
  refine pure_ (i := 4) (N := some 28) (v := ?_) (a' := ?_) #[true, false, true, true, true, false, false, false] rfl rfl (by kernel_rfl) (fun _ _ _ h => h) (Or.inl ⟨by rfl, ?_⟩) ?_ ?_
  rotate_left
  · intro w'
    go_simp
    with_reducible rfl
  rotate_left
  · simp only [Act.put, List.setIfInBounds_toArray, List.set_cons_zero, List.set_cons_succ, i64_w, i32_w]
    rfl
  refine take_ (i := 5) (N := some 29) (v := ?_) (a' := ?_) #[true, false, true, true, true, true, false, false] rfl rfl (by kernel_rfl) (fun _ _ _ h => h) (Or.inl ⟨by rfl, ?_⟩) hHeld ?_ ?_
  rotate_left
  · intro w' s0
    go_simp
    with_reducible rfl
  rotate_left
  · simp only [Act.put, List.setIfInBounds_toArray, List.set_cons_zero, List.set_cons_succ, i64_w, i32_w]
    rfl
  refine one_ (i := 1) (N := some 25) #[true, true, true, true, true, true, false, false] rfl rfl (by kernel_rfl) (by decide) (fun K hK => ?_)
  refine goes_ Try.func12 (by kernel_rfl) rfl #[.pointer (some ⟨q, 0, none⟩)] (by rfl) rfl rfl (by simp only [List.map_toArray, List.map_cons, List.map_nil]; rfl) ?_
  with_reducible refine (queue_LenQ.calls w0 _ q cap age last es (HQ1.out.below (below_drew1 (Below.refl _ _)))).mono ?_
  rintro e W3 ⟨rfl, hb⟩
  refine ⟨_, rfl, ?_⟩
  have HX3 := Aside0.mk (HX1.out.below (below_step (below_drew1 (Below.refl _ _)) hb))
  have HB3 := Aside0.mk (HB1.out.trans ((below_step (below_drew1 (Below.refl _ _)) hb).mono HB1.out.size))
  clear hb
  refine hK.out _ _ ((blk_cell HX3.out.1 0).trans rfl) (fun hHeld => ?_)
  clear hK K
  refine norm_ (a' := ?_) ?_ ?_
  rotate_left
  · show Act.put _ (some 25) _ = _
    simp only [Act.put, List.setIfInBounds_toArray, List.set_cons_zero, List.set_cons_succ, i64_w, i32_w]
    rfl
  refine pure_ (i := 6) (N := some 30) (v := ?_) (a' := ?_) #[true, true, true, true, true, true, true, false] rfl rfl (by kernel_rfl) (fun _ _ _ h => h) (Or.inl ⟨by rfl, ?_⟩) ?_ ?_
  rotate_left
  · intro w'
    go_simp
    with_reducible rfl
  rotate_left
  · simp only [Act.put, List.setIfInBounds_toArray, List.set_cons_zero, List.set_cons_succ, i64_w, i32_w]
    rfl
  refine pure_ (i := 7) (N := some 23) (v := ?_) (a' := ?_) #[true, true, true, true, true, true, true, true] rfl rfl (by kernel_rfl) (fun _ _ _ h => h) (Or.inl ⟨by rfl, ?_⟩) ?_ ?_
  rotate_left
  · intro w'
    go_simp
    with_reducible rfl
  rotate_left
  · simp only [Act.put, List.setIfInBounds_toArray, List.set_cons_zero, List.set_cons_succ, i64_w, i32_w]
    rfl
  refine done_ (by kernel_rfl) ?_
  clear hHeld y0
  have y2 : W3.cell? ⟨q, 2, none⟩ = some (.int .i64 last) := (blk_cell HX3.out.1 2).trans rfl
  have fz2 := blk_frozen HX3.out.1 2
  have HX4 := Aside0.mk (HX3.out.setLast (last + 1))
  have HB4 := Aside0.mk (HB3.out.setCell (p := ⟨q, 2, none⟩) HX3.out.2.1 (.int .i64 (last + 1)))
  go_upto_region 6 with (fail)
  clear y2 fz2
  generalize W3.setCell ⟨q, 2, none⟩ (.int .i64 (last + 1)) = W4 at *
  have y2 : W4.cell? ⟨q, 2, none⟩ = some (.int .i64 (last + 1)) := (blk_cell HX4.out.1 2).trans rfl
  have y1 : W4.cell? ⟨q, 1, none⟩ = some (.int .i64 age) := (blk_cell HX4.out.1 1).trans rfl
  refine start_ (n := 16) (S := fun w' => w'.cell? ⟨q, 2, none⟩ = some (.int .i64 (last + 1)) ∧ w'.cell? ⟨q, 1, none⟩ = some (.int .i64 age)) (ds := [14]) #[false, false, false, false, false, false, false, false, false, false, false, false, false, false, false, false] (by kernel_rfl) rfl rfl ⟨y2, y1⟩ (fun hHeld => ?_)
  refine pure_ (i := 0) (N := some 38) (v := ?_) (a' := ?_) #[true, false, false, false, false, false, false, false, false, false, false, false, false, false, false, false] rfl rfl (by kernel_rfl) (fun _ _ _ h => h) (Or.inl ⟨by rfl, ?_⟩) ?_ ?_
  rotate_left
  · intro w'
    go_simp
    with_reducible rfl
  rotate_left
  · simp only [Act.put, List.setIfInBounds_toArray, List.set_cons_zero, List.set_cons_succ, i64_w, i32_w]
    rfl
  refine pure_ (i := 1) (N := some 39) (v := ?_) (a' := ?_) #[true, true, false, false, false, false, false, false, false, false, false, false, false, false, false, false] rfl rfl (by kernel_rfl) (fun _ _ _ h => h) (Or.inl ⟨by rfl, ?_⟩) ?_ ?_
  rotate_left
  · intro w'
    go_simp
    with_reducible rfl
  rotate_left
  · simp only [Act.put, List.setIfInBounds_toArray, List.set_cons_zero, List.set_cons_succ, i64_w, i32_w]
    rfl
  refine pure_ (i := 2) (N := some 40) (v := ?_) (a' := ?_) #[true, true, true, false, false, false, false, false, false, false, false, false, false, false, false, false] rfl rfl (by kernel_rfl) (fun _ _ _ h => h) (Or.inl ⟨by rfl, ?_⟩) ?_ ?_
  rotate_left
  · intro w'
    go_simp
    with_reducible rfl
  rotate_left
  · simp only [Act.put, List.setIfInBounds_toArray, List.set_cons_zero, List.set_cons_succ, i64_w, i32_w]
    rfl
  refine pure_ (i := 4) (N := some 42) (v := ?_) (a' := ?_) #[true, true, true, false, true, false, false, false, false, false, false, false, false, false, false, false] rfl rfl (by kernel_rfl) (fun _ _ _ h => h) (Or.inl ⟨by rfl, ?_⟩) ?_ ?_
  rotate_left
  · intro w'
    go_simp
    with_reducible rfl
  rotate_left
  · simp only [Act.put, List.setIfInBounds_toArray, List.set_cons_zero, List.set_cons_succ, i64_w, i32_w]
    rfl
  refine pure_ (i := 5) (N := some 43) (v := ?_) (a' := ?_) #[true, true, true, false, true, true, false, false, false, false, false, false, false, false, false, false] rfl rfl (by kernel_rfl) (fun _ _ _ h => h) (Or.inl ⟨by rfl, ?_⟩) ?_ ?_
  rotate_left
  · intro w'
    go_simp
    with_reducible rfl
  rotate_left
  · simp only [Act.put, List.setIfInBounds_toArray, List.set_cons_zero, List.set_cons_succ, i64_w, i32_w]
    rfl
  refine pure_ (i := 6) (N := some 44) (v := ?_) (a' := ?_) #[true, true, true, false, true, true, true, false, false, false, false, false, false, false, false, false] rfl rfl (by kernel_rfl) (fun _ _ _ h => h) (Or.inl ⟨by rfl, ?_⟩) ?_ ?_
  rotate_left
  · intro w'
    go_simp
    with_reducible rfl
  rotate_left
  · simp only [Act.put, List.setIfInBounds_toArray, List.set_cons_zero, List.set_cons_succ, i64_w, i32_w]
    rfl
  refine pure_ (i := 7) (N := some 45) (v := ?_) (a' := ?_) #[true, true, true, false, true, true, true, true, false, false, false, false, false, false, false, false] rfl rfl (by kernel_rfl) (fun _ _ _ h => h) (Or.inl ⟨by rfl, ?_⟩) ?_ ?_
  rotate_left
  · intro w'
    go_simp
    with_reducible rfl
  rotate_left
  · simp only [Act.put, List.setIfInBounds_toArray, List.set_cons_zero, List.set_cons_succ, i64_w, i32_w]
    rfl
  refine pure_ (i := 8) (N := some 46) (v := ?_) (a' := ?_) #[true, true, true, false, true, true, true, true, true, false, false, false, false, false, false, false] rfl rfl (by kernel_rfl) (fun _ _ _ h => h) (Or.inl ⟨by rfl, ?_⟩) ?_ ?_
  rotate_left
  · intro w'
    go_simp
    with_reducible rfl
  rotate_left
  · simp only [Act.put, List.setIfInBounds_toArray, List.set_cons_zero, List.set_cons_succ, i64_w, i32_w]
    rfl
  refine pure_ (i := 11) (N := some 49) (v := ?_) (a' := ?_) #[true, true, true, false, true, true, true, true, true, false, false, true, false, false, false, false] rfl rfl (by kernel_rfl) (fun _ _ _ h => h) (Or.inl ⟨by rfl, ?_⟩) ?_ ?_
  rotate_left
  · intro w'
    go_simp
    with_reducible rfl
  rotate_left
  · simp only [Act.put, List.setIfInBounds_toArray, List.set_cons_zero, List.set_cons_succ, i64_w, i32_w]
    rfl
  refine take_ (i := 3) (N := some 41) (v := ?_) (a' := ?_) #[true, true, true, true, true, true, true, true, true, false, false, true, false, false, false, false] rfl rfl (by kernel_rfl) (fun _ _ _ h => h) (Or.inl ⟨by rfl, ?_⟩) hHeld ?_ ?_
  rotate_left
  · rintro w' ⟨s0, s1⟩
    go_simp
    with_reducible rfl
  rotate_left
  · simp only [Act.put, List.setIfInBounds_toArray, List.set_cons_zero, List.set_cons_succ, i64_w, i32_w]
    rfl
  refine take_ (i := 9) (N := some 47) (v := ?_) (a' := ?_) #[true, true, true, true, true, true, true, true, true, true, false, true, false, false, false, false] rfl rfl (by kernel_rfl) (fun _ _ _ h => h) (Or.inl ⟨by rfl, ?_⟩) hHeld ?_ ?_
  rotate_left
  · rintro w' ⟨s0, s1⟩
    go_simp
    with_reducible rfl
  rotate_left
  · simp only [Act.put, List.setIfInBounds_toArray, List.set_cons_zero, List.set_cons_succ, i64_w, i32_w]
    rfl
  refine pure_ (i := 10) (N := some 48) (v := ?_) (a' := ?_) #[true, true, true, true, true, true, true, true, true, true, true, true, false, false, false, false] rfl rfl (by kernel_rfl) (fun _ _ _ h => h) (Or.inl ⟨by rfl, ?_⟩) ?_ ?_
  rotate_left
  · intro w'
    go_simp
    with_reducible rfl
  rotate_left
  · simp only [Act.put, List.setIfInBounds_toArray, List.set_cons_zero, List.set_cons_succ, i64_w, i32_w]
    rfl
  refine pure_ (i := 12) (N := some 50) (v := ?_) (a' := ?_) #[true, true, true, true, true, true, true, true, true, true, true, true, true, false, false, false] rfl rfl (by kernel_rfl) (fun _ _ _ h => h) (Or.inl ⟨by rfl, ?_⟩) ?_ ?_
  rotate_left
  · intro w'
    go_simp
    with_reducible rfl
  rotate_left
  · simp only [Act.put, List.setIfInBounds_toArray, List.set_cons_zero, List.set_cons_succ, i64_w, i32_w]
    rfl
  refine pure_ (i := 13) (N := some 51) (v := ?_) (a' := ?_) #[true, true, true, true, true, true, true, true, true, true, true, true, true, true, false, false] rfl rfl (by kernel_rfl) (fun _ _ _ h => h) (Or.inl ⟨by rfl, ?_⟩) ?_ ?_
  rotate_left
  · intro w'
    go_simp
    with_reducible rfl
  rotate_left
  · simp only [Act.put, List.setIfInBounds_toArray, List.set_cons_zero, List.set_cons_succ, i64_w, i32_w]
    rfl
  refine last_ (i := 14) (N := some 52) #[true, true, true, true, true, true, true, true, true, true, true, true, true, true, true, false] rfl rfl (by kernel_rfl) (by decide) (fun K hK => ?_)
  refine value_ (w1 := ?_) (v := ?_) (by rfl) rfl ?_ ?_
  rotate_left 2
  · go_simp
    constructor
    · rfl
    · rfl
  refine hK.out _ _ ?_
  clear hK K
  refine norm_ (a' := ?_) ?_ ?_
  rotate_left
  · show Act.put _ (some 52) _ = _
    simp only [Act.put, List.setIfInBounds_toArray, List.set_cons_zero, List.set_cons_succ, i64_w, i32_w]
    rfl
  refine pure_ (i := 15) (N := some 10) (v := ?_) (a' := ?_) #[true, true, true, true, true, true, true, true, true, true, true, true, true, true, true, true] rfl rfl (by kernel_rfl) (fun _ _ _ h => h) (Or.inl ⟨by rfl, ?_⟩) ?_ ?_
  rotate_left
  · intro w'
    go_simp
    with_reducible rfl
  rotate_left
  · simp only [Act.put, List.setIfInBounds_toArray, List.set_cons_zero, List.set_cons_succ, i64_w, i32_w]
    rfl
  refine done_ (by kernel_rfl) ?_
  clear hHeld y1 y2
  have hb5 : Below W4.heap.size W4 (W4.alloc (.cells #[.int .i64 (last + 1), .int .i64 id, .int .i64 wt, .int .i64 0] 61)).drew := below_step (below_alloc (Below.refl _ _) _) (below_drew1 (Below.refl _ _))
  have hn5 : (W4.alloc (.cells #[.int .i64 (last + 1), .int .i64 id, .int .i64 wt, .int .i64 0] 61)).drew.heap[W4.heap.size]? = some (.cells #[.int .i64 (last + 1), .int .i64 id, .int .i64 wt, .int .i64 0] 61) := blk_new W4 (.cells #[.int .i64 (last + 1), .int .i64 id, .int .i64 wt, .int .i64 0] 61)
  have HD := Aside0.mk (show ∀ x ∈ es, x.b ≠ W4.heap.size from fun x hx => by
    obtain ⟨j, hj⟩ := List.getElem?_of_mem hx
    have := blk_lt (HX4.out.2.2.2.2 j x hj).1
    omega)
  generalize (W4.alloc (.cells #[.int .i64 (last + 1), .int .i64 id, .int .i64 wt, .int .i64 0] 61)).drew = W5 at *
  obtain ⟨b, hbb⟩ : ∃ b, W4.heap.size = b := ⟨_, rfl⟩
  have HX5 := Aside0.mk (HX4.out.below hb5)
  have HB5 := Aside0.mk (HB4.out.trans (hb5.mono HB4.out.size))
  have HE5 := Aside0.mk (show IsEn w0 W5 ⟨b, last + 1, id, wt⟩ 0 from ⟨by rw [← hbb]; exact hn5, by rw [← hbb]; exact HB4.out.size⟩)
  rw [hbb] at HD ⊢
  clear hb5 hn5 hbb
  have y4 : W5.cell? ⟨q, 4, none⟩ = some (.map (some m)) := (blk_cell HX5.out.1 4).trans rfl
  have e0 : W5.cell? ⟨b, 0, none⟩ = some (.int .i64 (last + 1)) := (blk_cell HE5.out.1 0).trans rfl
  obtain ⟨D, hown, hMD⟩ := HX5.out.2.2.2.1.1
  have HMD := Aside0.mk (hMD.put hown.isMap ⟨b, last + 1, id, wt⟩ HU.out)
  obtain ⟨W6, hrun, hm6, hg6⟩ := (World.ownsMap.drew hown).update (t := 53) (int_keyed Try.underlying3) Try.underlying53 (val := .pointer (some ⟨b, 0, none⟩)) (by have := HLA.out; have := HNL.out; unfold maxLen; omega) (keyOf_int_mk Try.underlying3 HWF.out) rfl
  clear hMD
  go_upto_region 7 with (fail)
  refine start_ (n := 10) (S := fun w' => w'.cell? ⟨q, 4, none⟩ = some (.map (some m)) ∧ w'.cell? ⟨b, 0, none⟩ = some (.int .i64 (last + 1))) (ds := [9]) #[false, false, false, false, false, false, false, false, false, false] (by kernel_rfl) rfl rfl ⟨y4, e0⟩ (fun hHeld => ?_)
  refine pure_ (i := 0) (N := some 53) (v := ?_) (a' := ?_) #[true, false, false, false, false, false, false, false, false, false] rfl rfl (by kernel_rfl) (fun _ _ _ h => h) (Or.inl ⟨by rfl, ?_⟩) ?_ ?_
  rotate_left
  · intro w'
    go_simp
    with_reducible rfl
  rotate_left
  · simp only [Act.put, List.setIfInBounds_toArray, List.set_cons_zero, List.set_cons_succ, i64_w, i32_w]
    rfl
  refine pure_ (i := 1) (N := some 54) (v := ?_) (a' := ?_) #[true, true, false, false, false, false, false, false, false, false] rfl rfl (by kernel_rfl) (fun _ _ _ h => h) (Or.inl ⟨by rfl, ?_⟩) ?_ ?_
  rotate_left
  · intro w'
    go_simp
    with_reducible rfl
  rotate_left
  · simp only [Act.put, List.setIfInBounds_toArray, List.set_cons_zero, List.set_cons_succ, i64_w, i32_w]
    rfl
  refine pure_ (i := 2) (N := some 55) (v := ?_) (a' := ?_) #[true, true, true, false, false, false, false, false, false, false] rfl rfl (by kernel_rfl) (fun _ _ _ h => h) (Or.inl ⟨by rfl, ?_⟩) ?_ ?_
  rotate_left
  · intro w'
    go_simp
    with_reducible rfl
  rotate_left
  · simp only [Act.put, List.setIfInBounds_toArray, List.set_cons_zero, List.set_cons_succ, i64_w, i32_w]
    rfl
  refine pure_ (i := 4) (N := some 57) (v := ?_) (a' := ?_) #[true, true, true, false, true, false, false, false, false, false] rfl rfl (by kernel_rfl) (fun _ _ _ h => h) (Or.inl ⟨by rfl, ?_⟩) ?_ ?_
  rotate_left
  · intro w'
    go_simp
    with_reducible rfl
  rotate_left
  · simp only [Act.put, List.setIfInBounds_toArray, List.set_cons_zero, List.set_cons_succ, i64_w, i32_w]
    rfl
  refine pure_ (i := 5) (N := some 58) (v := ?_) (a' := ?_) #[true, true, true, false, true, true, false, false, false, false] rfl rfl (by kernel_rfl) (fun _ _ _ h => h) (Or.inl ⟨by rfl, ?_⟩) ?_ ?_
  rotate_left
  · intro w'
    go_simp
    with_reducible rfl
  rotate_left
  · simp only [Act.put, List.setIfInBounds_toArray, List.set_cons_zero, List.set_cons_succ, i64_w, i32_w]
    rfl
  refine pure_ (i := 6) (N := some 59) (v := ?_) (a' := ?_) #[true, true, true, false, true, true, true, false, false, false] rfl rfl (by kernel_rfl) (fun _ _ _ h => h) (Or.inl ⟨by rfl, ?_⟩) ?_ ?_
  rotate_left
  · intro w'
    go_simp
    with_reducible rfl
  rotate_left
  · simp only [Act.put, List.setIfInBounds_toArray, List.set_cons_zero, List.set_cons_succ, i64_w, i32_w]
    rfl
  refine pure_ (i := 8) (N := some 61) (v := ?_) (a' := ?_) #[true, true, true, false, true, true, true, false, true, false] rfl rfl (by kernel_rfl) (fun _ _ _ h => h) (Or.inl ⟨by rfl, ?_⟩) ?_ ?_
  rotate_left
  · intro w'
    go_simp
    with_reducible rfl
  rotate_left
  · simp only [Act.put, List.setIfInBounds_toArray, List.set_cons_zero, List.set_cons_succ, i64_w, i32_w]
    rfl
  refine take_ (i := 3) (N := some 56) (v := ?_) (a' := ?_) #[true, true, true, true, true, true, true, false, true, false] rfl rfl (by kernel_rfl) (fun _ _ _ h => h) (Or.inl ⟨by rfl, ?_⟩) hHeld ?_ ?_
  rotate_left
  · rintro w' ⟨s0, s1⟩
    go_simp
    with_reducible rfl
  rotate_left
  · simp only [Act.put, List.setIfInBounds_toArray, List.set_cons_zero, List.set_cons_succ, i64_w, i32_w]
    rfl
  refine take_ (i := 7) (N := some 60) (v := ?_) (a' := ?_) #[true, true, true, true, true, true, true, true, true, false] rfl rfl (by kernel_rfl) (fun _ _ _ h => h) (Or.inl ⟨by rfl, ?_⟩) hHeld ?_ ?_
  rotate_left
  · rintro w' ⟨s0, s1⟩
    go_simp
    with_reducible rfl
  rotate_left
  · simp only [Act.put, List.setIfInBounds_toArray, List.set_cons_zero, List.set_cons_succ, i64_w, i32_w]
    rfl
  refine last_ (i := 9) (N := none) #[true, true, true, true, true, true, true, true, true, true] rfl rfl (by kernel_rfl) (by decide) (fun K hK => ?_)
  refine skip_ (w1 := W6) (by rfl) rfl ?_ ?_
  · go_simp
  refine hK.out _ _ ?_
  clear hK K
  refine done_ (by kernel_rfl) ?_
  have HX6 := Aside0.mk ((HX5.out.below (below_drew1 (Below.refl _ _))).mapput hg6 ⟨_, hm6, HMD.out⟩)
  have HE6 := Aside0.mk (show IsEn w0 W6 ⟨b, last + 1, id, wt⟩ 0 from ⟨blk_grown (blk_drew HE5.out.1) hg6 (fun e => HX5.out.2.2.2.1.1.ne HE5.out.1 (by injection e with e; exact e.symm)), HE5.out.2⟩)
  have HB6 := Aside0.mk ((HB5.out.trans ((below_drew1 (Below.refl W5.heap.size W5)).mono HB5.out.size)).grown hg6 HB5.out.size (fun q' hq => by cases hq; exact HX5.out.2.2.2.1.2))
  clear hHeld y4 e0 hown hrun hm6 hg6
  go_upto_region 9 with (go_at_call 20; refine (heap_Push.calls w0 _ q cap age (last + 1) es (.slice A es.length c) m (n + 1) (⟨b, last + 1, id, wt⟩ :: es) HX6.out ⟨b, last + 1, id, wt⟩ 0 HE6.out HD.out (by have := HL.out; omega) HB6.out).mono ?_; rintro en w7 ⟨v7, rfl, hq, hb⟩; have HX7 := Aside0.mk (hq.perm (Hp.push_perm (lt := ltE) es ⟨b, last + 1, id, wt⟩)); have HB7 := Aside0.mk hb; clear hq hb)
  have HQ7 := Aside0.mk (show IsQ w0 w7 q cap age (last + 1) (Hp.pushF ltE es ⟨b, last + 1, id, wt⟩) from ⟨v7, m, n + 1, HX7.out, by have := HNL.out; have := HLA.out; omega⟩)
  have e7 : w7.cell? ⟨b, 0, none⟩ = some (.int .i64 (last + 1)) := by
    have hmem : (⟨b, last + 1, id, wt⟩ : En) ∈ Hp.pushF ltE es ⟨b, last + 1, id, wt⟩ := (Hp.push_perm es _).mem_iff.2 (by simp)
    obtain ⟨j, hj⟩ := List.getElem?_of_mem hmem
    exact (blk_cell (HX7.out.2.2.2.2 j _ hj).1 0).trans rfl
  go_wp2
  go_ret2
  exact ⟨b, rfl, HQ7.out, HB7.out⟩

/-! ### what an entry weighs -/
set_option maxRecDepth 100000 in
set_option maxHeartbeats 4000000 in
theorem queue_Weight.calls (w0 w : World) (q : Nat) (cap age last : Int) (es : List En) (e : En) (h : IsQ w0 w q cap age last es) (he : e ∈ es) (hwf : (Lit.int .i64 e.h).wf = true) :
    Calls Try.prog 10 #[.pointer (some ⟨q, 0, none⟩), .int .i64 e.h] w fun en w' => en = .returned (.tuple #[.int .i64 e.wt, .bool true]) ∧ Below w.heap.size w w' := by
  obtain ⟨v, m, n, hx, _⟩ := h
  have hrun := hx.2.2.2.1.1.found e he hwf
  have y4 : w.cell? ⟨q, 4, none⟩ = some (.map (some m)) := (blk_cell hx.1 4).trans rfl
  obtain ⟨j, hj⟩ := List.getElem?_of_mem he
  have e2 : w.cell? ⟨e.b, 2, none⟩ = some (.int .i64 e.wt) := (blk_cell (hx.2.2.2.2 j e hj).1 2).trans rfl
  clear hx hj he hwf
  go_enter Try.func10, Try.ntmps10
  go_wp2
  go_ret2
  exact ⟨rfl, Below.refl _ _⟩
set_option maxRecDepth 100000 in
set_option maxHeartbeats 4000000 in
theorem queue_Weight_none (w0 w : World) (q : Nat) (cap age last : Int) (es : List En) (x : Int) (h : IsQ w0 w q cap age last es) (hn : ∀ e ∈ es, e.h ≠ x) (hwf : (Lit.int .i64 x).wf = true) :
    Calls Try.prog 10 #[.pointer (some ⟨q, 0, none⟩), .int .i64 x] w fun en w' => en = .returned (.tuple #[.int .i64 0, .bool false]) ∧ Below w.heap.size w w' := by
  obtain ⟨v, m, n, hx, _⟩ := h
  have hrun := hx.2.2.2.1.1.absent x hn hwf
  have y4 : w.cell? ⟨q, 4, none⟩ = some (.map (some m)) := (blk_cell hx.1 4).trans rfl
  clear hx hn hwf
  go_enter Try.func10, Try.ntmps10
  go_wp2
  go_ret2
  exact ⟨rfl, Below.refl _ _⟩

/-! ### an entry goes -/
set_option maxRecDepth 100000 in
set_option maxHeartbeats 4000000 in
theorem queue_Remove_none (w0 w : World) (q : Nat) (cap age last : Int) (es : List En) (x : Int) (h : IsQ w0 w q cap age last es) (hn : ∀ e ∈ es, e.h ≠ x) (hwf : (Lit.int .i64 x).wf = true) :
    Calls Try.prog 16 #[.pointer (some ⟨q, 0, none⟩), .int .i64 x] w fun en w' => en = .returned (.bool false) ∧ Below w.heap.size w w' := by
  obtain ⟨v, m, n, hx, _⟩ := h
  have hrun := hx.2.2.2.1.1.absent x hn hwf
  have y4 : w.cell? ⟨q, 4, none⟩ = some (.map (some m)) := (blk_cell hx.1 4).trans rfl
  clear hx hn hwf
  go_enter Try.func16, Try.ntmps16
  go_wp2
  go_ret
  exact ⟨rfl, Below.refl _ _⟩
set_option maxRecDepth 100000 in
set_option maxHeartbeats 4000000 in
theorem queue_Remove.calls (w0 w : World) (q : Nat) (cap age last : Int) (es : List En) (i : Nat) (hi : i < es.length) (h : IsQ w0 w q cap age last es) (hb : Below w0.heap.size w0 w) (hl : es.length < 1000000) (hwf : (Lit.int .i64 es[i].h).wf = true) (hd : ∀ x ∈ Hp.rest ltE es i, x.h ≠ es[i].h) :
    Calls Try.prog 16 #[.pointer (some ⟨q, 0, none⟩), .int .i64 es[i].h] w fun en w' => en = .returned (.bool true) ∧ IsQ w0 w' q cap age last (Hp.rest ltE es i) ∧ Below w0.heap.size w0 w' := by
  obtain ⟨v, m, n, hx, hn⟩ := h
  have hpm := Hp.rest_perm (lt := ltE) hi
  have HRM := Aside0.mk (fun W (hW : IsQX w0 W q cap age last es v m n es) (hB : Below w0.heap.size w0 W) => heap_Remove.calls w0 W q cap age last es v m n es hW hB i hi hl (i : Int) rfl)
  have hrun := hx.2.2.2.1.1.found es[i] (List.getElem_mem hi) hwf
  have y4 : w.cell? ⟨q, 4, none⟩ = some (.map (some m)) := (blk_cell hx.1 4).trans rfl
  have e3 : w.cell? ⟨es[i].b, 3, none⟩ = some (.int .i64 (i : Int)) := (blk_cell (hx.2.2.2.2 i _ (List.getElem?_eq_getElem hi)).1 3).trans rfl
  have HX := Aside0.mk hx
  have HB := Aside0.mk hb
  have HPM := Aside0.mk hpm
  have HN := Aside0.mk hn
  have HD := Aside0.mk hd
  have HWF := Aside0.mk hwf
  obtain ⟨ii, hii⟩ : ∃ ii : Int, (i : Int) = ii := ⟨_, rfl⟩
  rw [hii] at e3 HRM
  clear hx hb hpm hn hd hwf hii hl
  generalize Hp.rest ltE es i = r at *
  generalize es[i] = e at *
  clear hi
  have hta : ∀ W : World, (Instr.typeAssert (.iface 59 (.pointer (some ⟨e.b, 0, none⟩))) 20 59 true).run Try.prog W = .ok (.tuple #[.pointer (some ⟨e.b, 0, none⟩), .bool true]) W := fun _ => by kernel_rfl
  go_enter Try.func16, Try.ntmps16
  go_upto_region 4 with (fail)
  clear hrun
  refine start_ (n := 15) (S := fun w' => w'.cell? ⟨e.b, 3, none⟩ = some (.int .i64 ii)) (ds := [8, 9]) #[false, false, false, false, false, false, false, false, false, false, false, false, false, false, false] (by kernel_rfl) rfl rfl (e3) (fun hHeld => ?_)
  refine pure_ (i := 0) (N := some 21) (v := ?_) (a' := ?_) #[true, false, false, false, false, false, false, false, false, false, false, false, false, false, false] rfl rfl (by kernel_rfl) (fun _ _ _ h => h) (Or.inl ⟨by rfl, ?_⟩) ?_ ?_
  rotate_left
  · intro w'
    go_simp
    with_reducible rfl
  rotate_left
  · simp only [Act.put, List.setIfInBounds_toArray, List.set_cons_zero, List.set_cons_succ, i64_w, i32_w]
    rfl
  refine pure_ (i := 1) (N := some 22) (v := ?_) (a' := ?_) #[true, true, false, false, false, false, false, false, false, false, false, false, false, false, false] rfl rfl (by kernel_rfl) (fun _ _ _ h => h) (Or.inl ⟨by rfl, ?_⟩) ?_ ?_
  rotate_left
  · intro w'
    go_simp
    with_reducible rfl
  rotate_left
  · simp only [Act.put, List.setIfInBounds_toArray, List.set_cons_zero, List.set_cons_succ, i64_w, i32_w]
    rfl
  refine pure_ (i := 2) (N := some 23) (v := ?_) (a' := ?_) #[true, true, true, false, false, false, false, false, false, false, false, false, false, false, false] rfl rfl (by kernel_rfl) (fun _ _ _ h => h) (Or.inl ⟨by rfl, ?_⟩) ?_ ?_
  rotate_left
  · intro w'
    go_simp
    with_reducible rfl
  rotate_left
  · simp only [Act.put, List.setIfInBounds_toArray, List.set_cons_zero, List.set_cons_succ, i64_w, i32_w]
    rfl
  refine pure_ (i := 3) (N := some 24) (v := ?_) (a' := ?_) #[true, true, true, true, false, false, false, false, false, false, false, false, false, false, false] rfl rfl (by kernel_rfl) (fun _ _ _ h => h) (Or.inl ⟨by rfl, ?_⟩) ?_ ?_
  rotate_left
  · intro w'
    go_simp
    with_reducible rfl
  rotate_left
  · simp only [Act.put, List.setIfInBounds_toArray, List.set_cons_zero, List.set_cons_succ, i64_w, i32_w]
    rfl
  refine pure_ (i := 4) (N := some 25) (v := ?_) (a' := ?_) #[true, true, true, true, true, false, false, false, false, false, false, false, false, false, false] rfl rfl (by kernel_rfl) (fun _ _ _ h => h) (Or.inl ⟨by rfl, ?_⟩) ?_ ?_
  rotate_left
  · intro w'
    go_simp
    with_reducible rfl
  rotate_left
  · simp only [Act.put, List.setIfInBounds_toArray, List.set_cons_zero, List.set_cons_succ, i64_w, i32_w]
    rfl
  refine pure_ (i := 5) (N := some 26) (v := ?_) (a' := ?_) #[true, true, true, true, true, true, false, false, false, false, false, false, false, false, false] rfl rfl (by kernel_rfl) (fun _ _ _ h => h) (Or.inl ⟨by rfl, ?_⟩) ?_ ?_
  rotate_left
  · intro w'
    go_simp
    with_reducible rfl
  rotate_left
  · simp only [Act.put, List.setIfInBounds_toArray, List.set_cons_zero, List.set_cons_succ, i64_w, i32_w]
    rfl
  refine pure_ (i := 6) (N := some 27) (v := ?_) (a' := ?_) #[true, true, true, true, true, true, true, false, false, false, false, false, false, false, false] rfl rfl (by kernel_rfl) (fun _ _ _ h => h) (Or.inl ⟨by rfl, ?_⟩) ?_ ?_
  rotate_left
  · intro w'
    go_simp
    with_reducible rfl
  rotate_left
  · simp only [Act.put, List.setIfInBounds_toArray, List.set_cons_zero, List.set_cons_succ, i64_w, i32_w]
    rfl
  refine take_ (i := 7) (N := some 28) (v := ?_) (a' := ?_) #[true, true, true, true, true, true, true, true, false, false, false, false, false, false, false] rfl rfl (by kernel_rfl) (fun _ _ _ h => h) (Or.inl ⟨by rfl, ?_⟩) hHeld ?_ ?_
  rotate_left
  · intro w' s0
    go_simp
    with_reducible rfl
  rotate_left
  · simp only [Act.put, List.setIfInBounds_toArray, List.set_cons_zero, List.set_cons_succ, i64_w, i32_w]
    rfl
  refine last_ (i := 8) (N := some 29) #[true, true, true, true, true, true, true, true, true, false, false, false, false, false, false] rfl rfl (by kernel_rfl) (by decide) (fun K hK => ?_)
  refine goes_ Try.func22 (by kernel_rfl) rfl #[.iface 63 (.pointer (some ⟨q, 3, none⟩)), .int .i64 ii] (by rfl) rfl rfl (by simp only [List.map_toArray, List.map_cons, List.map_nil]; rfl) ?_
  with_reducible refine (HRM.out _ (HX.out.below (below_drew1 (Below.refl _ _))) (HB.out.trans ((below_drew1 (Below.refl _ _)).mono HB.out.size))).mono ?_
  rintro en W5 ⟨v5, rfl, hx, ⟨pl, hp⟩, hb⟩
  refine ⟨_, rfl, ?_⟩
  have HX5 := Aside0.mk hx
  have HP5 := Aside0.mk hp
  have HB5 := Aside0.mk hb
  clear hx hp hb
  refine hK.out _ _ ?_
  clear hK K
  refine norm_ (a' := ?_) ?_ ?_
  rotate_left
  · show Act.put _ (some 29) _ = _
    simp only [Act.put, List.setIfInBounds_toArray, List.set_cons_zero, List.set_cons_succ, i64_w, i32_w]
    rfl
  refine last_ (i := 9) (N := some 30) #[true, true, true, true, true, true, true, true, true, true, false, false, false, false, false] rfl rfl (by kernel_rfl) (by decide) (fun K hK => ?_)
  refine value_ (w1 := ?_) (v := ?_) (by rfl) rfl ?_ ?_
  rotate_left 2
  · go_simp
    constructor
    · rfl
    · rfl
  refine hK.out _ _ ?_
  clear hK K
  refine norm_ (a' := ?_) ?_ ?_
  rotate_left
  · show Act.put _ (some 30) _ = _
    simp only [Act.put, List.setIfInBounds_toArray, List.set_cons_zero, List.set_cons_succ, i64_w, i32_w]
    rfl
  refine pure_ (i := 10) (N := some 20) (v := ?_) (a' := ?_) #[true, true, true, true, true, true, true, true, true, true, true, false, false, false, false] rfl rfl (by kernel_rfl) (fun _ _ _ h => h) (Or.inl ⟨by rfl, ?_⟩) ?_ ?_
  rotate_left
  · intro w'
    go_simp
    with_reducible rfl
  rotate_left
  · simp only [Act.put, List.setIfInBounds_toArray, List.set_cons_zero, List.set_cons_succ, i64_w, i32_w]
    rfl
  refine pure_ (i := 11) (N := some 31) (v := ?_) (a' := ?_) #[true, true, true, true, true, true, true, true, true, true, true, true, false, false, false] rfl rfl (by kernel_rfl) (fun _ _ _ h => h) (Or.inl ⟨by rfl, ?_⟩) ?_ ?_
  rotate_left
  · intro w'
    go_simp
    with_reducible rfl
  rotate_left
  · simp only [Act.put, List.setIfInBounds_toArray, List.set_cons_zero, List.set_cons_succ, i64_w, i32_w]
    rfl
  refine pure_ (i := 12) (N := some 32) (v := ?_) (a' := ?_) #[true, true, true, true, true, true, true, true, true, true, true, true, true, false, false] rfl rfl (by kernel_rfl) (fun _ _ _ h => h) (Or.inl ⟨by rfl, ?_⟩) ?_ ?_
  rotate_left
  · intro w'
    go_simp
    with_reducible rfl
  rotate_left
  · simp only [Act.put, List.setIfInBounds_toArray, List.set_cons_zero, List.set_cons_succ, i64_w, i32_w]
    rfl
  refine pure_ (i := 13) (N := some 7) (v := ?_) (a' := ?_) #[true, true, true, true, true, true, true, true, true, true, true, true, true, true, false] rfl rfl (by kernel_rfl) (fun _ _ _ h => h) (Or.inl ⟨by rfl, ?_⟩) ?_ ?_
  rotate_left
  · intro w'
    go_simp
    with_reducible rfl
  rotate_left
  · simp only [Act.put, List.setIfInBounds_toArray, List.set_cons_zero, List.set_cons_succ, i64_w, i32_w]
    rfl
  refine pure_ (i := 14) (N := some 8) (v := ?_) (a' := ?_) #[true, true, true, true, true, true, true, true, true, true, true, true, true, true, true] rfl rfl (by kernel_rfl) (fun _ _ _ h => h) (Or.inl ⟨by rfl, ?_⟩) ?_ ?_
  rotate_left
  · intro w'
    go_simp
    with_reducible rfl
  rotate_left
  · simp only [Act.put, List.setIfInBounds_toArray, List.set_cons_zero, List.set_cons_succ, i64_w, i32_w]
    rfl
  refine done_ (by kernel_rfl) ?_
  clear e3 y4
  obtain ⟨D, hown, hMD⟩ := HX5.out.2.2.2.1.1.perm HPM.out
  have HMD := Aside0.mk (hMD.del HD.out)
  obtain ⟨W6, hrun, hm6, hg6⟩ := (World.ownsMap.drew hown).drop (t := 53) (int_keyed Try.underlying3) Try.underlying53 (keyOf_int_mk Try.underlying3 HWF.out) 0
  clear hMD
  go_upto_region 6 with (fail)
  have y4 : W5.cell? ⟨q, 4, none⟩ = some (.map (some m)) := (blk_cell HX5.out.1 4).trans rfl
  have e0 : W5.cell? ⟨e.b, 0, none⟩ = some (.int .i64 e.h) := (blk_cell HP5.out.1 0).trans rfl
  refine start_ (n := 9) (S := fun w' => w'.cell? ⟨q, 4, none⟩ = some (.map (some m)) ∧ w'.cell? ⟨e.b, 0, none⟩ = some (.int .i64 e.h)) (ds := [8]) #[false, false, false, false, false, false, false, false, false] (by kernel_rfl) rfl rfl ⟨y4, e0⟩ (fun hHeld => ?_)
  refine pure_ (i := 0) (N := some 34) (v := ?_) (a' := ?_) #[true, false, false, false, false, false, false, false, false] rfl rfl (by kernel_rfl) (fun _ _ _ h => h) (Or.inl ⟨by rfl, ?_⟩) ?_ ?_
  rotate_left
  · intro w'
    go_simp
    with_reducible rfl
  rotate_left
  · simp only [Act.put, List.setIfInBounds_toArray, List.set_cons_zero, List.set_cons_succ, i64_w, i32_w]
    rfl
  refine pure_ (i := 1) (N := some 35) (v := ?_) (a' := ?_) #[true, true, false, false, false, false, false, false, false] rfl rfl (by kernel_rfl) (fun _ _ _ h => h) (Or.inl ⟨by rfl, ?_⟩) ?_ ?_
  rotate_left
  · intro w'
    go_simp
    with_reducible rfl
  rotate_left
  · simp only [Act.put, List.setIfInBounds_toArray, List.set_cons_zero, List.set_cons_succ, i64_w, i32_w]
    rfl
  refine pure_ (i := 2) (N := some 36) (v := ?_) (a' := ?_) #[true, true, true, false, false, false, false, false, false] rfl rfl (by kernel_rfl) (fun _ _ _ h => h) (Or.inl ⟨by rfl, ?_⟩) ?_ ?_
  rotate_left
  · intro w'
    go_simp
    with_reducible rfl
  rotate_left
  · simp only [Act.put, List.setIfInBounds_toArray, List.set_cons_zero, List.set_cons_succ, i64_w, i32_w]
    rfl
  refine pure_ (i := 4) (N := some 38) (v := ?_) (a' := ?_) #[true, true, true, false, true, false, false, false, false] rfl rfl (by kernel_rfl) (fun _ _ _ h => h) (Or.inl ⟨by rfl, ?_⟩) ?_ ?_
  rotate_left
  · intro w'
    go_simp
    with_reducible rfl
  rotate_left
  · simp only [Act.put, List.setIfInBounds_toArray, List.set_cons_zero, List.set_cons_succ, i64_w, i32_w]
    rfl
  refine pure_ (i := 5) (N := some 39) (v := ?_) (a' := ?_) #[true, true, true, false, true, true, false, false, false] rfl rfl (by kernel_rfl) (fun _ _ _ h => h) (Or.inl ⟨by rfl, ?_⟩) ?_ ?_
  rotate_left
  · intro w'
    go_simp
    with_reducible rfl
  rotate_left
  · simp only [Act.put, List.setIfInBounds_toArray, List.set_cons_zero, List.set_cons_succ, i64_w, i32_w]
    rfl
  refine pure_ (i := 6) (N := some 40) (v := ?_) (a' := ?_) #[true, true, true, false, true, true, true, false, false] rfl rfl (by kernel_rfl) (fun _ _ _ h => h) (Or.inl ⟨by rfl, ?_⟩) ?_ ?_
  rotate_left
  · intro w'
    go_simp
    with_reducible rfl
  rotate_left
  · simp only [Act.put, List.setIfInBounds_toArray, List.set_cons_zero, List.set_cons_succ, i64_w, i32_w]
    rfl
  refine take_ (i := 3) (N := some 37) (v := ?_) (a' := ?_) #[true, true, true, true, true, true, true, false, false] rfl rfl (by kernel_rfl) (fun _ _ _ h => h) (Or.inl ⟨by rfl, ?_⟩) hHeld ?_ ?_
  rotate_left
  · rintro w' ⟨s0, s1⟩
    go_simp
    with_reducible rfl
  rotate_left
  · simp only [Act.put, List.setIfInBounds_toArray, List.set_cons_zero, List.set_cons_succ, i64_w, i32_w]
    rfl
  refine take_ (i := 7) (N := some 41) (v := ?_) (a' := ?_) #[true, true, true, true, true, true, true, true, false] rfl rfl (by kernel_rfl) (fun _ _ _ h => h) (Or.inl ⟨by rfl, ?_⟩) hHeld ?_ ?_
  rotate_left
  · rintro w' ⟨s0, s1⟩
    go_simp
    with_reducible rfl
  rotate_left
  · simp only [Act.put, List.setIfInBounds_toArray, List.set_cons_zero, List.set_cons_succ, i64_w, i32_w]
    rfl
  refine last_ (i := 8) (N := none) #[true, true, true, true, true, true, true, true, true] rfl rfl (by kernel_rfl) (by decide) (fun K hK => ?_)
  refine value_ (w1 := W6) (v := .tuple #[]) (by rfl) rfl ?_ ?_
  · go_simp
  refine hK.out _ _ ?_
  clear hK K
  refine done_ (by kernel_rfl) ?_
  have HX6 := Aside0.mk ((HX5.out.below (below_drew1 (Below.refl _ _))).mapput hg6.grown ⟨_, hm6, HMD.out⟩)
  have HB6 := Aside0.mk ((HB5.out.trans ((below_drew1 (Below.refl W5.heap.size W5)).mono HB5.out.size)).grown hg6.grown HB5.out.size (fun q' hq => by cases hq; exact HX5.out.2.2.2.1.2))
  clear hHeld y4 e0 hown hrun hm6 hg6 hta
  go_wp2
  go_ret
  exact ⟨rfl, ⟨v5, m, n, HX6.out, HN.out⟩, HB6.out⟩

/-! ### the first one is taken -/
set_option maxRecDepth 100000 in
set_option maxHeartbeats 4000000 in
theorem queue_Take.calls (w0 w : World) (q : Nat) (cap age last : Int) (x : En) (es : List En) (h : IsQ w0 w q cap age last es) (hb : Below w0.heap.size w0 w) (h0 : 0 < es.length) (hx0 : es[0] = x) (hl : es.length < 1000000) (hwf : (Lit.int .i64 x.h).wf = true) (hd : ∀ y ∈ Hp.rest ltE es 0, y.h ≠ x.h) :
    Calls Try.prog 11 #[.pointer (some ⟨q, 0, none⟩)] w fun e w' => e = .returned (.tuple #[.int .i64 x.id, .int .i64 x.h, .bool true]) ∧ IsQ w0 w' q cap age last (Hp.rest ltE es 0) ∧ Below w0.heap.size w0 w' := by
  subst hx0
  have HF := Aside0.mk (fun W hW => queue_First.calls w0 W q cap age last es[0] es hW h0 rfl)
  have HR := Aside0.mk (fun W hW hB => queue_Remove.calls w0 W q cap age last es 0 h0 hW hB hl hwf hd)
  have HQ := Aside0.mk h
  have HB := Aside0.mk hb
  clear h hb hl hwf hd
  generalize es[0] = x at *
  generalize Hp.rest ltE es 0 = r at *
  clear h0
  go_enter Try.func11, Try.ntmps11
  go_wp2_with (first | (go_at_call 9; (refine (HF.out _ HQ.out).mono ?_; rintro en w1 ⟨rfl, hb⟩; have HQ1 := Aside0.mk (HQ.out.below hb); have HB1 := Aside0.mk (HB.out.trans (hb.mono HB.out.size)); clear hb)) | (go_at_call 16; (refine (HR.out _ HQ1.out HB1.out).mono ?_; rintro en w2 ⟨rfl, hq, hb⟩; have HQ2 := Aside0.mk hq; have HB2 := Aside0.mk hb; clear hq hb)))
  go_ret3
  exact ⟨rfl, HQ2.out, HB2.out⟩
set_option maxRecDepth 100000 in
set_option maxHeartbeats 4000000 in
theorem queue_Take_none (w0 w : World) (q : Nat) (cap age last : Int) (h : IsQ w0 w q cap age last []) :
    Calls Try.prog 11 #[.pointer (some ⟨q, 0, none⟩)] w fun e w' => e = .returned (.tuple #[.int .i64 0, .int .i64 0, .bool false]) ∧ Below w.heap.size w w' := by
  have HQ := Aside0.mk h
  clear h
  go_enter Try.func11, Try.ntmps11
  go_wp2_with (first | (go_at_call 9; (refine (queue_First_none w0 _ q cap age last HQ.out).mono ?_; rintro en w1 ⟨rfl, hb⟩; have HQ1 := Aside0.mk (HQ.out.below hb); have HB1 := Aside0.mk hb; clear hb)) | (go_at_call 16; (refine (queue_Remove_none w0 _ q cap age last [] 0 HQ1.out (fun e he => by cases he) (by decide)).mono ?_; rintro en w2 ⟨rfl, hb⟩; have HB2 := Aside0.mk (below_step HB1.out hb); clear hb)))
  go_ret3
  exact ⟨rfl, HB2.out⟩
end Go.Proofs.Ythnfbcicnmnhnaa.Q
