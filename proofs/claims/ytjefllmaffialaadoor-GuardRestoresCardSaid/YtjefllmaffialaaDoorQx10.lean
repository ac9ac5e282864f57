-- written for this claim by a program of the session
import Derived.Test.YtjefllmaffialaaDoorQx0
import Derived.Test.YtjefllmaffialaaDoorQx5
import Derived.Test.YtjefllmaffialaaDoorQx6
namespace Go.Proofs.YtjefllmaffialaaDoor.Q
open Go.RowKit Go.Proofs.YtjefllmaffialaaDoorW.PrintWords Go.Proofs.YtjefllmaffialaaDoorW.PrintLast Go.Proofs.YtjefllmaffialaaDoorW.PrintMore
attribute [local go_sem] max2_int min2_int max_two min_two max_three min_three max_four min_four   -- for this text's walks alone
set_option linter.unusedVariables false
set_option linter.unusedSimpArgs false

-- NOT PRINTED: function 8 (guard_Guard_State)

-- NOT PRINTED: function 10 (guard_Guard_Over)

-- NOT PRINTED: function 11 (guard_Guard_Restore)

-- NOT PRINTED: function 3 (usufructlaw12_GuardHolds)

-- NOT PRINTED: function 4 (usufructlaw12_GuardRestores)

/-! ### breaker_Breaker_Lost: function 20 -/
def breaker_Breaker_Lost.f (s0_0 : Int) (s0_1 : Int) (s0_2 : Int) (s0_3 : Int) (s0_4 : Int) (s0_5 : Int) (s0_6 : Int) (a1 : Int) : Option (Int × Int × Int × Int × Int × Int × Int) := (breaker_Breaker_State.f s0_0 s0_1 s0_2 s0_3 s0_4 s0_5 s0_6 a1).bind fun bt151 => (if bt151.1 = 2 then (some (bt151.2.1, bt151.2.2.1, bt151.2.2.2.1, bt151.2.2.2.2.1, bt151.2.2.2.2.2.1, bt151.2.2.2.2.2.2.1, mx (wrap64 (bt151.2.2.2.2.2.2.2 - 1)) 0)) else (some (bt151.2.1, bt151.2.2.1, bt151.2.2.2.1, bt151.2.2.2.2.1, bt151.2.2.2.2.2.1, bt151.2.2.2.2.2.2.1, bt151.2.2.2.2.2.2.2)))
set_option maxHeartbeats 8000000 in
set_option maxRecDepth 100000 in
theorem breaker_Breaker_Lost.calls (g : Nat) (s0_0 : Int) (s0_1 : Int) (s0_2 : Int) (s0_3 : Int) (s0_4 : Int) (s0_5 : Int) (s0_6 : Int) (a1 : Int) (r1 : Int) (r2 : Int) (r3 : Int) (r4 : Int) (r5 : Int) (r6 : Int) (r7 : Int) (w0 w : World) (hI : IsS59 w0 w g s0_0 s0_1 s0_2 s0_3 s0_4 s0_5 s0_6) (hB : Below w0.heap.size w0 w) (h : breaker_Breaker_Lost.f s0_0 s0_1 s0_2 s0_3 s0_4 s0_5 s0_6 a1 = some (r1, r2, r3, r4, r5, r6, r7)) :
    Calls Tryd.prog 20 #[.pointer (some ⟨g, 0, none⟩), .int .i64 a1] w fun e w' => e = .returned (.tuple #[]) ∧ IsS59 w0 w' g r1 r2 r3 r4 r5 r6 r7 ∧ Below w0.heap.size w0 w' ∧ KeepBut w w' g none := by
  have HI0 := Aside0.mk hI
  have HK := Aside0.mk (KeepBut.refl w g none)
  have HL := Aside0.mk hB.size
  clear hI
  have HW0 := Aside0.mk hB.size
  have HB := Aside0.mk hB
  clear hB
  have H : ((breaker_Breaker_State.f s0_0 s0_1 s0_2 s0_3 s0_4 s0_5 s0_6 a1).bind fun bt151 => (if bt151.1 = 2 then (some (bt151.2.1, bt151.2.2.1, bt151.2.2.2.1, bt151.2.2.2.2.1, bt151.2.2.2.2.2.1, bt151.2.2.2.2.2.2.1, mx (wrap64 (bt151.2.2.2.2.2.2.2 - 1)) 0)) else (some (bt151.2.1, bt151.2.2.1, bt151.2.2.2.1, bt151.2.2.2.2.1, bt151.2.2.2.2.2.1, bt151.2.2.2.2.2.2.1, bt151.2.2.2.2.2.2.2)))) = some (r1, r2, r3, r4, r5, r6, r7) := h
  clear h
  replace H := Option.bind_eq_some_iff.mp H
  obtain ⟨⟨t151, t152, t153, t154, t155, t156, t157, t158⟩, A30, H⟩ := H
  replace H : (if t151 = 2 then (some (t152, t153, t154, t155, t156, t157, mx (wrap64 (t158 - 1)) 0)) else (some (t152, t153, t154, t155, t156, t157, t158))) = some (r1, r2, r3, r4, r5, r6, r7) := H
  have A3 := Aside0.mk A30
  clear A30
  by_cases c4 : t151 = 2
  · rw [if_pos c4] at H
    have c4b0 : (t151 == 2) = true := beq_iff_eq.mpr c4
    have c4b1 : (t151 != 2) = false := bne_eq_false_iff_eq.mpr c4
    clear c4
    obtain ⟨ji5, hji5⟩ : ∃ j_ : Int, (mx (wrap64 (t158 - 1)) 0) = j_ := ⟨_, rfl⟩
    replace H : (some (t152, t153, t154, t155, t156, t157, ji5)) = some (r1, r2, r3, r4, r5, r6, r7) := by first | (rw [hji5] at H; exact H) | (simp only [hji5] at H ⊢; exact H)
    (try rw [hji5] at A3)
    (try (have hji5l : 0 ≤ ji5 := by (rw [← hji5]; unfold mx; (repeat' split) <;> omega)))
    (try (have hji5m : 0 ≤ ji5 := by omega))
    have hji5_ : (if (wrap64 (t158 - 1)) < 0 then 0 else (wrap64 (t158 - 1))) = ji5 := hji5
    simp only [Option.some.injEq, Prod.mk.injEq] at H
    obtain ⟨rfl, rfl, rfl, rfl, rfl, rfl, rfl⟩ := H
    go_enter Tryd.func20, Tryd.ntmps20
    go_wp2_with (first | ((with_reducible refine gate_callee (f := 18) rfl ?_); refine goesL_ (some 6) rfl rfl Tryd.func18 (by kernel_rfl) rfl #[.pointer (some ⟨g, 0, none⟩), .int .i64 a1] rfl (by (try simp only [List.map_toArray, List.map_cons, List.map_nil]); first | done | rfl | (simp only [List.length_drop, List.length_take]; rfl)) ?_; (with_reducible refine (breaker_Breaker_State.calls g s0_0 s0_1 s0_2 s0_3 s0_4 s0_5 s0_6 a1 t151 t152 t153 t154 t155 t156 t157 t158 w0 _ ?side1 ?side2 A3.out).mono ?_); (case side1 => repeat (first | (with_reducible first | exact HI0.out | apply IsS59.alloc | apply IsS59.drewN | apply IsS59.drew | apply IsS59.set_0 | apply IsS59.set_1 | apply IsS59.set_2 | apply IsS59.set_3 | apply IsS59.set_4 | apply IsS59.set_5 | apply IsS59.set_6) | exact HI0.out)); (case side2 => repeat (first | (with_reducible first | exact HB.out | apply below_alloc | apply pw_below_drewN | apply below_drew1 | refine below_set ?_ (IsS59.ge HI0.out)) | exact HB.out)); rintro e w6 ⟨rfl, hi, hb, hk⟩; refine ⟨_, rfl, ?_⟩; have n0_ := Aside0.mk (KeepBut.trans (by repeat (first | (with_reducible first | exact HK.out | apply KeepBut.set_ | apply keep_drewN | apply keep_drew | apply keep_alloc) | exact HK.out)) hk (.inl rfl)); have n1_ := Aside0.mk (hb); have n2_ := Aside0.mk (hi); clear HK; clear HB; clear HI0; have HK := n0_; have HB := n1_; have HI0 := n2_; clear n0_ n1_ n2_; (try clear hb); (try clear hb2); (try clear hk); (try clear hi); obtain ⟨HGz7, hgz7⟩ := HI0.out; have hcz7_0 := cellS59_0 HGz7; have hcz7_1 := cellS59_1 HGz7; have hcz7_2 := cellS59_2 HGz7; have hcz7_3 := cellS59_3 HGz7; have hcz7_4 := cellS59_4 HGz7; have hcz7_5 := cellS59_5 HGz7; have hcz7_6 := cellS59_6 HGz7; have hfz7_0 := blk_frozen HGz7 0; have hfz7_1 := blk_frozen HGz7 1; have hfz7_2 := blk_frozen HGz7 2; have hfz7_3 := blk_frozen HGz7 3; have hfz7_4 := blk_frozen HGz7 4; have hfz7_5 := blk_frozen HGz7 5; have hfz7_6 := blk_frozen HGz7 6; clear HGz7 hgz7))
    first | go_end0 | ((try simp only [Exit.inBlock, Exit.then]); refine bodyPost_ret (results_none rfl _ _ _) rfl ?_)
    exact ⟨by first | rfl | (simp [errW_none, errW_some] <;> rfl) | (simp only [← hji5]; first | rfl | (simp [errW_none, errW_some] <;> rfl)) | (simp [*, errW_none, errW_some] <;> rfl), by repeat (first | (with_reducible first | exact HI0.out | apply IsS59.alloc | apply IsS59.drewN | apply IsS59.drew | apply IsS59.set_0 | apply IsS59.set_1 | apply IsS59.set_2 | apply IsS59.set_3 | apply IsS59.set_4 | apply IsS59.set_5 | apply IsS59.set_6) | exact HI0.out), by repeat (first | (with_reducible first | exact HB.out | apply below_alloc | apply pw_below_drewN | apply below_drew1 | refine below_set ?_ (IsS59.ge HI0.out)) | exact HB.out), by repeat (first | (with_reducible first | exact HK.out | apply KeepBut.set_ | apply keep_drewN | apply keep_drew | apply keep_alloc) | exact HK.out)⟩
  · rw [if_neg c4] at H
    have c4b0 : (t151 == 2) = false := beq_eq_false_iff_ne.mpr c4
    have c4b1 : (t151 != 2) = true := bne_iff_ne.mpr c4
    simp only [Option.some.injEq, Prod.mk.injEq] at H
    obtain ⟨rfl, rfl, rfl, rfl, rfl, rfl, rfl⟩ := H
    go_enter Tryd.func20, Tryd.ntmps20
    go_wp2_with (first | ((with_reducible refine gate_callee (f := 18) rfl ?_); refine goesL_ (some 6) rfl rfl Tryd.func18 (by kernel_rfl) rfl #[.pointer (some ⟨g, 0, none⟩), .int .i64 a1] rfl (by (try simp only [List.map_toArray, List.map_cons, List.map_nil]); first | done | rfl | (simp only [List.length_drop, List.length_take]; rfl)) ?_; (with_reducible refine (breaker_Breaker_State.calls g s0_0 s0_1 s0_2 s0_3 s0_4 s0_5 s0_6 a1 t151 t152 t153 t154 t155 t156 t157 t158 w0 _ ?side1 ?side2 A3.out).mono ?_); (case side1 => repeat (first | (with_reducible first | exact HI0.out | apply IsS59.alloc | apply IsS59.drewN | apply IsS59.drew | apply IsS59.set_0 | apply IsS59.set_1 | apply IsS59.set_2 | apply IsS59.set_3 | apply IsS59.set_4 | apply IsS59.set_5 | apply IsS59.set_6) | exact HI0.out)); (case side2 => repeat (first | (with_reducible first | exact HB.out | apply below_alloc | apply pw_below_drewN | apply below_drew1 | refine below_set ?_ (IsS59.ge HI0.out)) | exact HB.out)); rintro e w8 ⟨rfl, hi, hb, hk⟩; refine ⟨_, rfl, ?_⟩; have n0_ := Aside0.mk (KeepBut.trans (by repeat (first | (with_reducible first | exact HK.out | apply KeepBut.set_ | apply keep_drewN | apply keep_drew | apply keep_alloc) | exact HK.out)) hk (.inl rfl)); have n1_ := Aside0.mk (hb); have n2_ := Aside0.mk (hi); clear HK; clear HB; clear HI0; have HK := n0_; have HB := n1_; have HI0 := n2_; clear n0_ n1_ n2_; (try clear hb); (try clear hb2); (try clear hk); (try clear hi)))
    first | go_end0 | ((try simp only [Exit.inBlock, Exit.then]); refine bodyPost_ret (results_none rfl _ _ _) rfl ?_)
    exact ⟨by first | rfl | (simp [errW_none, errW_some] <;> rfl) | (simp [*, errW_none, errW_some] <;> rfl), by repeat (first | (with_reducible first | exact HI0.out | apply IsS59.alloc | apply IsS59.drewN | apply IsS59.drew | apply IsS59.set_0 | apply IsS59.set_1 | apply IsS59.set_2 | apply IsS59.set_3 | apply IsS59.set_4 | apply IsS59.set_5 | apply IsS59.set_6) | exact HI0.out), by repeat (first | (with_reducible first | exact HB.out | apply below_alloc | apply pw_below_drewN | apply below_drew1 | refine below_set ?_ (IsS59.ge HI0.out)) | exact HB.out), by repeat (first | (with_reducible first | exact HK.out | apply KeepBut.set_ | apply keep_drewN | apply keep_drew | apply keep_alloc) | exact HK.out)⟩

/-! ### breaker_Breaker_closes: function 26 -/
def breaker_Breaker_closes.f (s0_0 : Int) (s0_1 : Int) (s0_2 : Int) (s0_3 : Int) (s0_4 : Int) (s0_5 : Int) (s0_6 : Int) : Option (Int × Int × Int × Int × Int × Int × Int) := some (s0_0, s0_1, s0_2, 0, 0, s0_5, 0)
set_option maxHeartbeats 8000000 in
set_option maxRecDepth 100000 in
theorem breaker_Breaker_closes.calls (g : Nat) (s0_0 : Int) (s0_1 : Int) (s0_2 : Int) (s0_3 : Int) (s0_4 : Int) (s0_5 : Int) (s0_6 : Int) (r1 : Int) (r2 : Int) (r3 : Int) (r4 : Int) (r5 : Int) (r6 : Int) (r7 : Int) (w0 w : World) (hI : IsS59 w0 w g s0_0 s0_1 s0_2 s0_3 s0_4 s0_5 s0_6) (hB : Below w0.heap.size w0 w) (h : breaker_Breaker_closes.f s0_0 s0_1 s0_2 s0_3 s0_4 s0_5 s0_6 = some (r1, r2, r3, r4, r5, r6, r7)) :
    Calls Tryd.prog 26 #[.pointer (some ⟨g, 0, none⟩)] w fun e w' => e = .returned (.tuple #[]) ∧ IsS59 w0 w' g r1 r2 r3 r4 r5 r6 r7 ∧ Below w0.heap.size w0 w' ∧ KeepBut w w' g none := by
  have HI0 := Aside0.mk hI
  have HK := Aside0.mk (KeepBut.refl w g none)
  have HL := Aside0.mk hB.size
  clear hI
  have HW0 := Aside0.mk hB.size
  have HB := Aside0.mk hB
  clear hB
  have H : (some (s0_0, s0_1, s0_2, 0, 0, s0_5, 0)) = some (r1, r2, r3, r4, r5, r6, r7) := h
  clear h
  simp only [Option.some.injEq, Prod.mk.injEq] at H
  obtain ⟨rfl, rfl, rfl, rfl, rfl, rfl, rfl⟩ := H
  obtain ⟨HGz2, hgz2⟩ := HI0.out
  have hcz2_0 := cellS59_0 HGz2
  have hcz2_1 := cellS59_1 HGz2
  have hcz2_2 := cellS59_2 HGz2
  have hcz2_3 := cellS59_3 HGz2
  have hcz2_4 := cellS59_4 HGz2
  have hcz2_5 := cellS59_5 HGz2
  have hcz2_6 := cellS59_6 HGz2
  have hfz2_0 := blk_frozen HGz2 0
  have hfz2_1 := blk_frozen HGz2 1
  have hfz2_2 := blk_frozen HGz2 2
  have hfz2_3 := blk_frozen HGz2 3
  have hfz2_4 := blk_frozen HGz2 4
  have hfz2_5 := blk_frozen HGz2 5
  have hfz2_6 := blk_frozen HGz2 6
  clear HGz2 hgz2
  go_enter Tryd.func26, Tryd.ntmps26
  go_wp2
  first | go_end0 | ((try simp only [Exit.inBlock, Exit.then]); refine bodyPost_ret (results_none rfl _ _ _) rfl ?_)
  exact ⟨by first | rfl | (simp [errW_none, errW_some] <;> rfl) | (simp [*, errW_none, errW_some] <;> rfl), by repeat (first | (with_reducible first | exact HI0.out | apply IsS59.alloc | apply IsS59.drewN | apply IsS59.drew | apply IsS59.set_0 | apply IsS59.set_1 | apply IsS59.set_2 | apply IsS59.set_3 | apply IsS59.set_4 | apply IsS59.set_5 | apply IsS59.set_6) | exact HI0.out), by repeat (first | (with_reducible first | exact HB.out | apply below_alloc | apply pw_below_drewN | apply below_drew1 | refine below_set ?_ (IsS59.ge HI0.out)) | exact HB.out), by repeat (first | (with_reducible first | exact HK.out | apply KeepBut.set_ | apply keep_drewN | apply keep_drew | apply keep_alloc) | exact HK.out)⟩

/-! ### tick_Add: function 34 -/
def tick_Add.f (a0 : Int) (a1 : Int) : Option (Int) := (tick_Of.f a0).bind fun t159 => ((tick_Of.f a1).bind fun t160 => ((tick_Of.f (wrap64 (t159 + t160))).bind fun t161 => (some t161)))
set_option maxHeartbeats 8000000 in
set_option maxRecDepth 100000 in
theorem tick_Add.calls (a0 : Int) (a1 : Int) (r : Int) (w : World) (h : tick_Add.f a0 a1 = some r) :
    Calls Tryd.prog 34 #[.int .i64 a0, .int .i64 a1] w fun e w' => e = .returned (.int .i64 r) ∧ Below w.heap.size w w' := by
  have HB := Aside0.mk (Below.refl w.heap.size w)
  have H : ((tick_Of.f a0).bind fun t159 => ((tick_Of.f a1).bind fun t160 => ((tick_Of.f (wrap64 (t159 + t160))).bind fun t161 => (some t161)))) = some r := h
  clear h
  replace H := Option.bind_eq_some_iff.mp H
  obtain ⟨t159, A30, H⟩ := H
  replace H : ((tick_Of.f a1).bind fun t160 => ((tick_Of.f (wrap64 (t159 + t160))).bind fun t161 => (some t161))) = some r := H
  have A3 := Aside0.mk A30
  clear A30
  replace H := Option.bind_eq_some_iff.mp H
  obtain ⟨t160, A40, H⟩ := H
  replace H : ((tick_Of.f (wrap64 (t159 + t160))).bind fun t161 => (some t161)) = some r := H
  have A4 := Aside0.mk A40
  clear A40
  replace H := Option.bind_eq_some_iff.mp H
  obtain ⟨t161, A50, H⟩ := H
  replace H : (some t161) = some r := H
  have A5 := Aside0.mk A50
  clear A50
  obtain rfl := Option.some.inj H
  go_enter Tryd.func34, Tryd.ntmps34
  go_wp2_with (first | ((with_reducible refine gate_callee (f := 33) rfl ?_); refine goesL_ (some 6) rfl rfl Tryd.func33 (by kernel_rfl) rfl #[.int .i64 a0] rfl (by (try simp only [List.map_toArray, List.map_cons, List.map_nil]); first | done | rfl | (simp only [List.length_drop, List.length_take]; rfl)) ?_; (with_reducible refine (tick_Of.calls a0 t159 _ A3.out).mono ?_); rintro e w6 ⟨rfl, hb⟩; refine ⟨_, rfl, ?_⟩; have n0_ := Aside0.mk (below_step (by repeat (first | (with_reducible first | exact HB.out | apply below_alloc | apply pw_below_drewN | apply below_drew1) | exact HB.out)) hb); clear HB; have HB := n0_; clear n0_; (try clear hb); (try clear hb2); (try clear hk); (try clear hi)) | ((with_reducible refine gate_callee (f := 33) rfl ?_); refine goesL_ (some 8) rfl rfl Tryd.func33 (by kernel_rfl) rfl #[.int .i64 a1] rfl (by (try simp only [List.map_toArray, List.map_cons, List.map_nil]); first | done | rfl | (simp only [List.length_drop, List.length_take]; rfl)) ?_; (with_reducible refine (tick_Of.calls a1 t160 _ A4.out).mono ?_); rintro e w7 ⟨rfl, hb⟩; refine ⟨_, rfl, ?_⟩; have n0_ := Aside0.mk (below_step (by repeat (first | (with_reducible first | exact HB.out | apply below_alloc | apply pw_below_drewN | apply below_drew1) | exact HB.out)) hb); clear HB; have HB := n0_; clear n0_; (try clear hb); (try clear hb2); (try clear hk); (try clear hi)) | ((with_reducible refine gate_callee (f := 33) rfl ?_); refine goesL_ (some 10) rfl rfl Tryd.func33 (by kernel_rfl) rfl #[.int .i64 (wrap64 (t159 + t160))] rfl (by (try simp only [List.map_toArray, List.map_cons, List.map_nil]); first | done | rfl | (simp only [List.length_drop, List.length_take]; rfl)) ?_; (with_reducible refine (tick_Of.calls (wrap64 (t159 + t160)) t161 _ A5.out).mono ?_); rintro e w8 ⟨rfl, hb⟩; refine ⟨_, rfl, ?_⟩; have n0_ := Aside0.mk (below_step (by repeat (first | (with_reducible first | exact HB.out | apply below_alloc | apply pw_below_drewN | apply below_drew1) | exact HB.out)) hb); clear HB; have HB := n0_; clear n0_; (try clear hb); (try clear hb2); (try clear hk); (try clear hi)))
  go_ret
  exact ⟨by first | rfl | (simp [errW_none, errW_some] <;> rfl) | (simp [*, errW_none, errW_some] <;> rfl), by repeat (first | (with_reducible first | exact HB.out | apply below_alloc | apply pw_below_drewN | apply below_drew1) | exact HB.out)⟩

end Go.Proofs.YtjefllmaffialaaDoor.Q
