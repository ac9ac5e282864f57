-- written for this claim by a program of the session
import Derived.Test.YtjefllmaffialaaDoorQx0
import Derived.Test.YtjefllmaffialaaDoorQx6
import Derived.Test.YtjefllmaffialaaDoorQx10
namespace Go.Proofs.YtjefllmaffialaaDoor.Q
open Go.RowKit Go.Proofs.YtjefllmaffialaaDoorW.PrintWords Go.Proofs.YtjefllmaffialaaDoorW.PrintLast Go.Proofs.YtjefllmaffialaaDoorW.PrintMore
attribute [local go_sem] max2_int min2_int max_two min_two max_three min_three max_four min_four   -- for this text's walks alone
set_option linter.unusedVariables false
set_option linter.unusedSimpArgs false

/-! ### breaker_Breaker_trips: function 27 -/
def breaker_Breaker_trips.f (s0_0 : Int) (s0_1 : Int) (s0_2 : Int) (s0_3 : Int) (s0_4 : Int) (s0_5 : Int) (s0_6 : Int) (a1 : Int) : Option (Int × Int × Int × Int × Int × Int × Int) := (tick_Add.f a1 s0_1).bind fun t162 => (some (s0_0, s0_1, s0_2, 1, 0, t162, 0))
set_option maxHeartbeats 8000000 in
set_option maxRecDepth 100000 in
theorem breaker_Breaker_trips.calls (g : Nat) (s0_0 : Int) (s0_1 : Int) (s0_2 : Int) (s0_3 : Int) (s0_4 : Int) (s0_5 : Int) (s0_6 : Int) (a1 : Int) (r1 : Int) (r2 : Int) (r3 : Int) (r4 : Int) (r5 : Int) (r6 : Int) (r7 : Int) (w0 w : World) (hI : IsS59 w0 w g s0_0 s0_1 s0_2 s0_3 s0_4 s0_5 s0_6) (hB : Below w0.heap.size w0 w) (h : breaker_Breaker_trips.f s0_0 s0_1 s0_2 s0_3 s0_4 s0_5 s0_6 a1 = some (r1, r2, r3, r4, r5, r6, r7)) :
    Calls Tryd.prog 27 #[.pointer (some ⟨g, 0, none⟩), .int .i64 a1] w fun e w' => e = .returned (.tuple #[]) ∧ IsS59 w0 w' g r1 r2 r3 r4 r5 r6 r7 ∧ Below w0.heap.size w0 w' ∧ KeepBut w w' g none := by
  have HI0 := Aside0.mk hI
  have HK := Aside0.mk (KeepBut.refl w g none)
  have HL := Aside0.mk hB.size
  clear hI
  have HW0 := Aside0.mk hB.size
  have HB := Aside0.mk hB
  clear hB
  have H : ((tick_Add.f a1 s0_1).bind fun t162 => (some (s0_0, s0_1, s0_2, 1, 0, t162, 0))) = some (r1, r2, r3, r4, r5, r6, r7) := h
  clear h
  replace H := Option.bind_eq_some_iff.mp H
  obtain ⟨t162, A30, H⟩ := H
  replace H : (some (s0_0, s0_1, s0_2, 1, 0, t162, 0)) = some (r1, r2, r3, r4, r5, r6, r7) := H
  have A3 := Aside0.mk A30
  clear A30
  simp only [Option.some.injEq, Prod.mk.injEq] at H
  obtain ⟨rfl, rfl, rfl, rfl, rfl, rfl, rfl⟩ := H
  obtain ⟨HGz4, hgz4⟩ := HI0.out
  have hcz4_0 := cellS59_0 HGz4
  have hcz4_1 := cellS59_1 HGz4
  have hcz4_2 := cellS59_2 HGz4
  have hcz4_3 := cellS59_3 HGz4
  have hcz4_4 := cellS59_4 HGz4
  have hcz4_5 := cellS59_5 HGz4
  have hcz4_6 := cellS59_6 HGz4
  have hfz4_0 := blk_frozen HGz4 0
  have hfz4_1 := blk_frozen HGz4 1
  have hfz4_2 := blk_frozen HGz4 2
  have hfz4_3 := blk_frozen HGz4 3
  have hfz4_4 := blk_frozen HGz4 4
  have hfz4_5 := blk_frozen HGz4 5
  have hfz4_6 := blk_frozen HGz4 6
  clear HGz4 hgz4
  go_enter Tryd.func27, Tryd.ntmps27
  go_wp2_with (first | ((with_reducible refine gate_callee (f := 34) rfl ?_); refine goesL_ (some 19) rfl rfl Tryd.func34 (by kernel_rfl) rfl #[.int .i64 a1, .int .i64 s0_1] rfl (by (try simp only [List.map_toArray, List.map_cons, List.map_nil]); first | done | rfl | (simp only [List.length_drop, List.length_take]; rfl)) ?_; (with_reducible refine (tick_Add.calls a1 s0_1 t162 _ A3.out).mono ?_); rintro e w5 ⟨rfl, hb⟩; refine ⟨_, rfl, ?_⟩; have n0_ := Aside0.mk (IsS59.below (show IsS59 w0 (((w.setCell ⟨g, 3, none⟩ (.int .i64 1)).setCell ⟨g, 4, none⟩ (.int .i64 0)).setCell ⟨g, 6, none⟩ (.int .i64 0)) g s0_0 s0_1 s0_2 1 0 s0_5 0 from by repeat (first | (with_reducible first | exact HI0.out | apply IsS59.alloc | apply IsS59.drewN | apply IsS59.drew | apply IsS59.set_0 | apply IsS59.set_1 | apply IsS59.set_2 | apply IsS59.set_3 | apply IsS59.set_4 | apply IsS59.set_5 | apply IsS59.set_6) | exact HI0.out)) hb); have n1_ := Aside0.mk (KeepBut.trans (by repeat (first | (with_reducible first | exact HK.out | apply KeepBut.set_ | apply keep_drewN | apply keep_drew | apply keep_alloc) | exact HK.out)) (KeepBut.of_below hb g none) (.inl rfl)); have n2_ := Aside0.mk (below_step (by repeat (first | (with_reducible first | exact HB.out | apply below_alloc | apply pw_below_drewN | apply below_drew1 | refine below_set ?_ (IsS59.ge HI0.out)) | exact HB.out)) hb); clear HI0; clear HK; clear HB; have HI0 := n0_; have HK := n1_; have HB := n2_; clear n0_ n1_ n2_; (try clear hb); (try clear hb2); (try clear hk); (try clear hi); obtain ⟨HGz6, hgz6⟩ := HI0.out; have hcz6_0 := cellS59_0 HGz6; have hcz6_1 := cellS59_1 HGz6; have hcz6_2 := cellS59_2 HGz6; have hcz6_3 := cellS59_3 HGz6; have hcz6_4 := cellS59_4 HGz6; have hcz6_5 := cellS59_5 HGz6; have hcz6_6 := cellS59_6 HGz6; have hfz6_0 := blk_frozen HGz6 0; have hfz6_1 := blk_frozen HGz6 1; have hfz6_2 := blk_frozen HGz6 2; have hfz6_3 := blk_frozen HGz6 3; have hfz6_4 := blk_frozen HGz6 4; have hfz6_5 := blk_frozen HGz6 5; have hfz6_6 := blk_frozen HGz6 6; clear HGz6 hgz6))
  first | go_end0 | ((try simp only [Exit.inBlock, Exit.then]); refine bodyPost_ret (results_none rfl _ _ _) rfl ?_)
  exact ⟨by first | rfl | (simp [errW_none, errW_some] <;> rfl) | (simp [*, errW_none, errW_some] <;> rfl), by repeat (first | (with_reducible first | exact HI0.out | apply IsS59.alloc | apply IsS59.drewN | apply IsS59.drew | apply IsS59.set_0 | apply IsS59.set_1 | apply IsS59.set_2 | apply IsS59.set_3 | apply IsS59.set_4 | apply IsS59.set_5 | apply IsS59.set_6) | exact HI0.out), by repeat (first | (with_reducible first | exact HB.out | apply below_alloc | apply pw_below_drewN | apply below_drew1 | refine below_set ?_ (IsS59.ge HI0.out)) | exact HB.out), by repeat (first | (with_reducible first | exact HK.out | apply KeepBut.set_ | apply keep_drewN | apply keep_drew | apply keep_alloc) | exact HK.out)⟩

end Go.Proofs.YtjefllmaffialaaDoor.Q
