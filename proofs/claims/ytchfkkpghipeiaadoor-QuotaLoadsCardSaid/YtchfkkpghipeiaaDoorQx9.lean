-- written for this claim by a program of the session
import Derived.Test.YtchfkkpghipeiaaDoorQx0
import Derived.Test.YtchfkkpghipeiaaDoorQx1
import Derived.Test.YtchfkkpghipeiaaDoorQx8
namespace Go.Proofs.YtchfkkpghipeiaaDoor.Q
open Go.RowKit Go.Proofs.YtchfkkpghipeiaaDoorW.PrintWords Go.Proofs.YtchfkkpghipeiaaDoorW.PrintLast Go.Proofs.YtchfkkpghipeiaaDoorW.PrintMore
attribute [local go_sem] max2_int min2_int max_two min_two max_three min_three max_four min_four   -- for this text's walks alone
set_option linter.unusedVariables false
set_option linter.unusedSimpArgs false

attribute [local go_sem high] eqA71
/-! ### field_Reader_fail: function 33 -/
def field_Reader_fail.f (s0_0 : List Int) (s0_1 : Int) (s0_2 : Int) (s0_3 : Int) (a1 : Int) (a2 : Int) : Option (Int × Int × Int) := if (s0_2 == 0 && (s0_3 == 0)) = true then (some (a1, a1, a2)) else (some (a1, s0_2, s0_3))
set_option maxHeartbeats 8000000 in
set_option maxRecDepth 100000 in
theorem field_Reader_fail.calls (g : Nat) (s0_0 : List Int) (s0_1 : Int) (s0_2 : Int) (s0_3 : Int) (a1 : Int) (a2 : Int) (r1 : Int) (r2 : Int) (r3 : Int) (w0 w : World) (hI : IsS73 w0 w g s0_0 s0_1 s0_2 s0_3) (hB : Below w0.heap.size w0 w) (h : field_Reader_fail.f s0_0 s0_1 s0_2 s0_3 a1 a2 = some (r1, r2, r3)) :
    Calls Tryd.prog 33 #[.pointer (some ⟨g, 0, none⟩), .int .i64 a1, .int .i64 a2] w fun e w' => e = .returned (.tuple #[]) ∧ IsS73 w0 w' g s0_0 r1 r2 r3 ∧ Below w0.heap.size w0 w' ∧ KeepBut w w' g none := by
  have hu71 := Tryd.underlying71
  have HI0 := Aside0.mk hI
  have HK := Aside0.mk (KeepBut.refl w g none)
  have HL := Aside0.mk hB.size
  clear hI
  have HW0 := Aside0.mk hB.size
  have HB := Aside0.mk hB
  clear hB
  have H : (if (s0_2 == 0 && (s0_3 == 0)) = true then (some (a1, a1, a2)) else (some (a1, s0_2, s0_3))) = some (r1, r2, r3) := h
  clear h
  by_cases c4 : (s0_2 == 0 && (s0_3 == 0)) = true
  · rw [if_pos c4] at H
    have c4b0 : (s0_2 == 0 && (s0_3 == 0)) = true := c4
    (try (have c4b1 : decide (s0_2 = 0 && (s0_3 == 0)) = true := by simpa using c4))
    (try (have c4b2 : (s0_2 == 0 && (s0_3 == 0)) = true := by simpa using c4))
    clear c4
    simp only [Option.some.injEq, Prod.mk.injEq] at H
    obtain ⟨rfl, rfl, rfl⟩ := H
    obtain ⟨ASz5_0, cSz5_0, HGz5, hgz5, ⟨HSz5_0, _⟩⟩ := HI0.out
    have hcz5_0 := cellS73_0 HGz5
    have hcz5_1 := cellS73_1 HGz5
    have hcz5_2 := cellS73_2 HGz5
    have hcz5_3 := cellS73_3 HGz5
    have hfz5_1 := blk_frozen HGz5 1
    have hfz5_2 := blk_frozen HGz5 2
    have hfz5_3 := blk_frozen HGz5 3
    clear HGz5 hgz5
    go_enter Tryd.func33, Tryd.ntmps33
    go_wp2
    first | go_end0 | ((try simp only [Exit.inBlock, Exit.then]); refine bodyPost_ret (results_none rfl _ _ _) rfl ?_)
    exact ⟨by first | rfl | (simp [errW_none, errW_some] <;> rfl) | (simp [*, errW_none, errW_some] <;> rfl), by repeat (first | (with_reducible first | exact HI0.out | apply IsS73.alloc | apply IsS73.drewN | apply IsS73.drew | apply IsS73.set_1 | apply IsS73.set_2 | apply IsS73.set_3) | exact HI0.out), by repeat (first | (with_reducible first | exact HB.out | apply below_alloc | apply pw_below_drewN | apply below_drew1 | refine below_set ?_ (IsS73.ge HI0.out)) | exact HB.out), by repeat (first | (with_reducible first | exact HK.out | apply KeepBut.set_ | apply keep_drewN | apply keep_drew | apply keep_alloc) | exact HK.out)⟩
  · rw [if_neg c4] at H
    have c4b0 : (s0_2 == 0 && (s0_3 == 0)) = false := by simpa using c4
    (try (have c4b1 : decide (s0_2 = 0 && (s0_3 == 0)) = false := by simpa using c4))
    (try (have c4b2 : (s0_2 == 0 && (s0_3 == 0)) = false := by simpa using c4))
    (try (have c4b3 : ¬ (s0_2 = 0 && (s0_3 == 0)) := by simpa using c4))
    clear c4
    simp only [Option.some.injEq, Prod.mk.injEq] at H
    obtain ⟨rfl, rfl, rfl⟩ := H
    obtain ⟨ASz6_0, cSz6_0, HGz6, hgz6, ⟨HSz6_0, _⟩⟩ := HI0.out
    have hcz6_0 := cellS73_0 HGz6
    have hcz6_1 := cellS73_1 HGz6
    have hcz6_2 := cellS73_2 HGz6
    have hcz6_3 := cellS73_3 HGz6
    have hfz6_1 := blk_frozen HGz6 1
    have hfz6_2 := blk_frozen HGz6 2
    have hfz6_3 := blk_frozen HGz6 3
    clear HGz6 hgz6
    go_enter Tryd.func33, Tryd.ntmps33
    go_wp2
    first | go_end0 | ((try simp only [Exit.inBlock, Exit.then]); refine bodyPost_ret (results_none rfl _ _ _) rfl ?_)
    exact ⟨by first | rfl | (simp [errW_none, errW_some] <;> rfl) | (simp [*, errW_none, errW_some] <;> rfl), by repeat (first | (with_reducible first | exact HI0.out | apply IsS73.alloc | apply IsS73.drewN | apply IsS73.drew | apply IsS73.set_1 | apply IsS73.set_2 | apply IsS73.set_3) | exact HI0.out), by repeat (first | (with_reducible first | exact HB.out | apply below_alloc | apply pw_below_drewN | apply below_drew1 | refine below_set ?_ (IsS73.ge HI0.out)) | exact HB.out), by repeat (first | (with_reducible first | exact HK.out | apply KeepBut.set_ | apply keep_drewN | apply keep_drew | apply keep_alloc) | exact HK.out)⟩

/-! ### field_Reader_left: function 34 -/
def field_Reader_left.f (s0_0 : List Int) (s0_1 : Int) (s0_2 : Int) (s0_3 : Int) : Option (Int × Int × Int × Int) := some (wrap64 ((s0_0.length : Int) - s0_1), s0_1, s0_2, s0_3)
set_option maxHeartbeats 8000000 in
set_option maxRecDepth 100000 in
theorem field_Reader_left.calls (g : Nat) (s0_0 : List Int) (s0_1 : Int) (s0_2 : Int) (s0_3 : Int) (r1 : Int) (r2 : Int) (r3 : Int) (r4 : Int) (w0 w : World) (hI : IsS73 w0 w g s0_0 s0_1 s0_2 s0_3) (hB : Below w0.heap.size w0 w) (h : field_Reader_left.f s0_0 s0_1 s0_2 s0_3 = some (r1, r2, r3, r4)) :
    Calls Tryd.prog 34 #[.pointer (some ⟨g, 0, none⟩)] w fun e w' => e = .returned (.int .i64 r1) ∧ IsS73 w0 w' g s0_0 r2 r3 r4 ∧ Below w0.heap.size w0 w' ∧ KeepBut w w' g none := by
  have HI0 := Aside0.mk hI
  have HK := Aside0.mk (KeepBut.refl w g none)
  have HL := Aside0.mk hB.size
  clear hI
  have HW0 := Aside0.mk hB.size
  have HB := Aside0.mk hB
  clear hB
  have H : (some (wrap64 ((s0_0.length : Int) - s0_1), s0_1, s0_2, s0_3)) = some (r1, r2, r3, r4) := h
  clear h
  simp only [Option.some.injEq, Prod.mk.injEq] at H
  obtain ⟨rfl, rfl, rfl, rfl⟩ := H
  obtain ⟨ASz2_0, cSz2_0, HGz2, hgz2, ⟨HSz2_0, _⟩⟩ := HI0.out
  have hcz2_0 := cellS73_0 HGz2
  have hcz2_1 := cellS73_1 HGz2
  have hcz2_2 := cellS73_2 HGz2
  have hcz2_3 := cellS73_3 HGz2
  have hfz2_1 := blk_frozen HGz2 1
  have hfz2_2 := blk_frozen HGz2 2
  have hfz2_3 := blk_frozen HGz2 3
  clear HGz2 hgz2
  go_enter Tryd.func34, Tryd.ntmps34
  go_wp2
  repeat (go_quiet (fail); try go_wp2)
  go_ret
  exact ⟨by first | rfl | (simp [errW_none, errW_some] <;> rfl) | (simp [*, errW_none, errW_some] <;> rfl), by repeat (first | (with_reducible first | exact HI0.out | apply IsS73.alloc | apply IsS73.drewN | apply IsS73.drew | apply IsS73.set_1 | apply IsS73.set_2 | apply IsS73.set_3) | exact HI0.out), by repeat (first | (with_reducible first | exact HB.out | apply below_alloc | apply pw_below_drewN | apply below_drew1 | refine below_set ?_ (IsS73.ge HI0.out)) | exact HB.out), by repeat (first | (with_reducible first | exact HK.out | apply KeepBut.set_ | apply keep_drewN | apply keep_drew | apply keep_alloc) | exact HK.out)⟩

-- told by hand: function 23 (field_Reader_Num)

end Go.Proofs.YtchfkkpghipeiaaDoor.Q
