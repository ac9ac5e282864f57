-- written for this claim by a program of the session
import Derived.Test.YtcgpbakimkhdpaaQx0
import Derived.Test.YtcgpbakimkhdpaaQx17
import Derived.Test.YtcgpbakimkhdpaaQx18
namespace Go.Proofs.Ytcgpbakimkhdpaa.Q
open Go.RowKit Go.Proofs.YtcgpbakimkhdpaaW.PrintWords Go.Proofs.YtcgpbakimkhdpaaW.PrintLast Go.Proofs.YtcgpbakimkhdpaaW.PrintMore
attribute [local go_sem] max2_int min2_int max_two min_two max_three min_three max_four min_four   -- for this text's walks alone
set_option linter.unusedVariables false
set_option linter.unusedSimpArgs false

/-! ### field_Reader_End: function 18 -/
def field_Reader_End.j0 : Nat → Bool → List Int → Int → Int → Int → Option (Bool × Int × Int × Int)
  | 0, _, _, _, _, _ => none
  | k + 1, x9, x1000, x1001, x1002, x1003 => if x9 = true then ((field_Reader_fail.f x1000 x1001 x1002 x1003 x1001 3).bind fun bt363 => ((field_Reader_ok.f x1000 bt363.1 bt363.2.1 bt363.2.2).bind fun bt366 => (some (bt366.1, bt366.2.1, bt366.2.2.1, bt366.2.2.2)))) else ((field_Reader_ok.f x1000 x1001 x1002 x1003).bind fun bt370 => (some (bt370.1, bt370.2.1, bt370.2.2.1, bt370.2.2.2)))
def field_Reader_End.f (k : Nat) (s0_0 : List Int) (s0_1 : Int) (s0_2 : Int) (s0_3 : Int) : Option (Bool × Int × Int × Int) := (field_Reader_ok.f s0_0 s0_1 s0_2 s0_3).bind fun bt355 => (if bt355.1 = true then ((field_Reader_left.f s0_0 bt355.2.1 bt355.2.2.1 bt355.2.2.2).bind fun bt359 => (field_Reader_End.j0 k (decide (bt359.1 > 0)) s0_0 bt359.2.1 bt359.2.2.1 bt359.2.2.2)) else (field_Reader_End.j0 k false s0_0 bt355.2.1 bt355.2.2.1 bt355.2.2.2))
theorem field_Reader_End.mono_l : ∀ k, (∀ y0 y1 y2 y3 y4, LeO (field_Reader_End.j0 k y0 y1 y2 y3 y4) (field_Reader_End.j0 (k + 1) y0 y1 y2 y3 y4))
  | 0 => fun _ _ _ _ _ r h => by simp [field_Reader_End.j0] at h
  | k + 1 => by
    have ih0 := field_Reader_End.mono_l k
    · intro y0 y1 y2 y3 y4
      unfold field_Reader_End.j0
      repeat' first
      | (with_reducible exact ih0 _ _ _ _ _)
      | (with_reducible exact LeO.refl _)
      | (with_reducible exact LeO.none _)
      | (with_reducible refine LeO.ite ?_ ?_)
      | (with_reducible refine LeO.bind ?_ (fun _ => ?_))
      | exact ih0 _ _ _ _ _
      | exact LeO.none _
      | refine LeO.ite ?_ ?_
      | refine LeO.bind ?_ (fun _ => ?_)
theorem field_Reader_End.mono : ∀ a0 a1 a2 a3 k, LeO (field_Reader_End.f k a0 a1 a2 a3) (field_Reader_End.f (k + 1) a0 a1 a2 a3) := by
  intro a0 a1 a2 a3 k
  have ih0 := field_Reader_End.mono_l k
  unfold field_Reader_End.f
  repeat' first
      | (with_reducible exact ih0 _ _ _ _ _)
      | (with_reducible exact LeO.refl _)
      | (with_reducible exact LeO.none _)
      | (with_reducible refine LeO.ite ?_ ?_)
      | (with_reducible refine LeO.bind ?_ (fun _ => ?_))
      | exact ih0 _ _ _ _ _
      | exact LeO.none _
      | refine LeO.ite ?_ ?_
      | refine LeO.bind ?_ (fun _ => ?_)
namespace field_Reader_End
theorem mt_ {α β : Type} {f : α → β} {l : List α} : l.toArray.map f = (l.map f).toArray := List.map_toArray
theorem mc_ {α β : Type} {f : α → β} {a : α} {l : List α} : (a :: l).map f = f a :: l.map f := rfl
theorem mn_ {α β : Type} {f : α → β} : ([] : List α).map f = [] := rfl
abbrev zn_ := @blk_drewN
abbrev zd_ := @blk_drew
abbrev za_ := @blk_alloc
abbrev zf_ := @blk_frozen
abbrev zc_ := @blk_cell
abbrev zs_ := @below_set
abbrev zr_ := @blk_far
abbrev zp_ := @blk_put
abbrev pd_ := @pw_below_drewN
abbrev p1_ := @below_drew1
abbrev pa_ := @below_alloc
abbrev ak_ := @Aside0.mk
abbrev bl_ := @World.block_lt_of_cell?
abbrev ps_ := @below_step
abbrev i66a_ := @IsS66.alloc
abbrev i66n_ := @IsS66.drewN
abbrev i66d_ := @IsS66.drew
def b_ (n k : Nat) : Array Bool := ((List.range n).map fun i => k.testBit i).toArray
theorem sa_ {α : Type} {l : List α} {i : Nat} {a : α} : l.toArray.setIfInBounds i a = (l.set i a).toArray := List.setIfInBounds_toArray l i a
theorem sz_ {α : Type} {a b : α} {l : List α} : (a :: l).set 0 b = b :: l := rfl
theorem ss_ {α : Type} {a b : α} {l : List α} {n : Nat} : (a :: l).set (n + 1) b = a :: l.set n b := rfl
end field_Reader_End
open field_Reader_End in
set_option maxHeartbeats 8000000 in
set_option maxRecDepth 100000 in
theorem field_Reader_End.calls (k : Nat) (g : Nat) (s0_0 : List Int) (s0_1 : Int) (s0_2 : Int) (s0_3 : Int) (r1 : Bool) (r2 : Int) (r3 : Int) (r4 : Int) (w0 w : World) (hI : IsS66 w0 w g s0_0 s0_1 s0_2 s0_3) (hB : Below w0.heap.size w0 w) (h : field_Reader_End.f k s0_0 s0_1 s0_2 s0_3 = some (r1, r2, r3, r4)) :
    Calls Try.prog 18 #[.pointer (some ⟨g, 0, none⟩)] w fun e w' => e = .returned (.bool r1) ∧ IsS66 w0 w' g s0_0 r2 r3 r4 ∧ Below w0.heap.size w0 w' ∧ KeepBut w w' g none := by
  have HI0 := ak_ hI
  have HK := ak_ (KeepBut.refl w g none)
  have HL := ak_ hB.size
  clear hI
  have HW0 := ak_ hB.size
  have HB := ak_ hB
  clear hB
  have H : ((field_Reader_ok.f s0_0 s0_1 s0_2 s0_3).bind fun bt355 => (if bt355.1 = true then ((field_Reader_left.f s0_0 bt355.2.1 bt355.2.2.1 bt355.2.2.2).bind fun bt359 => (field_Reader_End.j0 k (decide (bt359.1 > 0)) s0_0 bt359.2.1 bt359.2.2.1 bt359.2.2.2)) else (field_Reader_End.j0 k false s0_0 bt355.2.1 bt355.2.2.1 bt355.2.2.2))) = some (r1, r2, r3, r4) := h
  clear h
  have HC2 := ak_ H
  clear H
  go_enter Try.func18, Try.ntmps18
  go_upto_region 1 with (fail)
  go_cut [9] (fun v9 wc => ∃ (kq : Nat) (x9_1 : Bool) (x1001_1 : Int) (x1002_1 : Int) (x1003_1 : Int), v9 = .bool x9_1 ∧ Aside0 (field_Reader_End.j0 kq x9_1 s0_0 x1001_1 x1002_1 x1003_1 = some (r1, r2, r3, r4)) ∧ Aside0 (kq ≤ k) ∧ Aside0 (IsS66 w0 wc g s0_0 x1001_1 x1002_1 x1003_1) ∧ Aside0 (KeepBut w wc g none) ∧ Aside0 (Below w0.heap.size w0 wc))
  case first =>
    have H := HC2.out
    clear HC2
    replace H := Option.bind_eq_some_iff.mp H
    obtain ⟨⟨t355, t356, t357, t358⟩, A30, H⟩ := H
    replace H : (if t355 = true then ((field_Reader_left.f s0_0 t356 t357 t358).bind fun bt359 => (field_Reader_End.j0 k (decide (bt359.1 > 0)) s0_0 bt359.2.1 bt359.2.2.1 bt359.2.2.2)) else (field_Reader_End.j0 k false s0_0 t356 t357 t358)) = some (r1, r2, r3, r4) := H
    have A3 := ak_ A30
    clear A30
    by_cases c4 : t355 = true
    · subst c4
      have H1 : ((field_Reader_left.f s0_0 t356 t357 t358).bind fun bt359 => (field_Reader_End.j0 k (decide (bt359.1 > 0)) s0_0 bt359.2.1 bt359.2.2.1 bt359.2.2.2)) = some (r1, r2, r3, r4) := by rw [if_pos rfl] at H; exact H
      clear H
      have H := H1
      clear H1
      replace H := Option.bind_eq_some_iff.mp H
      obtain ⟨⟨t359, t360, t361, t362⟩, A50, H⟩ := H
      replace H : (field_Reader_End.j0 k (decide (t359 > 0)) s0_0 t360 t361 t362) = some (r1, r2, r3, r4) := H
      have A5 := ak_ A50
      clear A50
      have H' := ak_ H
      clear H
      go_wp2_with (first | ((with_reducible refine gate_callee (f := 29) rfl ?_); refine goesL_ (some 4) rfl rfl Try.func29 (by kernel_rfl) rfl #[.pointer (some ⟨g, 0, none⟩)] rfl (by simp only [mt_, mc_, mn_] <;> rfl) ?_; (with_reducible refine (field_Reader_ok.calls g s0_0 s0_1 s0_2 s0_3 true t356 t357 t358 w0 _ ?side1 ?side2 A3.out).mono ?_); (case side1 => repeat (first | (with_reducible first | exact HI0.out | apply i66a_ | apply i66n_ | apply i66d_ | apply IsS66.set_1 | apply IsS66.set_2 | apply IsS66.set_3) | exact HI0.out)); (case side2 => repeat (first | (with_reducible first | exact HB.out | apply pa_ | apply pd_ | apply p1_ | refine zs_ ?_ (IsS66.ge HI0.out)) | exact HB.out)); rintro e w6 ⟨rfl, hi, hb, hk⟩; refine ⟨_, rfl, ?_⟩; have n0_ := ak_ (KeepBut.trans (by repeat (first | (with_reducible first | exact HK.out | apply KeepBut.set_ | apply keep_drewN | apply keep_drew | apply keep_alloc) | exact HK.out)) hk (.inl rfl)); have n1_ := ak_ (hb); have n2_ := ak_ (hi); clear HK; clear HB; clear HI0; have HK := n0_; have HB := n1_; have HI0 := n2_; clear n0_ n1_ n2_; (try clear hb hk hi)) | (go_at_call 30; (with_reducible refine (field_Reader_left.calls g s0_0 t356 t357 t358 t359 t360 t361 t362 w0 _ ?side1 ?side2 A5.out).mono ?_); (case side1 => repeat (first | (with_reducible first | exact HI0.out | apply i66a_ | apply i66n_ | apply i66d_ | apply IsS66.set_1 | apply IsS66.set_2 | apply IsS66.set_3) | exact HI0.out)); (case side2 => repeat (first | (with_reducible first | exact HB.out | apply pa_ | apply pd_ | apply p1_ | refine zs_ ?_ (IsS66.ge HI0.out)) | exact HB.out)); rintro e w7 ⟨rfl, hi, hb, hk⟩; have n0_ := ak_ (KeepBut.trans (by repeat (first | (with_reducible first | exact HK.out | apply KeepBut.set_ | apply keep_drewN | apply keep_drew | apply keep_alloc) | exact HK.out)) hk (.inl rfl)); have n1_ := ak_ (hb); have n2_ := ak_ (hi); clear HK; clear HB; clear HI0; have HK := n0_; have HB := n1_; have HI0 := n2_; clear n0_ n1_ n2_; (try clear hb hk hi)))
      go_meet
      case rel => exact ⟨_, (decide (t359 > 0)), (t360), (t361), (t362), (by first | rfl | (simp; done) | (simp [*]; done)), H', ⟨by first | omega | exact Nat.le_refl _⟩, ⟨by repeat (first | (with_reducible first | exact HI0.out | apply i66a_ | apply i66n_ | apply i66d_ | apply IsS66.set_1 | apply IsS66.set_2 | apply IsS66.set_3) | exact HI0.out)⟩, ⟨by repeat (first | (with_reducible first | exact HK.out | apply KeepBut.set_ | apply keep_drewN | apply keep_drew | apply keep_alloc) | exact HK.out)⟩, ⟨by repeat (first | (with_reducible first | exact HB.out | apply pa_ | apply pd_ | apply p1_ | refine zs_ ?_ (IsS66.ge HI0.out)) | exact HB.out)⟩⟩
    replace c4 := Bool.eq_false_iff.mpr c4
    subst c4
    have H1 : (field_Reader_End.j0 k false s0_0 t356 t357 t358) = some (r1, r2, r3, r4) := by rw [if_neg (show ¬ (false = true) by decide)] at H; exact H
    clear H
    have H := H1
    clear H1
    have H' := ak_ H
    clear H
    go_wp2_with (first | ((with_reducible refine gate_callee (f := 29) rfl ?_); refine goesL_ (some 4) rfl rfl Try.func29 (by kernel_rfl) rfl #[.pointer (some ⟨g, 0, none⟩)] rfl (by simp only [mt_, mc_, mn_] <;> rfl) ?_; (with_reducible refine (field_Reader_ok.calls g s0_0 s0_1 s0_2 s0_3 false t356 t357 t358 w0 _ ?side1 ?side2 A3.out).mono ?_); (case side1 => repeat (first | (with_reducible first | exact HI0.out | apply i66a_ | apply i66n_ | apply i66d_ | apply IsS66.set_1 | apply IsS66.set_2 | apply IsS66.set_3) | exact HI0.out)); (case side2 => repeat (first | (with_reducible first | exact HB.out | apply pa_ | apply pd_ | apply p1_ | refine zs_ ?_ (IsS66.ge HI0.out)) | exact HB.out)); rintro e w8 ⟨rfl, hi, hb, hk⟩; refine ⟨_, rfl, ?_⟩; have n0_ := ak_ (KeepBut.trans (by repeat (first | (with_reducible first | exact HK.out | apply KeepBut.set_ | apply keep_drewN | apply keep_drew | apply keep_alloc) | exact HK.out)) hk (.inl rfl)); have n1_ := ak_ (hb); have n2_ := ak_ (hi); clear HK; clear HB; clear HI0; have HK := n0_; have HB := n1_; have HI0 := n2_; clear n0_ n1_ n2_; (try clear hb hk hi)))
    go_meet
    case rel => exact ⟨_, (false), (t356), (t357), (t358), (by first | rfl | (simp; done) | (simp [*]; done)), H', ⟨by first | omega | exact Nat.le_refl _⟩, ⟨by repeat (first | (with_reducible first | exact HI0.out | apply i66a_ | apply i66n_ | apply i66d_ | apply IsS66.set_1 | apply IsS66.set_2 | apply IsS66.set_3) | exact HI0.out)⟩, ⟨by repeat (first | (with_reducible first | exact HK.out | apply KeepBut.set_ | apply keep_drewN | apply keep_drew | apply keep_alloc) | exact HK.out)⟩, ⟨by repeat (first | (with_reducible first | exact HB.out | apply pa_ | apply pd_ | apply p1_ | refine zs_ ?_ (IsS66.ge HI0.out)) | exact HB.out)⟩⟩
  case rest =>
    clear HC2
    try clear c1
    try clear c2
    try clear p2
    try clear c4
    obtain ⟨kq, x9_1, x1001_1, x1002_1, x1003_1, rfl, HA, HJ1, HI0, HK, HB⟩ := hcut
    cases kq with
    | zero => exact absurd HA.out (by simp [field_Reader_End.j0])
    | succ kj1 =>
      have H := HA.out
      clear HA
      simp only [field_Reader_End.j0] at H
      by_cases c9 : x9_1 = true
      · subst c9
        have H1 : ((field_Reader_fail.f s0_0 x1001_1 x1002_1 x1003_1 x1001_1 3).bind fun bt363 => ((field_Reader_ok.f s0_0 bt363.1 bt363.2.1 bt363.2.2).bind fun bt366 => (some (bt366.1, bt366.2.1, bt366.2.2.1, bt366.2.2.2)))) = some (r1, r2, r3, r4) := by rw [if_pos rfl] at H; exact H
        clear H
        have H := H1
        clear H1
        replace H := Option.bind_eq_some_iff.mp H
        obtain ⟨⟨t363, t364, t365⟩, A100, H⟩ := H
        replace H : ((field_Reader_ok.f s0_0 t363 t364 t365).bind fun bt366 => (some (bt366.1, bt366.2.1, bt366.2.2.1, bt366.2.2.2))) = some (r1, r2, r3, r4) := H
        have A10 := ak_ A100
        clear A100
        replace H := Option.bind_eq_some_iff.mp H
        obtain ⟨⟨t366, t367, t368, t369⟩, A110, H⟩ := H
        replace H : (some (t366, t367, t368, t369)) = some (r1, r2, r3, r4) := H
        have A11 := ak_ A110
        clear A110
        simp only [Option.some.injEq, Prod.mk.injEq] at H
        obtain ⟨rfl, rfl, rfl, rfl⟩ := H
        obtain ⟨ASz12_0, cSz12_0, HGz12, hgz12, ⟨HSz12_0, _⟩⟩ := HI0.out
        have hcz12_0 := cellS66_0 HGz12
        have hcz12_1 := cellS66_1 HGz12
        have hcz12_2 := cellS66_2 HGz12
        have hcz12_3 := cellS66_3 HGz12
        have hfz12_1 := zf_ HGz12 1
        have hfz12_2 := zf_ HGz12 2
        have hfz12_3 := zf_ HGz12 3
        clear HGz12 hgz12
        go_wp2_with (first | ((with_reducible refine gate_callee (f := 31) rfl ?_); refine goesL_ (some 15) rfl rfl Try.func31 (by kernel_rfl) rfl #[.pointer (some ⟨g, 0, none⟩), .int .i64 x1001_1, .int .i64 3] rfl (by simp only [mt_, mc_, mn_] <;> rfl) ?_; (with_reducible refine (field_Reader_fail.calls g s0_0 x1001_1 x1002_1 x1003_1 x1001_1 3 t363 t364 t365 w0 _ ?side1 ?side2 A10.out).mono ?_); (case side1 => repeat (first | (with_reducible first | exact HI0.out | apply i66a_ | apply i66n_ | apply i66d_ | apply IsS66.set_1 | apply IsS66.set_2 | apply IsS66.set_3) | exact HI0.out)); (case side2 => repeat (first | (with_reducible first | exact HB.out | apply pa_ | apply pd_ | apply p1_ | refine zs_ ?_ (IsS66.ge HI0.out)) | exact HB.out)); rintro e w13 ⟨rfl, hi, hb, hk⟩; refine ⟨_, rfl, ?_⟩; have n0_ := ak_ (KeepBut.trans (by repeat (first | (with_reducible first | exact HK.out | apply KeepBut.set_ | apply keep_drewN | apply keep_drew | apply keep_alloc) | exact HK.out)) hk (.inl rfl)); have n1_ := ak_ (hb); have n2_ := ak_ (hi); clear HK; clear HB; clear HI0; have HK := n0_; have HB := n1_; have HI0 := n2_; clear n0_ n1_ n2_; (try clear hb hk hi)) | ((with_reducible refine gate_callee (f := 29) rfl ?_); refine goesL_ (some 17) rfl rfl Try.func29 (by kernel_rfl) rfl #[.pointer (some ⟨g, 0, none⟩)] rfl (by simp only [mt_, mc_, mn_] <;> rfl) ?_; (with_reducible refine (field_Reader_ok.calls g s0_0 t363 t364 t365 t366 t367 t368 t369 w0 _ ?side1 ?side2 A11.out).mono ?_); (case side1 => repeat (first | (with_reducible first | exact HI0.out | apply i66a_ | apply i66n_ | apply i66d_ | apply IsS66.set_1 | apply IsS66.set_2 | apply IsS66.set_3) | exact HI0.out)); (case side2 => repeat (first | (with_reducible first | exact HB.out | apply pa_ | apply pd_ | apply p1_ | refine zs_ ?_ (IsS66.ge HI0.out)) | exact HB.out)); rintro e w14 ⟨rfl, hi, hb, hk⟩; refine ⟨_, rfl, ?_⟩; have n0_ := ak_ (KeepBut.trans (by repeat (first | (with_reducible first | exact HK.out | apply KeepBut.set_ | apply keep_drewN | apply keep_drew | apply keep_alloc) | exact HK.out)) hk (.inl rfl)); have n1_ := ak_ (hb); have n2_ := ak_ (hi); clear HK; clear HB; clear HI0; have HK := n0_; have HB := n1_; have HI0 := n2_; clear n0_ n1_ n2_; (try clear hb hk hi)))
        go_ret
        exact ⟨by first | rfl | (simp [errW_none, errW_some] <;> rfl) | (simp [*, errW_none, errW_some] <;> rfl), by repeat (first | (with_reducible first | exact HI0.out | apply i66a_ | apply i66n_ | apply i66d_ | apply IsS66.set_1 | apply IsS66.set_2 | apply IsS66.set_3) | exact HI0.out), by repeat (first | (with_reducible first | exact HB.out | apply pa_ | apply pd_ | apply p1_ | refine zs_ ?_ (IsS66.ge HI0.out)) | exact HB.out), by repeat (first | (with_reducible first | exact HK.out | apply KeepBut.set_ | apply keep_drewN | apply keep_drew | apply keep_alloc) | exact HK.out)⟩
      replace c9 := Bool.eq_false_iff.mpr c9
      subst c9
      have H1 : ((field_Reader_ok.f s0_0 x1001_1 x1002_1 x1003_1).bind fun bt370 => (some (bt370.1, bt370.2.1, bt370.2.2.1, bt370.2.2.2))) = some (r1, r2, r3, r4) := by rw [if_neg (show ¬ (false = true) by decide)] at H; exact H
      clear H
      have H := H1
      clear H1
      replace H := Option.bind_eq_some_iff.mp H
      obtain ⟨⟨t370, t371, t372, t373⟩, A150, H⟩ := H
      replace H : (some (t370, t371, t372, t373)) = some (r1, r2, r3, r4) := H
      have A15 := ak_ A150
      clear A150
      simp only [Option.some.injEq, Prod.mk.injEq] at H
      obtain ⟨rfl, rfl, rfl, rfl⟩ := H
      go_wp2_with (first | ((with_reducible refine gate_callee (f := 29) rfl ?_); refine goesL_ (some 17) rfl rfl Try.func29 (by kernel_rfl) rfl #[.pointer (some ⟨g, 0, none⟩)] rfl (by simp only [mt_, mc_, mn_] <;> rfl) ?_; (with_reducible refine (field_Reader_ok.calls g s0_0 x1001_1 x1002_1 x1003_1 t370 t371 t372 t373 w0 _ ?side1 ?side2 A15.out).mono ?_); (case side1 => repeat (first | (with_reducible first | exact HI0.out | apply i66a_ | apply i66n_ | apply i66d_ | apply IsS66.set_1 | apply IsS66.set_2 | apply IsS66.set_3) | exact HI0.out)); (case side2 => repeat (first | (with_reducible first | exact HB.out | apply pa_ | apply pd_ | apply p1_ | refine zs_ ?_ (IsS66.ge HI0.out)) | exact HB.out)); rintro e w16 ⟨rfl, hi, hb, hk⟩; refine ⟨_, rfl, ?_⟩; have n0_ := ak_ (KeepBut.trans (by repeat (first | (with_reducible first | exact HK.out | apply KeepBut.set_ | apply keep_drewN | apply keep_drew | apply keep_alloc) | exact HK.out)) hk (.inl rfl)); have n1_ := ak_ (hb); have n2_ := ak_ (hi); clear HK; clear HB; clear HI0; have HK := n0_; have HB := n1_; have HI0 := n2_; clear n0_ n1_ n2_; (try clear hb hk hi)))
      go_ret
      exact ⟨by first | rfl | (simp [errW_none, errW_some] <;> rfl) | (simp [*, errW_none, errW_some] <;> rfl), by repeat (first | (with_reducible first | exact HI0.out | apply i66a_ | apply i66n_ | apply i66d_ | apply IsS66.set_1 | apply IsS66.set_2 | apply IsS66.set_3) | exact HI0.out), by repeat (first | (with_reducible first | exact HB.out | apply pa_ | apply pd_ | apply p1_ | refine zs_ ?_ (IsS66.ge HI0.out)) | exact HB.out), by repeat (first | (with_reducible first | exact HK.out | apply KeepBut.set_ | apply keep_drewN | apply keep_drew | apply keep_alloc) | exact HK.out)⟩

end Go.Proofs.Ytcgpbakimkhdpaa.Q
