-- written for this claim by a program of the session
import Derived.Test.YtookpfpmobbhiaaQx0
import Derived.Test.YtookpfpmobbhiaaQx5
namespace Go.Proofs.Ytookpfpmobbhiaa.Q
open Go.RowKit Go.Proofs.YtookpfpmobbhiaaW.PrintWords Go.Proofs.YtookpfpmobbhiaaW.PrintLast Go.Proofs.YtookpfpmobbhiaaW.PrintMore
attribute [local go_sem] max2_int min2_int max_two min_two max_three min_three max_four min_four   -- for this text's walks alone
set_option linter.unusedVariables false
set_option linter.unusedSimpArgs false

/-! ### usufructref01_Times: function 10 -/
def usufructref01_Times.l0 : Nat → Int → Int → Int → Option (Int)
  | 0, _, _, _ => none
  | k + 1, x0, x1, x5 => if x1 > 0 then (if (Int.tmod x1 2) = 1 then ((usufructref01_Add.f x5 x0).bind fun t123 => ((usufructref01_Add.f x0 x0).bind fun t124 => (usufructref01_Times.l0 k t124 (wrap64 (Int.tdiv x1 2)) t123))) else ((usufructref01_Add.f x0 x0).bind fun t125 => (usufructref01_Times.l0 k t125 (wrap64 (Int.tdiv x1 2)) x5))) else (some x5)
def usufructref01_Times.f (k : Nat) (a0 : Int) (a1 : Int) : Option (Int) := (usufructref01_Of.f a0).bind fun t121 => ((usufructref01_Of.f a1).bind fun t122 => (usufructref01_Times.l0 k t121 t122 0))
theorem usufructref01_Times.mono_l : ∀ k, (∀ y0 y1 y2, LeO (usufructref01_Times.l0 k y0 y1 y2) (usufructref01_Times.l0 (k + 1) y0 y1 y2))
  | 0 => fun _ _ _ r h => by simp [usufructref01_Times.l0] at h
  | k + 1 => by
    have ih0 := usufructref01_Times.mono_l k
    · intro y0 y1 y2
      unfold usufructref01_Times.l0
      repeat' first
      | (with_reducible exact ih0 _ _ _)
      | (with_reducible exact LeO.refl _)
      | (with_reducible exact LeO.none _)
      | (with_reducible refine LeO.ite ?_ ?_)
      | (with_reducible refine LeO.bind ?_ (fun _ => ?_))
      | exact ih0 _ _ _
      | exact LeO.none _
      | refine LeO.ite ?_ ?_
      | refine LeO.bind ?_ (fun _ => ?_)
theorem usufructref01_Times.mono : ∀ a0 a1 k, LeO (usufructref01_Times.f k a0 a1) (usufructref01_Times.f (k + 1) a0 a1) := by
  intro a0 a1 k
  have ih0 := usufructref01_Times.mono_l k
  unfold usufructref01_Times.f
  repeat' first
      | (with_reducible exact ih0 _ _ _)
      | (with_reducible exact LeO.refl _)
      | (with_reducible exact LeO.none _)
      | (with_reducible refine LeO.ite ?_ ?_)
      | (with_reducible refine LeO.bind ?_ (fun _ => ?_))
      | exact ih0 _ _ _
      | exact LeO.none _
      | refine LeO.ite ?_ ?_
      | refine LeO.bind ?_ (fun _ => ?_)
namespace usufructref01_Times
theorem mt_ {α β : Type} {f : α → β} {l : List α} : l.toArray.map f = (l.map f).toArray := List.map_toArray
theorem mc_ {α β : Type} {f : α → β} {a : α} {l : List α} : (a :: l).map f = f a :: l.map f := rfl
theorem mn_ {α β : Type} {f : α → β} : ([] : List α).map f = [] := rfl
abbrev zn_ := @blk_drewN
abbrev zd_ := @blk_drew
abbrev za_ := @blk_alloc
abbrev zf_ := @blk_frozen
abbrev zc_ := @blk_cell
abbrev zs_ := @below_set
abbrev zr_ := @blk_far
abbrev zp_ := @blk_put
abbrev pd_ := @pw_below_drewN
abbrev p1_ := @below_drew1
abbrev pa_ := @below_alloc
abbrev ak_ := @Aside0.mk
abbrev bl_ := @World.block_lt_of_cell?
abbrev ps_ := @below_step
def b_ (n k : Nat) : Array Bool := ((List.range n).map fun i => k.testBit i).toArray
theorem sa_ {α : Type} {l : List α} {i : Nat} {a : α} : l.toArray.setIfInBounds i a = (l.set i a).toArray := List.setIfInBounds_toArray l i a
theorem sz_ {α : Type} {a b : α} {l : List α} : (a :: l).set 0 b = b :: l := rfl
theorem ss_ {α : Type} {a b : α} {l : List α} {n : Nat} : (a :: l).set (n + 1) b = a :: l.set n b := rfl
end usufructref01_Times
open usufructref01_Times in
set_option maxHeartbeats 8000000 in
set_option maxRecDepth 100000 in
theorem usufructref01_Times.calls (k : Nat) (a0 : Int) (a1 : Int) (r : Int) (w : World) (h : usufructref01_Times.f k a0 a1 = some r) :
    Calls Try.prog 10 #[.int .i64 a0, .int .i64 a1] w fun e w' => e = .returned (.int .i64 r) ∧ Drawn0 w w' := by
  have H : ((usufructref01_Of.f a0).bind fun t121 => ((usufructref01_Of.f a1).bind fun t122 => (usufructref01_Times.l0 k t121 t122 0))) = some r := h
  clear h
  replace H := Option.bind_eq_some_iff.mp H
  obtain ⟨t121, A30, H⟩ := H
  replace H : ((usufructref01_Of.f a1).bind fun t122 => (usufructref01_Times.l0 k t121 t122 0)) = some r := H
  have A3 := ak_ A30
  clear A30
  replace H := Option.bind_eq_some_iff.mp H
  obtain ⟨t122, A40, H⟩ := H
  replace H : (usufructref01_Times.l0 k t121 t122 0) = some r := H
  have A4 := ak_ A40
  clear A40
  have H' := ak_ H
  clear H
  go_enter Try.func10, Try.ntmps10
  go_wp2_with (first | ((with_reducible refine gate_callee (f := 8) rfl ?_); refine goesL_ (some 7) rfl rfl Try.func8 (by kernel_rfl) rfl #[.int .i64 a0] rfl (by simp only [mt_, mc_, mn_] <;> rfl) ?_; (with_reducible refine (usufructref01_Of.calls a0 t121 _ A3.out).mono ?_); rintro e w' ⟨rfl, ⟨nd, rfl⟩⟩; refine ⟨_, rfl, ?_⟩) | ((with_reducible refine gate_callee (f := 8) rfl ?_); refine goesL_ (some 9) rfl rfl Try.func8 (by kernel_rfl) rfl #[.int .i64 a1] rfl (by simp only [mt_, mc_, mn_] <;> rfl) ?_; (with_reducible refine (usufructref01_Of.calls a1 t122 _ A4.out).mono ?_); rintro e w' ⟨rfl, ⟨nd, rfl⟩⟩; refine ⟨_, rfl, ?_⟩))
  go_loopg [0, 1, 5] k (fun kq v0 v1 v5 w' => ∃ (x0_1 : Int) (x1_1 : Int) (x5_1 : Int), v0 = .int .i64 x0_1 ∧ v1 = .int .i64 x1_1 ∧ v5 = .int .i64 x5_1 ∧ Aside0 (usufructref01_Times.l0 kq x0_1 x1_1 x5_1 = some r) ∧ Aside0 (kq ≤ k) ∧ Drawn0 w w')
  case atStart => exact ⟨(t121), (t122), (0), (by first | rfl | (simp; done) | (simp [*]; done)), (by first | rfl | (simp; done) | (simp [*]; done)), (by first | rfl | (simp; done) | (simp [*]; done)), H', ⟨Nat.le_refl _⟩, by repeat (first | exact Drawn0.refl _ | apply Drawn0.step)⟩
  case round =>
    clear H'
    try clear c1
    try clear p2
    obtain ⟨x0_1, x1_1, x5_1, rfl, rfl, rfl, HA, HK1, ⟨m1, rfl⟩⟩ := hrel
    cases gk with
    | zero => exact absurd HA.out (by simp [usufructref01_Times.l0])
    | succ k1 =>
      have H := HA.out
      clear HA
      simp only [usufructref01_Times.l0] at H
      by_cases c5 : x1_1 > 0
      · rw [if_pos c5] at H
        have c5b0 : decide (0 < x1_1) = true := decide_eq_true c5
        clear c5
        by_cases c6 : (Int.tmod x1_1 2) = 1
        · rw [if_pos c6] at H
          have c6b0 : ((Int.tmod x1_1 2) == 1) = true := beq_iff_eq.mpr c6
          have c6b1 : ((Int.tmod x1_1 2) != 1) = false := bne_eq_false_iff_eq.mpr c6
          clear c6
          replace H := Option.bind_eq_some_iff.mp H
          obtain ⟨t123, A70, H⟩ := H
          replace H : ((usufructref01_Add.f x0_1 x0_1).bind fun t124 => (usufructref01_Times.l0 k1 t124 (wrap64 (Int.tdiv x1_1 2)) t123)) = some r := H
          have A7 := ak_ A70
          clear A70
          replace H := Option.bind_eq_some_iff.mp H
          obtain ⟨t124, A80, H⟩ := H
          replace H : (usufructref01_Times.l0 k1 t124 (wrap64 (Int.tdiv x1_1 2)) t123) = some r := H
          have A8 := ak_ A80
          clear A80
          have H' := ak_ H
          clear H
          go_wp2_with (first | ((with_reducible refine gate_callee (f := 21) rfl ?_); refine goesL_ (some 17) rfl rfl Try.func21 (by kernel_rfl) rfl #[.int .i64 x5_1, .int .i64 x0_1] rfl (by simp only [mt_, mc_, mn_] <;> rfl) ?_; (with_reducible refine (usufructref01_Add.calls x5_1 x0_1 t123 _ A7.out).mono ?_); rintro e w' ⟨rfl, ⟨nd, rfl⟩⟩; refine ⟨_, rfl, ?_⟩) | ((with_reducible refine gate_callee (f := 21) rfl ?_); refine goesL_ (some 20) rfl rfl Try.func21 (by kernel_rfl) rfl #[.int .i64 x0_1, .int .i64 x0_1] rfl (by simp only [mt_, mc_, mn_] <;> rfl) ?_; (with_reducible refine (usufructref01_Add.calls x0_1 x0_1 t124 _ A8.out).mono ?_); rintro e w' ⟨rfl, ⟨nd, rfl⟩⟩; refine ⟨_, rfl, ?_⟩))
          go_roundg k1
          case measure => have := HK1.out; omega
          case rel => exact ⟨(t124), (wrap64 (Int.tdiv x1_1 2)), (t123), (by first | rfl | (simp; done) | (simp [*]; done)), (by first | rfl | (simp; done) | (simp [*]; done)), (by first | rfl | (simp; done) | (simp [*]; done)), H', ⟨by have := HK1.out; omega⟩, by repeat (first | exact Drawn0.refl _ | apply Drawn0.step)⟩
        rw [if_neg c6] at H
        have c6b0 : ((Int.tmod x1_1 2) == 1) = false := beq_eq_false_iff_ne.mpr c6
        have c6b1 : ((Int.tmod x1_1 2) != 1) = true := bne_iff_ne.mpr c6
        replace H := Option.bind_eq_some_iff.mp H
        obtain ⟨t125, A90, H⟩ := H
        replace H : (usufructref01_Times.l0 k1 t125 (wrap64 (Int.tdiv x1_1 2)) x5_1) = some r := H
        have A9 := ak_ A90
        clear A90
        have H' := ak_ H
        clear H
        go_wp2_with (first | ((with_reducible refine gate_callee (f := 21) rfl ?_); refine goesL_ (some 20) rfl rfl Try.func21 (by kernel_rfl) rfl #[.int .i64 x0_1, .int .i64 x0_1] rfl (by simp only [mt_, mc_, mn_] <;> rfl) ?_; (with_reducible refine (usufructref01_Add.calls x0_1 x0_1 t125 _ A9.out).mono ?_); rintro e w' ⟨rfl, ⟨nd, rfl⟩⟩; refine ⟨_, rfl, ?_⟩))
        go_roundg k1
        case measure => have := HK1.out; omega
        case rel => exact ⟨(t125), (wrap64 (Int.tdiv x1_1 2)), (x5_1), (by first | rfl | (simp; done) | (simp [*]; done)), (by first | rfl | (simp; done) | (simp [*]; done)), (by first | rfl | (simp; done) | (simp [*]; done)), H', ⟨by have := HK1.out; omega⟩, by repeat (first | exact Drawn0.refl _ | apply Drawn0.step)⟩
      rw [if_neg c5] at H
      have c5b0 : decide (0 < x1_1) = false := decide_eq_false c5
      clear c5
      obtain rfl := Option.some.inj H
      go_wp2
      go_ret
      exact ⟨by first | rfl | (simp; done) | (simp [*]; done), by repeat (first | exact Drawn0.refl _ | apply Drawn0.step)⟩

end Go.Proofs.Ytookpfpmobbhiaa.Q
