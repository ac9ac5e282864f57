-- written for this claim by a program of the session
import Derived.Test.YtcgpbakimkhdpaaQx0
import Derived.Test.YtcgpbakimkhdpaaQx13
import Derived.Test.YtcgpbakimkhdpaaQx14
namespace Go.Proofs.Ytcgpbakimkhdpaa.Q
open Go.RowKit Go.Proofs.YtcgpbakimkhdpaaW.PrintWords Go.Proofs.YtcgpbakimkhdpaaW.PrintLast Go.Proofs.YtcgpbakimkhdpaaW.PrintMore
attribute [local go_sem] max2_int min2_int max_two min_two max_three min_three max_four min_four   -- for this text's walks alone
set_option linter.unusedVariables false
set_option linter.unusedSimpArgs false

/-! ### usufructref15_Saga: function 8 -/
def usufructref15_Saga.f (k : Nat) (a0_0 : Int) (a0_1 : ByteArray) (a0_2 : Int) (a0_3 : Int) (a0_4 : Int) (a0_5 : Int) (a0_6 : Bool) (a0_7 : Int) (a0_8 : Int) : Option (ByteArray) := (usufructref04_Num.f k a0_0).bind fun t285 => ((usufructref15_text.f k a0_1).bind fun t286 => (if t285.size + t286.size ≤ 9223372036854775807 then ((usufructref04_Num.f k a0_2).bind fun t287 => (if (t285 ++ t286).size + t287.size ≤ 9223372036854775807 then ((usufructref04_Num.f k a0_3).bind fun t288 => (if ((t285 ++ t286) ++ t287).size + t288.size ≤ 9223372036854775807 then ((usufructref04_Num.f k a0_4).bind fun t289 => (if (((t285 ++ t286) ++ t287) ++ t288).size + t289.size ≤ 9223372036854775807 then ((usufructref04_Num.f k a0_5).bind fun t290 => (if ((((t285 ++ t286) ++ t287) ++ t288) ++ t289).size + t290.size ≤ 9223372036854775807 then ((usufructref15_flag.f a0_6).bind fun t291 => (if (((((t285 ++ t286) ++ t287) ++ t288) ++ t289) ++ t290).size + t291.size ≤ 9223372036854775807 then ((usufructref04_Num.f k a0_7).bind fun t292 => (if ((((((t285 ++ t286) ++ t287) ++ t288) ++ t289) ++ t290) ++ t291).size + t292.size ≤ 9223372036854775807 then ((usufructref04_Num.f k a0_8).bind fun t293 => (if (((((((t285 ++ t286) ++ t287) ++ t288) ++ t289) ++ t290) ++ t291) ++ t292).size + t293.size ≤ 9223372036854775807 then (some ((((((((t285 ++ t286) ++ t287) ++ t288) ++ t289) ++ t290) ++ t291) ++ t292) ++ t293)) else (none))) else (none))) else (none))) else (none))) else (none))) else (none))) else (none))) else (none)))
theorem usufructref15_Saga.mono : ∀ a0 a1 a2 a3 a4 a5 a6 a7 a8 k, LeO (usufructref15_Saga.f k a0 a1 a2 a3 a4 a5 a6 a7 a8) (usufructref15_Saga.f (k + 1) a0 a1 a2 a3 a4 a5 a6 a7 a8) := by
  intro a0 a1 a2 a3 a4 a5 a6 a7 a8 k
  unfold usufructref15_Saga.f
  repeat' first
      | (with_reducible exact usufructref04_Num.mono _ _)
      | (with_reducible exact usufructref15_text.mono _ _)
      | (with_reducible exact LeO.refl _)
      | (with_reducible exact LeO.none _)
      | (with_reducible refine LeO.ite ?_ ?_)
      | (with_reducible refine LeO.bind ?_ (fun _ => ?_))
      | exact usufructref04_Num.mono _ _
      | exact usufructref15_text.mono _ _
      | exact LeO.none _
      | refine LeO.ite ?_ ?_
      | refine LeO.bind ?_ (fun _ => ?_)
def usufructref15_Saga.T1 : Bool × List (List Nat × List Nat) := (true, [([], []), ([0], [0]), ([1], [1]), ([], []), ([3], [3]), ([4, 2], [4]), ([2, 5], [2, 5]), ([], []), ([7], [7]), ([8, 5], [8]), ([6, 9], [6, 9]), ([], []), ([11], [11]), ([12, 9], [12]), ([10, 13], [10, 13]), ([], []), ([15], [15]), ([16, 13], [16]), ([14, 17], [14, 17]), ([], []), ([19], [19]), ([20, 17], [20]), ([18, 21], [18, 21]), ([], []), ([23], [23]), ([24, 21], [24]), ([22, 25], [22, 25]), ([], []), ([27], [27]), ([28, 25], [28]), ([26, 29], [26, 29]), ([], []), ([31], [31]), ([32, 29], [32]), ([30, 33], [30, 33]), ([34, 33, 0, 1, 2, 3, 4, 5, 6, 7, 8, 9, 10, 11, 12, 13, 14, 15, 16, 17, 18, 19, 20, 21, 22, 23, 24, 25, 26, 27, 28, 29, 30, 31, 32, 33, 34], [34])])
def usufructref15_Saga.B1 : List Nat := [0, 1, 3, 0, 8, 31, 63, 0, 128, 447, 1023, 0, 2048, 7103, 16383, 0, 32768, 113599, 262143, 0, 524288, 1817535, 4194303, 0, 8388608, 29080511, 67108863, 0, 134217728, 465288127, 1073741823, 0, 2147483648, 7444609983, 17179869183, 34359738367]
theorem usufructref15_Saga.tab1 : rtab .any (opsOf Try.f8 1) = usufructref15_Saga.T1 := by kernel_rfl
theorem usufructref15_Saga.bits1 : waitsOk usufructref15_Saga.T1.2 usufructref15_Saga.B1 = true := by kernel_rfl
namespace usufructref15_Saga
theorem mt_ {α β : Type} {f : α → β} {l : List α} : l.toArray.map f = (l.map f).toArray := List.map_toArray
theorem mc_ {α β : Type} {f : α → β} {a : α} {l : List α} : (a :: l).map f = f a :: l.map f := rfl
theorem mn_ {α β : Type} {f : α → β} : ([] : List α).map f = [] := rfl
abbrev zn_ := @blk_drewN
abbrev zd_ := @blk_drew
abbrev za_ := @blk_alloc
abbrev zf_ := @blk_frozen
abbrev zc_ := @blk_cell
abbrev zs_ := @below_set
abbrev zr_ := @blk_far
abbrev zp_ := @blk_put
abbrev pd_ := @pw_below_drewN
abbrev p1_ := @below_drew1
abbrev pa_ := @below_alloc
abbrev ak_ := @Aside0.mk
abbrev bl_ := @World.block_lt_of_cell?
abbrev ps_ := @below_step
def b_ (n k : Nat) : Array Bool := ((List.range n).map fun i => k.testBit i).toArray
theorem sa_ {α : Type} {l : List α} {i : Nat} {a : α} : l.toArray.setIfInBounds i a = (l.set i a).toArray := List.setIfInBounds_toArray l i a
theorem sz_ {α : Type} {a b : α} {l : List α} : (a :: l).set 0 b = b :: l := rfl
theorem ss_ {α : Type} {a b : α} {l : List α} {n : Nat} : (a :: l).set (n + 1) b = a :: l.set n b := rfl
end usufructref15_Saga
open usufructref15_Saga in
set_option maxHeartbeats 8000000 in
set_option maxRecDepth 100000 in
theorem usufructref15_Saga.calls (k : Nat) (a0_0 : Int) (a0_1 : ByteArray) (a0_2 : Int) (a0_3 : Int) (a0_4 : Int) (a0_5 : Int) (a0_6 : Bool) (a0_7 : Int) (a0_8 : Int) (r : ByteArray) (w : World) (h : usufructref15_Saga.f k a0_0 a0_1 a0_2 a0_3 a0_4 a0_5 a0_6 a0_7 a0_8 = some r) :
    Calls Try.prog 8 #[.agg #[.int .i64 a0_0, .string a0_1, .int .i64 a0_2, .int .i64 a0_3, .int .i64 a0_4, .int .i64 a0_5, .bool a0_6, .int .i64 a0_7, .int .i64 a0_8]] w fun e w' => e = .returned (.string r) ∧ Below w.heap.size w w' := by
  have hu23 := Try.underlying23
  have HB := ak_ (Below.refl w.heap.size w)
  have H : ((usufructref04_Num.f k a0_0).bind fun t285 => ((usufructref15_text.f k a0_1).bind fun t286 => (if t285.size + t286.size ≤ 9223372036854775807 then ((usufructref04_Num.f k a0_2).bind fun t287 => (if (t285 ++ t286).size + t287.size ≤ 9223372036854775807 then ((usufructref04_Num.f k a0_3).bind fun t288 => (if ((t285 ++ t286) ++ t287).size + t288.size ≤ 9223372036854775807 then ((usufructref04_Num.f k a0_4).bind fun t289 => (if (((t285 ++ t286) ++ t287) ++ t288).size + t289.size ≤ 9223372036854775807 then ((usufructref04_Num.f k a0_5).bind fun t290 => (if ((((t285 ++ t286) ++ t287) ++ t288) ++ t289).size + t290.size ≤ 9223372036854775807 then ((usufructref15_flag.f a0_6).bind fun t291 => (if (((((t285 ++ t286) ++ t287) ++ t288) ++ t289) ++ t290).size + t291.size ≤ 9223372036854775807 then ((usufructref04_Num.f k a0_7).bind fun t292 => (if ((((((t285 ++ t286) ++ t287) ++ t288) ++ t289) ++ t290) ++ t291).size + t292.size ≤ 9223372036854775807 then ((usufructref04_Num.f k a0_8).bind fun t293 => (if (((((((t285 ++ t286) ++ t287) ++ t288) ++ t289) ++ t290) ++ t291) ++ t292).size + t293.size ≤ 9223372036854775807 then (some ((((((((t285 ++ t286) ++ t287) ++ t288) ++ t289) ++ t290) ++ t291) ++ t292) ++ t293)) else (none))) else (none))) else (none))) else (none))) else (none))) else (none))) else (none))) else (none)))) = some r := h
  clear h
  replace H := Option.bind_eq_some_iff.mp H
  obtain ⟨t285, A20, H⟩ := H
  replace H : ((usufructref15_text.f k a0_1).bind fun t286 => (if t285.size + t286.size ≤ 9223372036854775807 then ((usufructref04_Num.f k a0_2).bind fun t287 => (if (t285 ++ t286).size + t287.size ≤ 9223372036854775807 then ((usufructref04_Num.f k a0_3).bind fun t288 => (if ((t285 ++ t286) ++ t287).size + t288.size ≤ 9223372036854775807 then ((usufructref04_Num.f k a0_4).bind fun t289 => (if (((t285 ++ t286) ++ t287) ++ t288).size + t289.size ≤ 9223372036854775807 then ((usufructref04_Num.f k a0_5).bind fun t290 => (if ((((t285 ++ t286) ++ t287) ++ t288) ++ t289).size + t290.size ≤ 9223372036854775807 then ((usufructref15_flag.f a0_6).bind fun t291 => (if (((((t285 ++ t286) ++ t287) ++ t288) ++ t289) ++ t290).size + t291.size ≤ 9223372036854775807 then ((usufructref04_Num.f k a0_7).bind fun t292 => (if ((((((t285 ++ t286) ++ t287) ++ t288) ++ t289) ++ t290) ++ t291).size + t292.size ≤ 9223372036854775807 then ((usufructref04_Num.f k a0_8).bind fun t293 => (if (((((((t285 ++ t286) ++ t287) ++ t288) ++ t289) ++ t290) ++ t291) ++ t292).size + t293.size ≤ 9223372036854775807 then (some ((((((((t285 ++ t286) ++ t287) ++ t288) ++ t289) ++ t290) ++ t291) ++ t292) ++ t293)) else (none))) else (none))) else (none))) else (none))) else (none))) else (none))) else (none))) else (none))) = some r := H
  have A2 := ak_ A20
  clear A20
  replace H := Option.bind_eq_some_iff.mp H
  obtain ⟨t286, A30, H⟩ := H
  replace H : (if t285.size + t286.size ≤ 9223372036854775807 then ((usufructref04_Num.f k a0_2).bind fun t287 => (if (t285 ++ t286).size + t287.size ≤ 9223372036854775807 then ((usufructref04_Num.f k a0_3).bind fun t288 => (if ((t285 ++ t286) ++ t287).size + t288.size ≤ 9223372036854775807 then ((usufructref04_Num.f k a0_4).bind fun t289 => (if (((t285 ++ t286) ++ t287) ++ t288).size + t289.size ≤ 9223372036854775807 then ((usufructref04_Num.f k a0_5).bind fun t290 => (if ((((t285 ++ t286) ++ t287) ++ t288) ++ t289).size + t290.size ≤ 9223372036854775807 then ((usufructref15_flag.f a0_6).bind fun t291 => (if (((((t285 ++ t286) ++ t287) ++ t288) ++ t289) ++ t290).size + t291.size ≤ 9223372036854775807 then ((usufructref04_Num.f k a0_7).bind fun t292 => (if ((((((t285 ++ t286) ++ t287) ++ t288) ++ t289) ++ t290) ++ t291).size + t292.size ≤ 9223372036854775807 then ((usufructref04_Num.f k a0_8).bind fun t293 => (if (((((((t285 ++ t286) ++ t287) ++ t288) ++ t289) ++ t290) ++ t291) ++ t292).size + t293.size ≤ 9223372036854775807 then (some ((((((((t285 ++ t286) ++ t287) ++ t288) ++ t289) ++ t290) ++ t291) ++ t292) ++ t293)) else (none))) else (none))) else (none))) else (none))) else (none))) else (none))) else (none))) else (none)) = some r := H
  have A3 := ak_ A30
  clear A30
  by_cases c4 : t285.size + t286.size ≤ 9223372036854775807
  · rw [if_pos c4] at H
    have c4b0 := eq_true c4
    have c4b1 : decide (t285.size + t286.size ≤ 9223372036854775807) = true := decide_eq_true c4
    try have c4b2 : (9223372036854775807 < t285.size + t286.size) = False := eq_false (Nat.not_lt.2 c4)
    replace H := Option.bind_eq_some_iff.mp H
    obtain ⟨t287, A50, H⟩ := H
    replace H : (if (t285 ++ t286).size + t287.size ≤ 9223372036854775807 then ((usufructref04_Num.f k a0_3).bind fun t288 => (if ((t285 ++ t286) ++ t287).size + t288.size ≤ 9223372036854775807 then ((usufructref04_Num.f k a0_4).bind fun t289 => (if (((t285 ++ t286) ++ t287) ++ t288).size + t289.size ≤ 9223372036854775807 then ((usufructref04_Num.f k a0_5).bind fun t290 => (if ((((t285 ++ t286) ++ t287) ++ t288) ++ t289).size + t290.size ≤ 9223372036854775807 then ((usufructref15_flag.f a0_6).bind fun t291 => (if (((((t285 ++ t286) ++ t287) ++ t288) ++ t289) ++ t290).size + t291.size ≤ 9223372036854775807 then ((usufructref04_Num.f k a0_7).bind fun t292 => (if ((((((t285 ++ t286) ++ t287) ++ t288) ++ t289) ++ t290) ++ t291).size + t292.size ≤ 9223372036854775807 then ((usufructref04_Num.f k a0_8).bind fun t293 => (if (((((((t285 ++ t286) ++ t287) ++ t288) ++ t289) ++ t290) ++ t291) ++ t292).size + t293.size ≤ 9223372036854775807 then (some ((((((((t285 ++ t286) ++ t287) ++ t288) ++ t289) ++ t290) ++ t291) ++ t292) ++ t293)) else (none))) else (none))) else (none))) else (none))) else (none))) else (none))) else (none)) = some r := H
    have A5 := ak_ A50
    clear A50
    by_cases c6 : (t285 ++ t286).size + t287.size ≤ 9223372036854775807
    · rw [if_pos c6] at H
      have c6b0 := eq_true c6
      have c6b1 : decide ((t285 ++ t286).size + t287.size ≤ 9223372036854775807) = true := decide_eq_true c6
      try have c6b2 : (9223372036854775807 < (t285 ++ t286).size + t287.size) = False := eq_false (Nat.not_lt.2 c6)
      try have c6b3 := c6b2
      try simp only [ByteArray.size_append] at c6b3
      replace H := Option.bind_eq_some_iff.mp H
      obtain ⟨t288, A70, H⟩ := H
      replace H : (if ((t285 ++ t286) ++ t287).size + t288.size ≤ 9223372036854775807 then ((usufructref04_Num.f k a0_4).bind fun t289 => (if (((t285 ++ t286) ++ t287) ++ t288).size + t289.size ≤ 9223372036854775807 then ((usufructref04_Num.f k a0_5).bind fun t290 => (if ((((t285 ++ t286) ++ t287) ++ t288) ++ t289).size + t290.size ≤ 9223372036854775807 then ((usufructref15_flag.f a0_6).bind fun t291 => (if (((((t285 ++ t286) ++ t287) ++ t288) ++ t289) ++ t290).size + t291.size ≤ 9223372036854775807 then ((usufructref04_Num.f k a0_7).bind fun t292 => (if ((((((t285 ++ t286) ++ t287) ++ t288) ++ t289) ++ t290) ++ t291).size + t292.size ≤ 9223372036854775807 then ((usufructref04_Num.f k a0_8).bind fun t293 => (if (((((((t285 ++ t286) ++ t287) ++ t288) ++ t289) ++ t290) ++ t291) ++ t292).size + t293.size ≤ 9223372036854775807 then (some ((((((((t285 ++ t286) ++ t287) ++ t288) ++ t289) ++ t290) ++ t291) ++ t292) ++ t293)) else (none))) else (none))) else (none))) else (none))) else (none))) else (none)) = some r := H
      have A7 := ak_ A70
      clear A70
      by_cases c8 : ((t285 ++ t286) ++ t287).size + t288.size ≤ 9223372036854775807
      · rw [if_pos c8] at H
        have c8b0 := eq_true c8
        have c8b1 : decide (((t285 ++ t286) ++ t287).size + t288.size ≤ 9223372036854775807) = true := decide_eq_true c8
        try have c8b2 : (9223372036854775807 < ((t285 ++ t286) ++ t287).size + t288.size) = False := eq_false (Nat.not_lt.2 c8)
        try have c8b3 := c8b2
        try simp only [ByteArray.size_append] at c8b3
        replace H := Option.bind_eq_some_iff.mp H
        obtain ⟨t289, A90, H⟩ := H
        replace H : (if (((t285 ++ t286) ++ t287) ++ t288).size + t289.size ≤ 9223372036854775807 then ((usufructref04_Num.f k a0_5).bind fun t290 => (if ((((t285 ++ t286) ++ t287) ++ t288) ++ t289).size + t290.size ≤ 9223372036854775807 then ((usufructref15_flag.f a0_6).bind fun t291 => (if (((((t285 ++ t286) ++ t287) ++ t288) ++ t289) ++ t290).size + t291.size ≤ 9223372036854775807 then ((usufructref04_Num.f k a0_7).bind fun t292 => (if ((((((t285 ++ t286) ++ t287) ++ t288) ++ t289) ++ t290) ++ t291).size + t292.size ≤ 9223372036854775807 then ((usufructref04_Num.f k a0_8).bind fun t293 => (if (((((((t285 ++ t286) ++ t287) ++ t288) ++ t289) ++ t290) ++ t291) ++ t292).size + t293.size ≤ 9223372036854775807 then (some ((((((((t285 ++ t286) ++ t287) ++ t288) ++ t289) ++ t290) ++ t291) ++ t292) ++ t293)) else (none))) else (none))) else (none))) else (none))) else (none)) = some r := H
        have A9 := ak_ A90
        clear A90
        by_cases c10 : (((t285 ++ t286) ++ t287) ++ t288).size + t289.size ≤ 9223372036854775807
        · rw [if_pos c10] at H
          have c10b0 := eq_true c10
          have c10b1 : decide ((((t285 ++ t286) ++ t287) ++ t288).size + t289.size ≤ 9223372036854775807) = true := decide_eq_true c10
          try have c10b2 : (9223372036854775807 < (((t285 ++ t286) ++ t287) ++ t288).size + t289.size) = False := eq_false (Nat.not_lt.2 c10)
          try have c10b3 := c10b2
          try simp only [ByteArray.size_append] at c10b3
          replace H := Option.bind_eq_some_iff.mp H
          obtain ⟨t290, A110, H⟩ := H
          replace H : (if ((((t285 ++ t286) ++ t287) ++ t288) ++ t289).size + t290.size ≤ 9223372036854775807 then ((usufructref15_flag.f a0_6).bind fun t291 => (if (((((t285 ++ t286) ++ t287) ++ t288) ++ t289) ++ t290).size + t291.size ≤ 9223372036854775807 then ((usufructref04_Num.f k a0_7).bind fun t292 => (if ((((((t285 ++ t286) ++ t287) ++ t288) ++ t289) ++ t290) ++ t291).size + t292.size ≤ 9223372036854775807 then ((usufructref04_Num.f k a0_8).bind fun t293 => (if (((((((t285 ++ t286) ++ t287) ++ t288) ++ t289) ++ t290) ++ t291) ++ t292).size + t293.size ≤ 9223372036854775807 then (some ((((((((t285 ++ t286) ++ t287) ++ t288) ++ t289) ++ t290) ++ t291) ++ t292) ++ t293)) else (none))) else (none))) else (none))) else (none)) = some r := H
          have A11 := ak_ A110
          clear A110
          by_cases c12 : ((((t285 ++ t286) ++ t287) ++ t288) ++ t289).size + t290.size ≤ 9223372036854775807
          · rw [if_pos c12] at H
            have c12b0 := eq_true c12
            have c12b1 : decide (((((t285 ++ t286) ++ t287) ++ t288) ++ t289).size + t290.size ≤ 9223372036854775807) = true := decide_eq_true c12
            try have c12b2 : (9223372036854775807 < ((((t285 ++ t286) ++ t287) ++ t288) ++ t289).size + t290.size) = False := eq_false (Nat.not_lt.2 c12)
            try have c12b3 := c12b2
            try simp only [ByteArray.size_append] at c12b3
            replace H := Option.bind_eq_some_iff.mp H
            obtain ⟨t291, A130, H⟩ := H
            replace H : (if (((((t285 ++ t286) ++ t287) ++ t288) ++ t289) ++ t290).size + t291.size ≤ 9223372036854775807 then ((usufructref04_Num.f k a0_7).bind fun t292 => (if ((((((t285 ++ t286) ++ t287) ++ t288) ++ t289) ++ t290) ++ t291).size + t292.size ≤ 9223372036854775807 then ((usufructref04_Num.f k a0_8).bind fun t293 => (if (((((((t285 ++ t286) ++ t287) ++ t288) ++ t289) ++ t290) ++ t291) ++ t292).size + t293.size ≤ 9223372036854775807 then (some ((((((((t285 ++ t286) ++ t287) ++ t288) ++ t289) ++ t290) ++ t291) ++ t292) ++ t293)) else (none))) else (none))) else (none)) = some r := H
            have A13 := ak_ A130
            clear A130
            by_cases c14 : (((((t285 ++ t286) ++ t287) ++ t288) ++ t289) ++ t290).size + t291.size ≤ 9223372036854775807
            · rw [if_pos c14] at H
              have c14b0 := eq_true c14
              have c14b1 : decide ((((((t285 ++ t286) ++ t287) ++ t288) ++ t289) ++ t290).size + t291.size ≤ 9223372036854775807) = true := decide_eq_true c14
              try have c14b2 : (9223372036854775807 < (((((t285 ++ t286) ++ t287) ++ t288) ++ t289) ++ t290).size + t291.size) = False := eq_false (Nat.not_lt.2 c14)
              try have c14b3 := c14b2
              try simp only [ByteArray.size_append] at c14b3
              replace H := Option.bind_eq_some_iff.mp H
              obtain ⟨t292, A150, H⟩ := H
              replace H : (if ((((((t285 ++ t286) ++ t287) ++ t288) ++ t289) ++ t290) ++ t291).size + t292.size ≤ 9223372036854775807 then ((usufructref04_Num.f k a0_8).bind fun t293 => (if (((((((t285 ++ t286) ++ t287) ++ t288) ++ t289) ++ t290) ++ t291) ++ t292).size + t293.size ≤ 9223372036854775807 then (some ((((((((t285 ++ t286) ++ t287) ++ t288) ++ t289) ++ t290) ++ t291) ++ t292) ++ t293)) else (none))) else (none)) = some r := H
              have A15 := ak_ A150
              clear A150
              by_cases c16 : ((((((t285 ++ t286) ++ t287) ++ t288) ++ t289) ++ t290) ++ t291).size + t292.size ≤ 9223372036854775807
              · rw [if_pos c16] at H
                have c16b0 := eq_true c16
                have c16b1 : decide (((((((t285 ++ t286) ++ t287) ++ t288) ++ t289) ++ t290) ++ t291).size + t292.size ≤ 9223372036854775807) = true := decide_eq_true c16
                try have c16b2 : (9223372036854775807 < ((((((t285 ++ t286) ++ t287) ++ t288) ++ t289) ++ t290) ++ t291).size + t292.size) = False := eq_false (Nat.not_lt.2 c16)
                try have c16b3 := c16b2
                try simp only [ByteArray.size_append] at c16b3
                replace H := Option.bind_eq_some_iff.mp H
                obtain ⟨t293, A170, H⟩ := H
                replace H : (if (((((((t285 ++ t286) ++ t287) ++ t288) ++ t289) ++ t290) ++ t291) ++ t292).size + t293.size ≤ 9223372036854775807 then (some ((((((((t285 ++ t286) ++ t287) ++ t288) ++ t289) ++ t290) ++ t291) ++ t292) ++ t293)) else (none)) = some r := H
                have A17 := ak_ A170
                clear A170
                by_cases c18 : (((((((t285 ++ t286) ++ t287) ++ t288) ++ t289) ++ t290) ++ t291) ++ t292).size + t293.size ≤ 9223372036854775807
                · rw [if_pos c18] at H
                  have c18b0 := eq_true c18
                  have c18b1 : decide ((((((((t285 ++ t286) ++ t287) ++ t288) ++ t289) ++ t290) ++ t291) ++ t292).size + t293.size ≤ 9223372036854775807) = true := decide_eq_true c18
                  try have c18b2 : (9223372036854775807 < (((((((t285 ++ t286) ++ t287) ++ t288) ++ t289) ++ t290) ++ t291) ++ t292).size + t293.size) = False := eq_false (Nat.not_lt.2 c18)
                  try have c18b3 := c18b2
                  try simp only [ByteArray.size_append] at c18b3
                  obtain rfl := Option.some.inj H
                  go_enter Try.func8, Try.ntmps8
                  try go_wp2_with (first | ((with_reducible refine gate_dst (N := 1) rfl ?_); refine box_event ?hg (N := 1) ?hd (cs := #[.int .i64 a0_0, .string a0_1, .int .i64 a0_2, .int .i64 a0_3, .int .i64 a0_4, .int .i64 a0_5, .bool a0_6, .int .i64 a0_7, .int .i64 a0_8]) (t := 23) ?hr ?_; (case hd => rfl); (case hg => rfl); (case hr => first | (go_simp; done) | (go_simp; rfl)); intro gb284 hg w19 hbox hb; have n0_ := ak_ (ps_ (by repeat (first | (with_reducible first | exact HB.out | apply pa_ | apply pd_ | apply p1_) | exact HB.out)) hb); have n1_ := ak_ (hbox); have n2_ := ak_ ((by rw [hg]; exact (below_size (by repeat (first | (with_reducible first | exact HB.out | apply pa_ | apply pd_ | apply p1_) | exact HB.out))) : w.heap.size ≤ gb284)); have n3_ := ak_ ((by rw [hg]; exact (below_size (by repeat (first | (with_reducible first | exact HB.out | apply pa_ | apply pd_ | apply p1_) | exact HB.out))) : w.heap.size ≤ gb284)); clear HB; have HB := n0_; have BK284 := n1_; have GW284 := n2_; have GE284 := n3_; clear n0_ n1_ n2_ n3_; clear hb hbox hg))
                  have n0_ := ak_ (zd_ BK284.out)
                  have n1_ := ak_ (p1_ HB.out)
                  clear BK284
                  clear HB
                  have BK284 := n0_
                  have HB := n1_
                  clear n0_ n1_
                  refine start_ (n := 36) (S := fun w' => w'.cell? ⟨gb284, 0, none⟩ = some (.int .i64 a0_0) ∧ w'.cell? ⟨gb284, 1, none⟩ = some (.string a0_1) ∧ w'.cell? ⟨gb284, 2, none⟩ = some (.int .i64 a0_2) ∧ w'.cell? ⟨gb284, 3, none⟩ = some (.int .i64 a0_3) ∧ w'.cell? ⟨gb284, 4, none⟩ = some (.int .i64 a0_4) ∧ w'.cell? ⟨gb284, 5, none⟩ = some (.int .i64 a0_5) ∧ w'.cell? ⟨gb284, 6, none⟩ = some (.bool a0_6) ∧ w'.cell? ⟨gb284, 7, none⟩ = some (.int .i64 a0_7) ∧ w'.cell? ⟨gb284, 8, none⟩ = some (.int .i64 a0_8)) (ds := []) #[false, false, false, false, false, false, false, false, false, false, false, false, false, false, false, false, false, false, false, false, false, false, false, false, false, false, false, false, false, false, false, false, false, false, false, false] (by kernel_rfl) rfl rfl ⟨(zc_ BK284.out 0).trans rfl, (zc_ BK284.out 1).trans rfl, (zc_ BK284.out 2).trans rfl, (zc_ BK284.out 3).trans rfl, (zc_ BK284.out 4).trans rfl, (zc_ BK284.out 5).trans rfl, (zc_ BK284.out 6).trans rfl, (zc_ BK284.out 7).trans rfl, (zc_ BK284.out 8).trans rfl⟩ (fun hHeld => ?_); refine with_tabW usufructref15_Saga.tab1 usufructref15_Saga.bits1 (fun HT_ HW_ => ?_)
                  generalize w19.drew = w20 at BK284 HB hHeld ⊢
                  refine pure_ (i := 0) (N := some 3) (v := ?_) (a' := ?_) (b_ 36 1) rfl rfl (any_of HT_.out (by kernel_rfl)) (fun _ _ _ h => h) (Or.inl ⟨by rfl, ?_⟩) ?_ ?_; rotate_left; (· intro w'; go_simp; with_reducible rfl); rotate_left; (· simp only [Act.put, sa_, sz_, ss_, i64_w, i32_w]; rfl)
                  refine pure_ (i := 3) (N := some 6) (v := ?_) (a' := ?_) (b_ 36 9) rfl rfl (any_of HT_.out (by kernel_rfl)) (fun _ _ _ h => h) (Or.inl ⟨by rfl, ?_⟩) ?_ ?_; rotate_left; (· intro w'; go_simp; with_reducible rfl); rotate_left; (· simp only [Act.put, sa_, sz_, ss_, i64_w, i32_w]; rfl)
                  refine pure_ (i := 7) (N := some 10) (v := ?_) (a' := ?_) (b_ 36 137) rfl rfl (any_of HT_.out (by kernel_rfl)) (fun _ _ _ h => h) (Or.inl ⟨by rfl, ?_⟩) ?_ ?_; rotate_left; (· intro w'; go_simp; with_reducible rfl); rotate_left; (· simp only [Act.put, sa_, sz_, ss_, i64_w, i32_w]; rfl)
                  refine pure_ (i := 11) (N := some 14) (v := ?_) (a' := ?_) (b_ 36 2185) rfl rfl (any_of HT_.out (by kernel_rfl)) (fun _ _ _ h => h) (Or.inl ⟨by rfl, ?_⟩) ?_ ?_; rotate_left; (· intro w'; go_simp; with_reducible rfl); rotate_left; (· simp only [Act.put, sa_, sz_, ss_, i64_w, i32_w]; rfl)
                  refine pure_ (i := 15) (N := some 18) (v := ?_) (a' := ?_) (b_ 36 34953) rfl rfl (any_of HT_.out (by kernel_rfl)) (fun _ _ _ h => h) (Or.inl ⟨by rfl, ?_⟩) ?_ ?_; rotate_left; (· intro w'; go_simp; with_reducible rfl); rotate_left; (· simp only [Act.put, sa_, sz_, ss_, i64_w, i32_w]; rfl)
                  refine pure_ (i := 19) (N := some 22) (v := ?_) (a' := ?_) (b_ 36 559241) rfl rfl (any_of HT_.out (by kernel_rfl)) (fun _ _ _ h => h) (Or.inl ⟨by rfl, ?_⟩) ?_ ?_; rotate_left; (· intro w'; go_simp; with_reducible rfl); rotate_left; (· simp only [Act.put, sa_, sz_, ss_, i64_w, i32_w]; rfl)
                  refine pure_ (i := 23) (N := some 26) (v := ?_) (a' := ?_) (b_ 36 8947849) rfl rfl (any_of HT_.out (by kernel_rfl)) (fun _ _ _ h => h) (Or.inl ⟨by rfl, ?_⟩) ?_ ?_; rotate_left; (· intro w'; go_simp; with_reducible rfl); rotate_left; (· simp only [Act.put, sa_, sz_, ss_, i64_w, i32_w]; rfl)
                  refine pure_ (i := 27) (N := some 30) (v := ?_) (a' := ?_) (b_ 36 143165577) rfl rfl (any_of HT_.out (by kernel_rfl)) (fun _ _ _ h => h) (Or.inl ⟨by rfl, ?_⟩) ?_ ?_; rotate_left; (· intro w'; go_simp; with_reducible rfl); rotate_left; (· simp only [Act.put, sa_, sz_, ss_, i64_w, i32_w]; rfl)
                  refine pure_ (i := 31) (N := some 34) (v := ?_) (a' := ?_) (b_ 36 2290649225) rfl rfl (any_of HT_.out (by kernel_rfl)) (fun _ _ _ h => h) (Or.inl ⟨by rfl, ?_⟩) ?_ ?_; rotate_left; (· intro w'; go_simp; with_reducible rfl); rotate_left; (· simp only [Act.put, sa_, sz_, ss_, i64_w, i32_w]; rfl)
                  refine take_ (i := 1) (N := some 4) (v := ?_) (a' := ?_) (b_ 36 2290649227) rfl rfl (take_ofW HT_.out HW_.out (by kernel_rfl)) (fun _ _ _ h => h) (Or.inl ⟨by rfl, ?_⟩) hHeld ?_ ?_
                  rotate_left
                  · rintro w' ⟨s0, s1, s2, s3, s4, s5, s6, s7, s8⟩
                    go_simp
                    with_reducible rfl
                  rotate_left
                  · simp only [Act.put, sa_, sz_, ss_, i64_w, i32_w]
                    rfl
                  refine take_ (i := 4) (N := some 7) (v := ?_) (a' := ?_) (b_ 36 2290649243) rfl rfl (take_ofW HT_.out HW_.out (by kernel_rfl)) (fun _ _ _ h => h) (Or.inl ⟨by rfl, ?_⟩) hHeld ?_ ?_
                  rotate_left
                  · rintro w' ⟨s0, s1, s2, s3, s4, s5, s6, s7, s8⟩
                    go_simp
                    with_reducible rfl
                  rotate_left
                  · simp only [Act.put, sa_, sz_, ss_, i64_w, i32_w]
                    rfl
                  refine take_ (i := 8) (N := some 11) (v := ?_) (a' := ?_) (b_ 36 2290649499) rfl rfl (take_ofW HT_.out HW_.out (by kernel_rfl)) (fun _ _ _ h => h) (Or.inl ⟨by rfl, ?_⟩) hHeld ?_ ?_
                  rotate_left
                  · rintro w' ⟨s0, s1, s2, s3, s4, s5, s6, s7, s8⟩
                    go_simp
                    with_reducible rfl
                  rotate_left
                  · simp only [Act.put, sa_, sz_, ss_, i64_w, i32_w]
                    rfl
                  refine take_ (i := 12) (N := some 15) (v := ?_) (a' := ?_) (b_ 36 2290653595) rfl rfl (take_ofW HT_.out HW_.out (by kernel_rfl)) (fun _ _ _ h => h) (Or.inl ⟨by rfl, ?_⟩) hHeld ?_ ?_
                  rotate_left
                  · rintro w' ⟨s0, s1, s2, s3, s4, s5, s6, s7, s8⟩
                    go_simp
                    with_reducible rfl
                  rotate_left
                  · simp only [Act.put, sa_, sz_, ss_, i64_w, i32_w]
                    rfl
                  refine take_ (i := 16) (N := some 19) (v := ?_) (a' := ?_) (b_ 36 2290719131) rfl rfl (take_ofW HT_.out HW_.out (by kernel_rfl)) (fun _ _ _ h => h) (Or.inl ⟨by rfl, ?_⟩) hHeld ?_ ?_
                  rotate_left
                  · rintro w' ⟨s0, s1, s2, s3, s4, s5, s6, s7, s8⟩
                    go_simp
                    with_reducible rfl
                  rotate_left
                  · simp only [Act.put, sa_, sz_, ss_, i64_w, i32_w]
                    rfl
                  refine take_ (i := 20) (N := some 23) (v := ?_) (a' := ?_) (b_ 36 2291767707) rfl rfl (take_ofW HT_.out HW_.out (by kernel_rfl)) (fun _ _ _ h => h) (Or.inl ⟨by rfl, ?_⟩) hHeld ?_ ?_
                  rotate_left
                  · rintro w' ⟨s0, s1, s2, s3, s4, s5, s6, s7, s8⟩
                    go_simp
                    with_reducible rfl
                  rotate_left
                  · simp only [Act.put, sa_, sz_, ss_, i64_w, i32_w]
                    rfl
                  refine take_ (i := 24) (N := some 27) (v := ?_) (a' := ?_) (b_ 36 2308544923) rfl rfl (take_ofW HT_.out HW_.out (by kernel_rfl)) (fun _ _ _ h => h) (Or.inl ⟨by rfl, ?_⟩) hHeld ?_ ?_
                  rotate_left
                  · rintro w' ⟨s0, s1, s2, s3, s4, s5, s6, s7, s8⟩
                    go_simp
                    with_reducible rfl
                  rotate_left
                  · simp only [Act.put, sa_, sz_, ss_, i64_w, i32_w]
                    rfl
                  refine take_ (i := 28) (N := some 31) (v := ?_) (a' := ?_) (b_ 36 2576980379) rfl rfl (take_ofW HT_.out HW_.out (by kernel_rfl)) (fun _ _ _ h => h) (Or.inl ⟨by rfl, ?_⟩) hHeld ?_ ?_
                  rotate_left
                  · rintro w' ⟨s0, s1, s2, s3, s4, s5, s6, s7, s8⟩
                    go_simp
                    with_reducible rfl
                  rotate_left
                  · simp only [Act.put, sa_, sz_, ss_, i64_w, i32_w]
                    rfl
                  refine take_ (i := 32) (N := some 35) (v := ?_) (a' := ?_) (b_ 36 6871947675) rfl rfl (take_ofW HT_.out HW_.out (by kernel_rfl)) (fun _ _ _ h => h) (Or.inl ⟨by rfl, ?_⟩) hHeld ?_ ?_
                  rotate_left
                  · rintro w' ⟨s0, s1, s2, s3, s4, s5, s6, s7, s8⟩
                    go_simp
                    with_reducible rfl
                  rotate_left
                  · simp only [Act.put, sa_, sz_, ss_, i64_w, i32_w]
                    rfl
                  refine one_ (i := 2) (N := some 5) (b_ 36 6871947679) rfl rfl (one_of HT_.out (by kernel_rfl)) (by decide) (fun K hK => ?_)
                  refine goes_ Try.func24 (by kernel_rfl) rfl #[.int .i64 a0_0] (by rfl) rfl rfl (by (try simp only [List.map_toArray, List.map_cons, List.map_nil]); first | done | rfl | (simp only [List.length_drop, List.length_take]; rfl)) ?_
                  with_reducible refine (usufructref04_Num.calls k a0_0 t285 _ A2.out).mono ?_
                  rintro e w21 ⟨rfl, hb⟩
                  refine ⟨_, rfl, ?_⟩
                  have n0_ := ak_ (blk_below (g := gb284) (o := .cells #[.int .i64 a0_0, .string a0_1, .int .i64 a0_2, .int .i64 a0_3, .int .i64 a0_4, .int .i64 a0_5, .bool a0_6, .int .i64 a0_7, .int .i64 a0_8] 23 (0, 0)) (by (with_reducible repeat (first | apply zn_ | apply zd_ | apply za_)); exact BK284.out) hb)
                  have n1_ := ak_ (ps_ (by repeat (first | (with_reducible first | exact HB.out | apply pa_ | apply pd_ | apply p1_ | refine zs_ ?_ GE284.out) | exact HB.out)) hb)
                  clear BK284
                  clear HB
                  have BK284 := n0_
                  have HB := n1_
                  clear n0_ n1_
                  (try clear hb hk hi)
                  refine hK.out _ _ ⟨(zc_ BK284.out 0).trans rfl, (zc_ BK284.out 1).trans rfl, (zc_ BK284.out 2).trans rfl, (zc_ BK284.out 3).trans rfl, (zc_ BK284.out 4).trans rfl, (zc_ BK284.out 5).trans rfl, (zc_ BK284.out 6).trans rfl, (zc_ BK284.out 7).trans rfl, (zc_ BK284.out 8).trans rfl⟩ (fun hHeld => ?_)
                  clear hK K
                  refine norm_ (a' := ?_) ?_ ?_
                  rotate_left
                  · show Act.put _ (some 5) _ = _
                    simp only [Act.put, sa_, sz_, ss_, i64_w, i32_w]
                    rfl
                  refine one_ (i := 5) (N := some 8) (b_ 36 6871947711) rfl rfl (one_of HT_.out (by kernel_rfl)) (by decide) (fun K hK => ?_)
                  refine goes_ Try.func25 (by kernel_rfl) rfl #[.string a0_1] (by rfl) rfl rfl (by (try simp only [List.map_toArray, List.map_cons, List.map_nil]); first | done | rfl | (simp only [List.length_drop, List.length_take]; rfl)) ?_
                  with_reducible refine (usufructref15_text.calls k a0_1 t286 _ A3.out).mono ?_
                  rintro e w22 ⟨rfl, hb⟩
                  refine ⟨_, rfl, ?_⟩
                  have n0_ := ak_ (blk_below (g := gb284) (o := .cells #[.int .i64 a0_0, .string a0_1, .int .i64 a0_2, .int .i64 a0_3, .int .i64 a0_4, .int .i64 a0_5, .bool a0_6, .int .i64 a0_7, .int .i64 a0_8] 23 (0, 0)) (by (with_reducible repeat (first | apply zn_ | apply zd_ | apply za_)); exact BK284.out) hb)
                  have n1_ := ak_ (ps_ (by repeat (first | (with_reducible first | exact HB.out | apply pa_ | apply pd_ | apply p1_ | refine zs_ ?_ GE284.out) | exact HB.out)) hb)
                  clear BK284
                  clear HB
                  have BK284 := n0_
                  have HB := n1_
                  clear n0_ n1_
                  (try clear hb hk hi)
                  refine hK.out _ _ ⟨(zc_ BK284.out 0).trans rfl, (zc_ BK284.out 1).trans rfl, (zc_ BK284.out 2).trans rfl, (zc_ BK284.out 3).trans rfl, (zc_ BK284.out 4).trans rfl, (zc_ BK284.out 5).trans rfl, (zc_ BK284.out 6).trans rfl, (zc_ BK284.out 7).trans rfl, (zc_ BK284.out 8).trans rfl⟩ (fun hHeld => ?_)
                  clear hK K
                  refine norm_ (a' := ?_) ?_ ?_
                  rotate_left
                  · show Act.put _ (some 8) _ = _
                    simp only [Act.put, sa_, sz_, ss_, i64_w, i32_w]
                    rfl
                  refine pure_ (i := 6) (N := some 9) (v := ?_) (a' := ?_) (b_ 36 6871947775) rfl rfl (any_of HT_.out (by kernel_rfl)) (fun _ _ _ h => h) (Or.inl ⟨by rfl, ?_⟩) ?_ ?_; rotate_left; (· intro w'; go_simp; with_reducible rfl); rotate_left; (· simp only [Act.put, sa_, sz_, ss_, i64_w, i32_w]; rfl)
                  refine one_ (i := 9) (N := some 12) (b_ 36 6871948287) rfl rfl (one_of HT_.out (by kernel_rfl)) (by decide) (fun K hK => ?_)
                  refine goes_ Try.func24 (by kernel_rfl) rfl #[.int .i64 a0_2] (by rfl) rfl rfl (by (try simp only [List.map_toArray, List.map_cons, List.map_nil]); first | done | rfl | (simp only [List.length_drop, List.length_take]; rfl)) ?_
                  with_reducible refine (usufructref04_Num.calls k a0_2 t287 _ A5.out).mono ?_
                  rintro e w23 ⟨rfl, hb⟩
                  refine ⟨_, rfl, ?_⟩
                  have n0_ := ak_ (blk_below (g := gb284) (o := .cells #[.int .i64 a0_0, .string a0_1, .int .i64 a0_2, .int .i64 a0_3, .int .i64 a0_4, .int .i64 a0_5, .bool a0_6, .int .i64 a0_7, .int .i64 a0_8] 23 (0, 0)) (by (with_reducible repeat (first | apply zn_ | apply zd_ | apply za_)); exact BK284.out) hb)
                  have n1_ := ak_ (ps_ (by repeat (first | (with_reducible first | exact HB.out | apply pa_ | apply pd_ | apply p1_ | refine zs_ ?_ GE284.out) | exact HB.out)) hb)
                  clear BK284
                  clear HB
                  have BK284 := n0_
                  have HB := n1_
                  clear n0_ n1_
                  (try clear hb hk hi)
                  refine hK.out _ _ ⟨(zc_ BK284.out 0).trans rfl, (zc_ BK284.out 1).trans rfl, (zc_ BK284.out 2).trans rfl, (zc_ BK284.out 3).trans rfl, (zc_ BK284.out 4).trans rfl, (zc_ BK284.out 5).trans rfl, (zc_ BK284.out 6).trans rfl, (zc_ BK284.out 7).trans rfl, (zc_ BK284.out 8).trans rfl⟩ (fun hHeld => ?_)
                  clear hK K
                  refine norm_ (a' := ?_) ?_ ?_
                  rotate_left
                  · show Act.put _ (some 12) _ = _
                    simp only [Act.put, sa_, sz_, ss_, i64_w, i32_w]
                    rfl
                  refine pure_ (i := 10) (N := some 13) (v := ?_) (a' := ?_) (b_ 36 6871949311) rfl rfl (any_of HT_.out (by kernel_rfl)) (fun _ _ _ h => h) (Or.inl ⟨by rfl, ?_⟩) ?_ ?_; rotate_left; (· intro w'; go_simp; with_reducible rfl); rotate_left; (· simp only [Act.put, sa_, sz_, ss_, i64_w, i32_w]; rfl)
                  refine one_ (i := 13) (N := some 16) (b_ 36 6871957503) rfl rfl (one_of HT_.out (by kernel_rfl)) (by decide) (fun K hK => ?_)
                  refine goes_ Try.func24 (by kernel_rfl) rfl #[.int .i64 a0_3] (by rfl) rfl rfl (by (try simp only [List.map_toArray, List.map_cons, List.map_nil]); first | done | rfl | (simp only [List.length_drop, List.length_take]; rfl)) ?_
                  with_reducible refine (usufructref04_Num.calls k a0_3 t288 _ A7.out).mono ?_
                  rintro e w24 ⟨rfl, hb⟩
                  refine ⟨_, rfl, ?_⟩
                  have n0_ := ak_ (blk_below (g := gb284) (o := .cells #[.int .i64 a0_0, .string a0_1, .int .i64 a0_2, .int .i64 a0_3, .int .i64 a0_4, .int .i64 a0_5, .bool a0_6, .int .i64 a0_7, .int .i64 a0_8] 23 (0, 0)) (by (with_reducible repeat (first | apply zn_ | apply zd_ | apply za_)); exact BK284.out) hb)
                  have n1_ := ak_ (ps_ (by repeat (first | (with_reducible first | exact HB.out | apply pa_ | apply pd_ | apply p1_ | refine zs_ ?_ GE284.out) | exact HB.out)) hb)
                  clear BK284
                  clear HB
                  have BK284 := n0_
                  have HB := n1_
                  clear n0_ n1_
                  (try clear hb hk hi)
                  refine hK.out _ _ ⟨(zc_ BK284.out 0).trans rfl, (zc_ BK284.out 1).trans rfl, (zc_ BK284.out 2).trans rfl, (zc_ BK284.out 3).trans rfl, (zc_ BK284.out 4).trans rfl, (zc_ BK284.out 5).trans rfl, (zc_ BK284.out 6).trans rfl, (zc_ BK284.out 7).trans rfl, (zc_ BK284.out 8).trans rfl⟩ (fun hHeld => ?_)
                  clear hK K
                  refine norm_ (a' := ?_) ?_ ?_
                  rotate_left
                  · show Act.put _ (some 16) _ = _
                    simp only [Act.put, sa_, sz_, ss_, i64_w, i32_w]
                    rfl
                  refine pure_ (i := 14) (N := some 17) (v := ?_) (a' := ?_) (b_ 36 6871973887) rfl rfl (any_of HT_.out (by kernel_rfl)) (fun _ _ _ h => h) (Or.inl ⟨by rfl, ?_⟩) ?_ ?_; rotate_left; (· intro w'; go_simp; with_reducible rfl); rotate_left; (· simp only [Act.put, sa_, sz_, ss_, i64_w, i32_w]; rfl)
                  refine one_ (i := 17) (N := some 20) (b_ 36 6872104959) rfl rfl (one_of HT_.out (by kernel_rfl)) (by decide) (fun K hK => ?_)
                  refine goes_ Try.func24 (by kernel_rfl) rfl #[.int .i64 a0_4] (by rfl) rfl rfl (by (try simp only [List.map_toArray, List.map_cons, List.map_nil]); first | done | rfl | (simp only [List.length_drop, List.length_take]; rfl)) ?_
                  with_reducible refine (usufructref04_Num.calls k a0_4 t289 _ A9.out).mono ?_
                  rintro e w25 ⟨rfl, hb⟩
                  refine ⟨_, rfl, ?_⟩
                  have n0_ := ak_ (blk_below (g := gb284) (o := .cells #[.int .i64 a0_0, .string a0_1, .int .i64 a0_2, .int .i64 a0_3, .int .i64 a0_4, .int .i64 a0_5, .bool a0_6, .int .i64 a0_7, .int .i64 a0_8] 23 (0, 0)) (by (with_reducible repeat (first | apply zn_ | apply zd_ | apply za_)); exact BK284.out) hb)
                  have n1_ := ak_ (ps_ (by repeat (first | (with_reducible first | exact HB.out | apply pa_ | apply pd_ | apply p1_ | refine zs_ ?_ GE284.out) | exact HB.out)) hb)
                  clear BK284
                  clear HB
                  have BK284 := n0_
                  have HB := n1_
                  clear n0_ n1_
                  (try clear hb hk hi)
                  refine hK.out _ _ ⟨(zc_ BK284.out 0).trans rfl, (zc_ BK284.out 1).trans rfl, (zc_ BK284.out 2).trans rfl, (zc_ BK284.out 3).trans rfl, (zc_ BK284.out 4).trans rfl, (zc_ BK284.out 5).trans rfl, (zc_ BK284.out 6).trans rfl, (zc_ BK284.out 7).trans rfl, (zc_ BK284.out 8).trans rfl⟩ (fun hHeld => ?_)
                  clear hK K
                  refine norm_ (a' := ?_) ?_ ?_
                  rotate_left
                  · show Act.put _ (some 20) _ = _
                    simp only [Act.put, sa_, sz_, ss_, i64_w, i32_w]
                    rfl
                  refine pure_ (i := 18) (N := some 21) (v := ?_) (a' := ?_) (b_ 36 6872367103) rfl rfl (any_of HT_.out (by kernel_rfl)) (fun _ _ _ h => h) (Or.inl ⟨by rfl, ?_⟩) ?_ ?_; rotate_left; (· intro w'; go_simp; with_reducible rfl); rotate_left; (· simp only [Act.put, sa_, sz_, ss_, i64_w, i32_w]; rfl)
                  refine one_ (i := 21) (N := some 24) (b_ 36 6874464255) rfl rfl (one_of HT_.out (by kernel_rfl)) (by decide) (fun K hK => ?_)
                  refine goes_ Try.func24 (by kernel_rfl) rfl #[.int .i64 a0_5] (by rfl) rfl rfl (by (try simp only [List.map_toArray, List.map_cons, List.map_nil]); first | done | rfl | (simp only [List.length_drop, List.length_take]; rfl)) ?_
                  with_reducible refine (usufructref04_Num.calls k a0_5 t290 _ A11.out).mono ?_
                  rintro e w26 ⟨rfl, hb⟩
                  refine ⟨_, rfl, ?_⟩
                  have n0_ := ak_ (blk_below (g := gb284) (o := .cells #[.int .i64 a0_0, .string a0_1, .int .i64 a0_2, .int .i64 a0_3, .int .i64 a0_4, .int .i64 a0_5, .bool a0_6, .int .i64 a0_7, .int .i64 a0_8] 23 (0, 0)) (by (with_reducible repeat (first | apply zn_ | apply zd_ | apply za_)); exact BK284.out) hb)
                  have n1_ := ak_ (ps_ (by repeat (first | (with_reducible first | exact HB.out | apply pa_ | apply pd_ | apply p1_ | refine zs_ ?_ GE284.out) | exact HB.out)) hb)
                  clear BK284
                  clear HB
                  have BK284 := n0_
                  have HB := n1_
                  clear n0_ n1_
                  (try clear hb hk hi)
                  refine hK.out _ _ ⟨(zc_ BK284.out 0).trans rfl, (zc_ BK284.out 1).trans rfl, (zc_ BK284.out 2).trans rfl, (zc_ BK284.out 3).trans rfl, (zc_ BK284.out 4).trans rfl, (zc_ BK284.out 5).trans rfl, (zc_ BK284.out 6).trans rfl, (zc_ BK284.out 7).trans rfl, (zc_ BK284.out 8).trans rfl⟩ (fun hHeld => ?_)
                  clear hK K
                  refine norm_ (a' := ?_) ?_ ?_
                  rotate_left
                  · show Act.put _ (some 24) _ = _
                    simp only [Act.put, sa_, sz_, ss_, i64_w, i32_w]
                    rfl
                  refine pure_ (i := 22) (N := some 25) (v := ?_) (a' := ?_) (b_ 36 6878658559) rfl rfl (any_of HT_.out (by kernel_rfl)) (fun _ _ _ h => h) (Or.inl ⟨by rfl, ?_⟩) ?_ ?_; rotate_left; (· intro w'; go_simp; with_reducible rfl); rotate_left; (· simp only [Act.put, sa_, sz_, ss_, i64_w, i32_w]; rfl)
                  refine one_ (i := 25) (N := some 28) (b_ 36 6912212991) rfl rfl (one_of HT_.out (by kernel_rfl)) (by decide) (fun K hK => ?_)
                  refine goes_ Try.func26 (by kernel_rfl) rfl #[.bool a0_6] (by rfl) rfl rfl (by (try simp only [List.map_toArray, List.map_cons, List.map_nil]); first | done | rfl | (simp only [List.length_drop, List.length_take]; rfl)) ?_
                  with_reducible refine (usufructref15_flag.calls a0_6 t291 _ A13.out).mono ?_
                  rintro e w' ⟨rfl, ⟨nd, rfl⟩⟩
                  refine ⟨_, rfl, ?_⟩
                  refine hK.out _ _ ⟨(zc_ BK284.out 0).trans rfl, (zc_ BK284.out 1).trans rfl, (zc_ BK284.out 2).trans rfl, (zc_ BK284.out 3).trans rfl, (zc_ BK284.out 4).trans rfl, (zc_ BK284.out 5).trans rfl, (zc_ BK284.out 6).trans rfl, (zc_ BK284.out 7).trans rfl, (zc_ BK284.out 8).trans rfl⟩ (fun hHeld => ?_)
                  clear hK K
                  refine norm_ (a' := ?_) ?_ ?_
                  rotate_left
                  · show Act.put _ (some 28) _ = _
                    simp only [Act.put, sa_, sz_, ss_, i64_w, i32_w]
                    rfl
                  refine pure_ (i := 26) (N := some 29) (v := ?_) (a' := ?_) (b_ 36 6979321855) rfl rfl (any_of HT_.out (by kernel_rfl)) (fun _ _ _ h => h) (Or.inl ⟨by rfl, ?_⟩) ?_ ?_; rotate_left; (· intro w'; go_simp; with_reducible rfl); rotate_left; (· simp only [Act.put, sa_, sz_, ss_, i64_w, i32_w]; rfl)
                  refine one_ (i := 29) (N := some 32) (b_ 36 7516192767) rfl rfl (one_of HT_.out (by kernel_rfl)) (by decide) (fun K hK => ?_)
                  refine goes_ Try.func24 (by kernel_rfl) rfl #[.int .i64 a0_7] (by rfl) rfl rfl (by (try simp only [List.map_toArray, List.map_cons, List.map_nil]); first | done | rfl | (simp only [List.length_drop, List.length_take]; rfl)) ?_
                  with_reducible refine (usufructref04_Num.calls k a0_7 t292 _ A15.out).mono ?_
                  rintro e w27 ⟨rfl, hb⟩
                  refine ⟨_, rfl, ?_⟩
                  have n0_ := ak_ (blk_below (g := gb284) (o := .cells #[.int .i64 a0_0, .string a0_1, .int .i64 a0_2, .int .i64 a0_3, .int .i64 a0_4, .int .i64 a0_5, .bool a0_6, .int .i64 a0_7, .int .i64 a0_8] 23 (0, 0)) (by (with_reducible repeat (first | apply zn_ | apply zd_ | apply za_)); exact BK284.out) hb)
                  have n1_ := ak_ (ps_ (by repeat (first | (with_reducible first | exact HB.out | apply pa_ | apply pd_ | apply p1_ | refine zs_ ?_ GE284.out) | exact HB.out)) hb)
                  clear BK284
                  clear HB
                  have BK284 := n0_
                  have HB := n1_
                  clear n0_ n1_
                  (try clear hb hk hi)
                  refine hK.out _ _ ⟨(zc_ BK284.out 0).trans rfl, (zc_ BK284.out 1).trans rfl, (zc_ BK284.out 2).trans rfl, (zc_ BK284.out 3).trans rfl, (zc_ BK284.out 4).trans rfl, (zc_ BK284.out 5).trans rfl, (zc_ BK284.out 6).trans rfl, (zc_ BK284.out 7).trans rfl, (zc_ BK284.out 8).trans rfl⟩ (fun hHeld => ?_)
                  clear hK K
                  refine norm_ (a' := ?_) ?_ ?_
                  rotate_left
                  · show Act.put _ (some 32) _ = _
                    simp only [Act.put, sa_, sz_, ss_, i64_w, i32_w]
                    rfl
                  refine pure_ (i := 30) (N := some 33) (v := ?_) (a' := ?_) (b_ 36 8589934591) rfl rfl (any_of HT_.out (by kernel_rfl)) (fun _ _ _ h => h) (Or.inl ⟨by rfl, ?_⟩) ?_ ?_; rotate_left; (· intro w'; go_simp; with_reducible rfl); rotate_left; (· simp only [Act.put, sa_, sz_, ss_, i64_w, i32_w]; rfl)
                  refine one_ (i := 33) (N := some 36) (b_ 36 17179869183) rfl rfl (one_of HT_.out (by kernel_rfl)) (by decide) (fun K hK => ?_)
                  refine goes_ Try.func24 (by kernel_rfl) rfl #[.int .i64 a0_8] (by rfl) rfl rfl (by (try simp only [List.map_toArray, List.map_cons, List.map_nil]); first | done | rfl | (simp only [List.length_drop, List.length_take]; rfl)) ?_
                  with_reducible refine (usufructref04_Num.calls k a0_8 t293 _ A17.out).mono ?_
                  rintro e w28 ⟨rfl, hb⟩
                  refine ⟨_, rfl, ?_⟩
                  have n0_ := ak_ (blk_below (g := gb284) (o := .cells #[.int .i64 a0_0, .string a0_1, .int .i64 a0_2, .int .i64 a0_3, .int .i64 a0_4, .int .i64 a0_5, .bool a0_6, .int .i64 a0_7, .int .i64 a0_8] 23 (0, 0)) (by (with_reducible repeat (first | apply zn_ | apply zd_ | apply za_)); exact BK284.out) hb)
                  have n1_ := ak_ (ps_ (by repeat (first | (with_reducible first | exact HB.out | apply pa_ | apply pd_ | apply p1_ | refine zs_ ?_ GE284.out) | exact HB.out)) hb)
                  clear BK284
                  clear HB
                  have BK284 := n0_
                  have HB := n1_
                  clear n0_ n1_
                  (try clear hb hk hi)
                  refine hK.out _ _ ⟨(zc_ BK284.out 0).trans rfl, (zc_ BK284.out 1).trans rfl, (zc_ BK284.out 2).trans rfl, (zc_ BK284.out 3).trans rfl, (zc_ BK284.out 4).trans rfl, (zc_ BK284.out 5).trans rfl, (zc_ BK284.out 6).trans rfl, (zc_ BK284.out 7).trans rfl, (zc_ BK284.out 8).trans rfl⟩ (fun hHeld => ?_)
                  clear hK K
                  refine norm_ (a' := ?_) ?_ ?_
                  rotate_left
                  · show Act.put _ (some 36) _ = _
                    simp only [Act.put, sa_, sz_, ss_, i64_w, i32_w]
                    rfl
                  refine pure_ (i := 34) (N := some 37) (v := ?_) (a' := ?_) (b_ 36 34359738367) rfl rfl (any_of HT_.out (by kernel_rfl)) (fun _ _ _ h => h) (Or.inl ⟨by rfl, ?_⟩) ?_ ?_; rotate_left; (· intro w'; go_simp; with_reducible rfl); rotate_left; (· simp only [Act.put, sa_, sz_, ss_, i64_w, i32_w]; rfl)
                  refine pure_ (i := 35) (N := some 2) (v := ?_) (a' := ?_) (b_ 36 68719476735) rfl rfl (any_of HT_.out (by kernel_rfl)) (fun _ _ _ h => h) (Or.inl ⟨by rfl, ?_⟩) ?_ ?_; rotate_left; (· intro w'; go_simp; with_reducible rfl); rotate_left; (· simp only [Act.put, sa_, sz_, ss_, i64_w, i32_w]; rfl)
                  refine done_ (done_of HT_.out (by kernel_rfl)) ?_
                  try go_wp2
                  go_ret
                  exact ⟨by first | rfl | (simp [errW_none, errW_some] <;> rfl) | (simp [*, errW_none, errW_some] <;> rfl), by repeat (first | (with_reducible first | exact HB.out | apply pa_ | apply pd_ | apply p1_ | refine zs_ ?_ GE284.out) | exact HB.out)⟩
                rw [if_neg c18] at H
                exact absurd H (by simp)
              rw [if_neg c16] at H
              exact absurd H (by simp)
            rw [if_neg c14] at H
            exact absurd H (by simp)
          rw [if_neg c12] at H
          exact absurd H (by simp)
        rw [if_neg c10] at H
        exact absurd H (by simp)
      rw [if_neg c8] at H
      exact absurd H (by simp)
    rw [if_neg c6] at H
    exact absurd H (by simp)
  rw [if_neg c4] at H
  exact absurd H (by simp)

end Go.Proofs.Ytcgpbakimkhdpaa.Q
