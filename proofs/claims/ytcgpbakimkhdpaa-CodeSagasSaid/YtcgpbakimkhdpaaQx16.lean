-- written for this claim by a program of the session
import Derived.Test.YtcgpbakimkhdpaaQx0
import Derived.Test.YtcgpbakimkhdpaaQx1
import Derived.Test.YtcgpbakimkhdpaaQx3
import Derived.Test.YtcgpbakimkhdpaaQx12
import Derived.Test.YtcgpbakimkhdpaaQx15
import Derived.Test.YtcgpbakimkhdpaaGPutSaga
import Derived.Test.YtcgpbakimkhdpaaGTakeSaga
namespace Go.Proofs.Ytcgpbakimkhdpaa.Q
open Go.RowKit Go.Proofs.YtcgpbakimkhdpaaW.PrintWords Go.Proofs.YtcgpbakimkhdpaaW.PrintLast Go.Proofs.YtcgpbakimkhdpaaW.PrintMore
attribute [local go_sem] max2_int min2_int max_two min_two max_three min_three max_four min_four   -- for this text's walks alone
set_option linter.unusedVariables false
set_option linter.unusedSimpArgs false

attribute [local go_sem high] eqA23
attribute [local go_sem] max_seven
/-! ### usufructlaw15_CodeSagas: function 3 -/
mutual
def usufructlaw15_CodeSagas.j0 : Nat → List Int → Bool → Int → ByteArray → Int → Int → Int → Int → Bool → Int → Int → Option (Bool)
  | 0, _, _, _, _, _, _, _, _, _, _, _ => none
  | k + 1, x1, x25, x295000, x295001, x295002, x295003, x295004, x295005, x295006, x295007, x295008 => if x25 = true then (some true) else ((code_PutSaga.f x295000 x295001 x295002 x295003 x295004 x295005 x295006 x295007 x295008).bind fun t296 => ((code_TakeSaga.f x1).bind fun bt299 => ((usufructref15_ReadSaga.f k (strOfNums x1)).bind fun bt311 => ((usufructref15_Saga.f k x295000 x295001 x295002 x295003 x295004 x295005 x295006 x295007 x295008).bind fun t323 => (if (strOfNums t296).toList = t323.toList then (if (!(bt299.1 == bt311.1) || (!(bt299.2.1.toList == bt311.2.1.toList) || (!(bt299.2.2.1 == bt311.2.2.1) || (!(bt299.2.2.2.1 == bt311.2.2.2.1) || (!(bt299.2.2.2.2.1 == bt311.2.2.2.2.1) || (!(bt299.2.2.2.2.2.1 == bt311.2.2.2.2.2.1) || (!(bt299.2.2.2.2.2.2.1 == bt311.2.2.2.2.2.2.1) || (!(bt299.2.2.2.2.2.2.2.1 == bt311.2.2.2.2.2.2.2.1) || (!(bt299.2.2.2.2.2.2.2.2.1 == bt311.2.2.2.2.2.2.2.2.1)))))))))) = true then (usufructlaw15_CodeSagas.j1 k t296 true x295000 x295001 x295002 x295003 x295004 x295005 x295006 x295007 x295008) else (if bt299.2.2.2.2.2.2.2.2.2.1 = bt311.2.2.2.2.2.2.2.2.2.1 then (if bt299.2.2.2.2.2.2.2.2.2.2 = bt311.2.2.2.2.2.2.2.2.2.2 then (if bt299.2.2.2.2.2.2.2.2.2.2 = 0 then ((code_PutSaga.f bt299.1 bt299.2.1 bt299.2.2.1 bt299.2.2.2.1 bt299.2.2.2.2.1 bt299.2.2.2.2.2.1 bt299.2.2.2.2.2.2.1 bt299.2.2.2.2.2.2.2.1 bt299.2.2.2.2.2.2.2.2.1).bind fun t324 => (usufructlaw15_CodeSagas.j1 k t296 ((strOfNums t324).toList != (strOfNums x1).toList) x295000 x295001 x295002 x295003 x295004 x295005 x295006 x295007 x295008)) else (usufructlaw15_CodeSagas.j1 k t296 false x295000 x295001 x295002 x295003 x295004 x295005 x295006 x295007 x295008)) else (usufructlaw15_CodeSagas.j1 k t296 true x295000 x295001 x295002 x295003 x295004 x295005 x295006 x295007 x295008)) else (usufructlaw15_CodeSagas.j1 k t296 true x295000 x295001 x295002 x295003 x295004 x295005 x295006 x295007 x295008))) else (usufructlaw15_CodeSagas.j1 k t296 true x295000 x295001 x295002 x295003 x295004 x295005 x295006 x295007 x295008))))))
def usufructlaw15_CodeSagas.j1 : Nat → List Int → Bool → Int → ByteArray → Int → Int → Int → Int → Bool → Int → Int → Option (Bool)
  | 0, _, _, _, _, _, _, _, _, _, _, _ => none
  | k + 1, x5, x72, x295000, x295001, x295002, x295003, x295004, x295005, x295006, x295007, x295008 => if x72 = true then (some false) else ((code_TakeSaga.f x5).bind fun bt327 => (if x295000 < 0 then (usufructlaw15_CodeSagas.j2 k bt327.2.2.2.2.2.2.2.2.2.2 true x295000 x295001 x295002 x295003 x295004 x295005 x295006 x295007 x295008 bt327.1 bt327.2.1 bt327.2.2.1 bt327.2.2.2.1 bt327.2.2.2.2.1 bt327.2.2.2.2.2.1 bt327.2.2.2.2.2.2.1 bt327.2.2.2.2.2.2.2.1 bt327.2.2.2.2.2.2.2.2.1) else (if x295002 < 0 then (usufructlaw15_CodeSagas.j2 k bt327.2.2.2.2.2.2.2.2.2.2 true x295000 x295001 x295002 x295003 x295004 x295005 x295006 x295007 x295008 bt327.1 bt327.2.1 bt327.2.2.1 bt327.2.2.2.1 bt327.2.2.2.2.1 bt327.2.2.2.2.2.1 bt327.2.2.2.2.2.2.1 bt327.2.2.2.2.2.2.2.1 bt327.2.2.2.2.2.2.2.2.1) else (if x295003 < 0 then (usufructlaw15_CodeSagas.j2 k bt327.2.2.2.2.2.2.2.2.2.2 true x295000 x295001 x295002 x295003 x295004 x295005 x295006 x295007 x295008 bt327.1 bt327.2.1 bt327.2.2.1 bt327.2.2.2.1 bt327.2.2.2.2.1 bt327.2.2.2.2.2.1 bt327.2.2.2.2.2.2.1 bt327.2.2.2.2.2.2.2.1 bt327.2.2.2.2.2.2.2.2.1) else (if x295004 < 0 then (usufructlaw15_CodeSagas.j2 k bt327.2.2.2.2.2.2.2.2.2.2 true x295000 x295001 x295002 x295003 x295004 x295005 x295006 x295007 x295008 bt327.1 bt327.2.1 bt327.2.2.1 bt327.2.2.2.1 bt327.2.2.2.2.1 bt327.2.2.2.2.2.1 bt327.2.2.2.2.2.2.1 bt327.2.2.2.2.2.2.2.1 bt327.2.2.2.2.2.2.2.2.1) else (if x295005 < 0 then (usufructlaw15_CodeSagas.j2 k bt327.2.2.2.2.2.2.2.2.2.2 true x295000 x295001 x295002 x295003 x295004 x295005 x295006 x295007 x295008 bt327.1 bt327.2.1 bt327.2.2.1 bt327.2.2.2.1 bt327.2.2.2.2.1 bt327.2.2.2.2.2.1 bt327.2.2.2.2.2.2.1 bt327.2.2.2.2.2.2.2.1 bt327.2.2.2.2.2.2.2.2.1) else (if x295007 < 0 then (usufructlaw15_CodeSagas.j2 k bt327.2.2.2.2.2.2.2.2.2.2 true x295000 x295001 x295002 x295003 x295004 x295005 x295006 x295007 x295008 bt327.1 bt327.2.1 bt327.2.2.1 bt327.2.2.2.1 bt327.2.2.2.2.1 bt327.2.2.2.2.2.1 bt327.2.2.2.2.2.2.1 bt327.2.2.2.2.2.2.2.1 bt327.2.2.2.2.2.2.2.2.1) else (usufructlaw15_CodeSagas.j2 k bt327.2.2.2.2.2.2.2.2.2.2 (decide (x295008 < 0)) x295000 x295001 x295002 x295003 x295004 x295005 x295006 x295007 x295008 bt327.1 bt327.2.1 bt327.2.2.1 bt327.2.2.2.1 bt327.2.2.2.2.1 bt327.2.2.2.2.2.1 bt327.2.2.2.2.2.2.1 bt327.2.2.2.2.2.2.2.1 bt327.2.2.2.2.2.2.2.2.1))))))))
def usufructlaw15_CodeSagas.j2 : Nat → Int → Bool → Int → ByteArray → Int → Int → Int → Int → Bool → Int → Int → Int → ByteArray → Int → Int → Int → Int → Bool → Int → Int → Option (Bool)
  | 0, _, _, _, _, _, _, _, _, _, _, _, _, _, _, _, _, _, _, _, _ => none
  | k + 1, x14, x111, x295000, x295001, x295002, x295003, x295004, x295005, x295006, x295007, x295008, x339000, x339001, x339002, x339003, x339004, x339005, x339006, x339007, x339008 => if x111 = true then (some (x14 == 0)) else (if (mx (mx (mx (mx (mx (mx x295000 x295002) x295003) x295004) x295005) x295007) x295008) > 4611686018427387904 then (some (x14 == 0)) else (if x14 = 0 then (some (x339000 == x295000 && (x339001.toList == x295001.toList && (x339002 == x295002 && (x339003 == x295003 && (x339004 == x295004 && (x339005 == x295005 && (x339006 == x295006 && (x339007 == x295007 && (x339008 == x295008)))))))))) else (some false)))
end
def usufructlaw15_CodeSagas.f (k : Nat) (a0_0 : Int) (a0_1 : ByteArray) (a0_2 : Int) (a0_3 : Int) (a0_4 : Int) (a0_5 : Int) (a0_6 : Bool) (a0_7 : Int) (a0_8 : Int) (l1 : List Int) : Option (Bool) := (usufructlaw15_awake.f k).bind fun t295 => (if t295 = true then (if (a0_1.size : Int) > 200 then (usufructlaw15_CodeSagas.j0 k l1 true a0_0 a0_1 a0_2 a0_3 a0_4 a0_5 a0_6 a0_7 a0_8) else (usufructlaw15_CodeSagas.j0 k l1 (decide ((l1.length : Int) > 400)) a0_0 a0_1 a0_2 a0_3 a0_4 a0_5 a0_6 a0_7 a0_8)) else (some false))
theorem usufructlaw15_CodeSagas.mono_l : ∀ k, (∀ y0 y1 y2 y3 y4 y5 y6 y7 y8 y9 y10, LeO (usufructlaw15_CodeSagas.j0 k y0 y1 y2 y3 y4 y5 y6 y7 y8 y9 y10) (usufructlaw15_CodeSagas.j0 (k + 1) y0 y1 y2 y3 y4 y5 y6 y7 y8 y9 y10)) ∧ (∀ y0 y1 y2 y3 y4 y5 y6 y7 y8 y9 y10, LeO (usufructlaw15_CodeSagas.j1 k y0 y1 y2 y3 y4 y5 y6 y7 y8 y9 y10) (usufructlaw15_CodeSagas.j1 (k + 1) y0 y1 y2 y3 y4 y5 y6 y7 y8 y9 y10)) ∧ (∀ y0 y1 y2 y3 y4 y5 y6 y7 y8 y9 y10 y11 y12 y13 y14 y15 y16 y17 y18 y19, LeO (usufructlaw15_CodeSagas.j2 k y0 y1 y2 y3 y4 y5 y6 y7 y8 y9 y10 y11 y12 y13 y14 y15 y16 y17 y18 y19) (usufructlaw15_CodeSagas.j2 (k + 1) y0 y1 y2 y3 y4 y5 y6 y7 y8 y9 y10 y11 y12 y13 y14 y15 y16 y17 y18 y19))
  | 0 => ⟨fun _ _ _ _ _ _ _ _ _ _ _ r h => by simp [usufructlaw15_CodeSagas.j0] at h, fun _ _ _ _ _ _ _ _ _ _ _ r h => by simp [usufructlaw15_CodeSagas.j1] at h, fun _ _ _ _ _ _ _ _ _ _ _ _ _ _ _ _ _ _ _ _ r h => by simp [usufructlaw15_CodeSagas.j2] at h⟩
  | k + 1 => by
    obtain ⟨ih0, ih1, ih2⟩ := usufructlaw15_CodeSagas.mono_l k
    refine ⟨?_, ?_, ?_⟩
    · intro y0 y1 y2 y3 y4 y5 y6 y7 y8 y9 y10
      unfold usufructlaw15_CodeSagas.j0
      repeat' first
      | (with_reducible exact ih0 _ _ _ _ _ _ _ _ _ _ _)
      | (with_reducible exact ih1 _ _ _ _ _ _ _ _ _ _ _)
      | (with_reducible exact ih2 _ _ _ _ _ _ _ _ _ _ _ _ _ _ _ _ _ _ _ _)
      | (with_reducible exact usufructlaw15_awake.mono _)
      | (with_reducible exact usufructref15_ReadSaga.mono _ _)
      | (with_reducible exact usufructref15_Saga.mono _ _ _ _ _ _ _ _ _ _)
      | (with_reducible exact LeO.refl _)
      | (with_reducible exact LeO.none _)
      | (with_reducible refine LeO.ite ?_ ?_)
      | (with_reducible refine LeO.bind ?_ (fun _ => ?_))
      | exact ih0 _ _ _ _ _ _ _ _ _ _ _
      | exact ih1 _ _ _ _ _ _ _ _ _ _ _
      | exact ih2 _ _ _ _ _ _ _ _ _ _ _ _ _ _ _ _ _ _ _ _
      | exact usufructlaw15_awake.mono _
      | exact usufructref15_ReadSaga.mono _ _
      | exact usufructref15_Saga.mono _ _ _ _ _ _ _ _ _ _
      | exact LeO.none _
      | refine LeO.ite ?_ ?_
      | refine LeO.bind ?_ (fun _ => ?_)
    · intro y0 y1 y2 y3 y4 y5 y6 y7 y8 y9 y10
      unfold usufructlaw15_CodeSagas.j1
      repeat' first
      | (with_reducible exact ih0 _ _ _ _ _ _ _ _ _ _ _)
      | (with_reducible exact ih1 _ _ _ _ _ _ _ _ _ _ _)
      | (with_reducible exact ih2 _ _ _ _ _ _ _ _ _ _ _ _ _ _ _ _ _ _ _ _)
      | (with_reducible exact usufructlaw15_awake.mono _)
      | (with_reducible exact usufructref15_ReadSaga.mono _ _)
      | (with_reducible exact usufructref15_Saga.mono _ _ _ _ _ _ _ _ _ _)
      | (with_reducible exact LeO.refl _)
      | (with_reducible exact LeO.none _)
      | (with_reducible refine LeO.ite ?_ ?_)
      | (with_reducible refine LeO.bind ?_ (fun _ => ?_))
      | exact ih0 _ _ _ _ _ _ _ _ _ _ _
      | exact ih1 _ _ _ _ _ _ _ _ _ _ _
      | exact ih2 _ _ _ _ _ _ _ _ _ _ _ _ _ _ _ _ _ _ _ _
      | exact usufructlaw15_awake.mono _
      | exact usufructref15_ReadSaga.mono _ _
      | exact usufructref15_Saga.mono _ _ _ _ _ _ _ _ _ _
      | exact LeO.none _
      | refine LeO.ite ?_ ?_
      | refine LeO.bind ?_ (fun _ => ?_)
    · intro y0 y1 y2 y3 y4 y5 y6 y7 y8 y9 y10 y11 y12 y13 y14 y15 y16 y17 y18 y19
      unfold usufructlaw15_CodeSagas.j2
      repeat' first
      | (with_reducible exact ih0 _ _ _ _ _ _ _ _ _ _ _)
      | (with_reducible exact ih1 _ _ _ _ _ _ _ _ _ _ _)
      | (with_reducible exact ih2 _ _ _ _ _ _ _ _ _ _ _ _ _ _ _ _ _ _ _ _)
      | (with_reducible exact usufructlaw15_awake.mono _)
      | (with_reducible exact usufructref15_ReadSaga.mono _ _)
      | (with_reducible exact usufructref15_Saga.mono _ _ _ _ _ _ _ _ _ _)
      | (with_reducible exact LeO.refl _)
      | (with_reducible exact LeO.none _)
      | (with_reducible refine LeO.ite ?_ ?_)
      | (with_reducible refine LeO.bind ?_ (fun _ => ?_))
      | exact ih0 _ _ _ _ _ _ _ _ _ _ _
      | exact ih1 _ _ _ _ _ _ _ _ _ _ _
      | exact ih2 _ _ _ _ _ _ _ _ _ _ _ _ _ _ _ _ _ _ _ _
      | exact usufructlaw15_awake.mono _
      | exact usufructref15_ReadSaga.mono _ _
      | exact usufructref15_Saga.mono _ _ _ _ _ _ _ _ _ _
      | exact LeO.none _
      | refine LeO.ite ?_ ?_
      | refine LeO.bind ?_ (fun _ => ?_)
theorem usufructlaw15_CodeSagas.mono : ∀ a0 a1 a2 a3 a4 a5 a6 a7 a8 a9 k, LeO (usufructlaw15_CodeSagas.f k a0 a1 a2 a3 a4 a5 a6 a7 a8 a9) (usufructlaw15_CodeSagas.f (k + 1) a0 a1 a2 a3 a4 a5 a6 a7 a8 a9) := by
  intro a0 a1 a2 a3 a4 a5 a6 a7 a8 a9 k
  obtain ⟨ih0, ih1, ih2⟩ := usufructlaw15_CodeSagas.mono_l k
  unfold usufructlaw15_CodeSagas.f
  repeat' first
      | (with_reducible exact ih0 _ _ _ _ _ _ _ _ _ _ _)
      | (with_reducible exact ih1 _ _ _ _ _ _ _ _ _ _ _)
      | (with_reducible exact ih2 _ _ _ _ _ _ _ _ _ _ _ _ _ _ _ _ _ _ _ _)
      | (with_reducible exact usufructlaw15_awake.mono _)
      | (with_reducible exact usufructref15_ReadSaga.mono _ _)
      | (with_reducible exact usufructref15_Saga.mono _ _ _ _ _ _ _ _ _ _)
      | (with_reducible exact LeO.refl _)
      | (with_reducible exact LeO.none _)
      | (with_reducible refine LeO.ite ?_ ?_)
      | (with_reducible refine LeO.bind ?_ (fun _ => ?_))
      | exact ih0 _ _ _ _ _ _ _ _ _ _ _
      | exact ih1 _ _ _ _ _ _ _ _ _ _ _
      | exact ih2 _ _ _ _ _ _ _ _ _ _ _ _ _ _ _ _ _ _ _ _
      | exact usufructlaw15_awake.mono _
      | exact usufructref15_ReadSaga.mono _ _
      | exact usufructref15_Saga.mono _ _ _ _ _ _ _ _ _ _
      | exact LeO.none _
      | refine LeO.ite ?_ ?_
      | refine LeO.bind ?_ (fun _ => ?_)
def usufructlaw15_CodeSagas.T8 : Bool × List (List Nat × List Nat) := (true, [([], []), ([0], [0]), ([], []), ([2], [2]), ([1, 3], [1, 3]), ([4, 3], [4]), ([5], [5]), ([5], [5]), ([6, 7, 5], [5, 6, 7]), ([5, 8], [5, 8]), ([9, 5], [9]), ([10], [10]), ([10], [10]), ([11, 12, 10], [10, 11, 12]), ([10, 13], [10, 13]), ([14, 10], [14]), ([15], [15]), ([15], [15]), ([16, 17, 15], [15, 16, 17]), ([15, 18], [15, 18]), ([19, 15], [19]), ([20], [20]), ([21, 20], [20, 21]), ([22, 20, 20], [20, 22]), ([23], [23]), ([24, 23, 23], [23, 24]), ([25, 23], [23, 25]), ([23], [23]), ([27, 23], [23, 27]), ([26, 28, 23], [23, 26, 28]), ([23, 29, 20], [20, 23, 29]), ([20, 30], [20, 30])])
def usufructlaw15_CodeSagas.B8 : List Nat := [0, 1, 0, 4, 15, 31, 63, 63, 255, 511, 1023, 2047, 2047, 8191, 16383, 32767, 65535, 65535, 262143, 524287, 1048575, 2097151, 4194303, 8388607, 16777215, 33554431, 67108863, 16777215, 150994943, 536870911, 1073741823, 2147483647]
theorem usufructlaw15_CodeSagas.tab8 : rtab .any (opsOf Try.f3 8) = usufructlaw15_CodeSagas.T8 := by kernel_rfl
theorem usufructlaw15_CodeSagas.bits8 : waitsOk usufructlaw15_CodeSagas.T8.2 usufructlaw15_CodeSagas.B8 = true := by kernel_rfl
namespace usufructlaw15_CodeSagas
theorem mt_ {α β : Type} {f : α → β} {l : List α} : l.toArray.map f = (l.map f).toArray := List.map_toArray
theorem mc_ {α β : Type} {f : α → β} {a : α} {l : List α} : (a :: l).map f = f a :: l.map f := rfl
theorem mn_ {α β : Type} {f : α → β} : ([] : List α).map f = [] := rfl
abbrev zn_ := @blk_drewN
abbrev zd_ := @blk_drew
abbrev za_ := @blk_alloc
abbrev zf_ := @blk_frozen
abbrev zc_ := @blk_cell
abbrev zs_ := @below_set
abbrev zr_ := @blk_far
abbrev zp_ := @blk_put
abbrev pd_ := @pw_below_drewN
abbrev p1_ := @below_drew1
abbrev pa_ := @below_alloc
abbrev ak_ := @Aside0.mk
abbrev bl_ := @World.block_lt_of_cell?
abbrev ps_ := @below_step
def b_ (n k : Nat) : Array Bool := ((List.range n).map fun i => k.testBit i).toArray
theorem sa_ {α : Type} {l : List α} {i : Nat} {a : α} : l.toArray.setIfInBounds i a = (l.set i a).toArray := List.setIfInBounds_toArray l i a
theorem sz_ {α : Type} {a b : α} {l : List α} : (a :: l).set 0 b = b :: l := rfl
theorem ss_ {α : Type} {a b : α} {l : List α} {n : Nat} : (a :: l).set (n + 1) b = a :: l.set n b := rfl
end usufructlaw15_CodeSagas
open usufructlaw15_CodeSagas in
set_option maxHeartbeats 8000000 in
set_option maxRecDepth 100000 in
theorem usufructlaw15_CodeSagas.calls (k : Nat) (a0_0 : Int) (a0_1 : ByteArray) (a0_2 : Int) (a0_3 : Int) (a0_4 : Int) (a0_5 : Int) (a0_6 : Bool) (a0_7 : Int) (a0_8 : Int) (A1 : Option Addr) (c1 : Nat) (l1 : List Int) (r : Bool) (w : World) (hr1 : Kd.C (Kd.int .u8) w A1 l1.length l1) (hc1 : l1.length ≤ c1) (h : usufructlaw15_CodeSagas.f k a0_0 a0_1 a0_2 a0_3 a0_4 a0_5 a0_6 a0_7 a0_8 l1 = some r) (hT_ : r = true) :
    Calls Try.prog 3 #[.agg #[.int .i64 a0_0, .string a0_1, .int .i64 a0_2, .int .i64 a0_3, .int .i64 a0_4, .int .i64 a0_5, .bool a0_6, .int .i64 a0_7, .int .i64 a0_8], .slice A1 l1.length c1] w fun e w' => e = .returned (.bool r) ∧ Below w.heap.size w w' := by
  have HTR_ := ak_ hT_
  clear hT_
  have hu23 := Try.underlying23
  have HR1 := ak_ hr1
  have HC1 := ak_ hc1
  clear hr1 hc1
  have HB := ak_ (Below.refl w.heap.size w)
  have H : ((usufructlaw15_awake.f k).bind fun t295 => (if t295 = true then (if (a0_1.size : Int) > 200 then (usufructlaw15_CodeSagas.j0 k l1 true a0_0 a0_1 a0_2 a0_3 a0_4 a0_5 a0_6 a0_7 a0_8) else (usufructlaw15_CodeSagas.j0 k l1 (decide ((l1.length : Int) > 400)) a0_0 a0_1 a0_2 a0_3 a0_4 a0_5 a0_6 a0_7 a0_8)) else (some false))) = some r := h
  clear h
  replace H := Option.bind_eq_some_iff.mp H
  obtain ⟨t295, A30, H⟩ := H
  replace H : (if t295 = true then (if (a0_1.size : Int) > 200 then (usufructlaw15_CodeSagas.j0 k l1 true a0_0 a0_1 a0_2 a0_3 a0_4 a0_5 a0_6 a0_7 a0_8) else (usufructlaw15_CodeSagas.j0 k l1 (decide ((l1.length : Int) > 400)) a0_0 a0_1 a0_2 a0_3 a0_4 a0_5 a0_6 a0_7 a0_8)) else (some false)) = some r := H
  have A3 := ak_ A30
  clear A30
  by_cases c4 : t295 = true
  · subst c4
    have H1 : (if (a0_1.size : Int) > 200 then (usufructlaw15_CodeSagas.j0 k l1 true a0_0 a0_1 a0_2 a0_3 a0_4 a0_5 a0_6 a0_7 a0_8) else (usufructlaw15_CodeSagas.j0 k l1 (decide ((l1.length : Int) > 400)) a0_0 a0_1 a0_2 a0_3 a0_4 a0_5 a0_6 a0_7 a0_8)) = some r := by rw [if_pos rfl] at H; exact H
    clear H
    have H := H1
    clear H1
    have HC5 := ak_ H
    clear H
    go_enter Try.func3, Try.ntmps3
    go_upto_region 3 with (first | ((with_reducible refine gate_dst (N := 2) rfl ?_); (try (refine gate_guard (by rfl) ?_; dsimp only)); refine box_event ?hg (N := 2) ?hd (cs := #[.int .i64 a0_0, .string a0_1, .int .i64 a0_2, .int .i64 a0_3, .int .i64 a0_4, .int .i64 a0_5, .bool a0_6, .int .i64 a0_7, .int .i64 a0_8]) (t := 23) ?hr ?_; (case hd => rfl); (case hg => rfl); (case hr => first | (go_simp; done) | (go_simp; rfl)); intro gb294 hg w6 hbox hb; have n0_ := ak_ (ps_ (by repeat (first | (with_reducible first | exact HB.out | apply pa_ | apply pd_ | apply p1_) | exact HB.out)) hb); have n1_ := ak_ (hbox); have n2_ := ak_ ((by rw [hg]; exact (below_size (by repeat (first | (with_reducible first | exact HB.out | apply pa_ | apply pd_ | apply p1_) | exact HB.out))) : w.heap.size ≤ gb294)); have n3_ := ak_ ((by rw [hg]; exact (below_size (by repeat (first | (with_reducible first | exact HB.out | apply pa_ | apply pd_ | apply p1_) | exact HB.out))) : w.heap.size ≤ gb294)); clear HB; have HB := n0_; have BK294 := n1_; have GW294 := n2_; have GE294 := n3_; clear n0_ n1_ n2_ n3_; clear hb hbox hg) | ((with_reducible refine gate_callee (f := 4) rfl ?_); refine goesL_ (some 15) rfl rfl Try.func4 (by kernel_rfl) rfl #[] rfl (by simp only [mt_, mc_, mn_] <;> rfl) ?_; (with_reducible refine (usufructlaw15_awake.calls k  true _ A3.out).mono ?_); rintro e w7 ⟨rfl, hb⟩; refine ⟨_, rfl, ?_⟩; have n0_ := ak_ (blk_below (g := gb294) (o := .cells #[.int .i64 a0_0, .string a0_1, .int .i64 a0_2, .int .i64 a0_3, .int .i64 a0_4, .int .i64 a0_5, .bool a0_6, .int .i64 a0_7, .int .i64 a0_8] 23 (0, 0)) (by (with_reducible repeat (first | apply zn_ | apply zd_ | apply za_)); exact BK294.out) hb); have n1_ := ak_ (ps_ (by repeat (first | (with_reducible first | exact HB.out | apply pa_ | apply pd_ | apply p1_ | refine zs_ ?_ GE294.out) | exact HB.out)) hb); clear BK294; clear HB; have BK294 := n0_; have HB := n1_; clear n0_ n1_; (try clear hb hk hi)))
    (try simp only [Act.put, sa_, sz_, ss_])
    go_cut [25] (fun v25 wc => ∃ (kq : Nat) (x25_4 : Bool), v25 = .bool x25_4 ∧ Aside0 (usufructlaw15_CodeSagas.j0 kq l1 x25_4 a0_0 a0_1 a0_2 a0_3 a0_4 a0_5 a0_6 a0_7 a0_8 = some r) ∧ Aside0 (kq ≤ k) ∧ Aside0 (wc.heap[gb294]? = some (.cells #[.int .i64 a0_0, .string a0_1, .int .i64 a0_2, .int .i64 a0_3, .int .i64 a0_4, .int .i64 a0_5, .bool a0_6, .int .i64 a0_7, .int .i64 a0_8] 23 (0, 0))) ∧ Aside0 (Below w.heap.size w wc))
    case first =>
      have H := HC5.out
      clear HC5
      by_cases c8 : (a0_1.size : Int) > 200
      · rw [if_pos c8] at H
        have c8b0 : decide (200 < (a0_1.size : Int)) = true := decide_eq_true c8
        have c8b1 : decide (200 < a0_1.size) = true := decide_eq_true (by omega)
        clear c8
        (first | rw [c8b0] | (simp only [i64_w, i32_w]; rw [c8b0]) | skip)
        have H' := ak_ H
        clear H
        have hcz9_0 : w7.cell? ⟨gb294, 0, none⟩ = some (.int .i64 a0_0) := (zc_ BK294.out 0).trans rfl
        have hcz9_1 : w7.cell? ⟨gb294, 1, none⟩ = some (.string a0_1) := (zc_ BK294.out 1).trans rfl
        have hcz9_2 : w7.cell? ⟨gb294, 2, none⟩ = some (.int .i64 a0_2) := (zc_ BK294.out 2).trans rfl
        have hcz9_3 : w7.cell? ⟨gb294, 3, none⟩ = some (.int .i64 a0_3) := (zc_ BK294.out 3).trans rfl
        have hcz9_4 : w7.cell? ⟨gb294, 4, none⟩ = some (.int .i64 a0_4) := (zc_ BK294.out 4).trans rfl
        have hcz9_5 : w7.cell? ⟨gb294, 5, none⟩ = some (.int .i64 a0_5) := (zc_ BK294.out 5).trans rfl
        have hcz9_6 : w7.cell? ⟨gb294, 6, none⟩ = some (.bool a0_6) := (zc_ BK294.out 6).trans rfl
        have hcz9_7 : w7.cell? ⟨gb294, 7, none⟩ = some (.int .i64 a0_7) := (zc_ BK294.out 7).trans rfl
        have hcz9_8 : w7.cell? ⟨gb294, 8, none⟩ = some (.int .i64 a0_8) := (zc_ BK294.out 8).trans rfl
        have hfz9_0 := zf_ BK294.out 0
        have hfz9_1 := zf_ BK294.out 1
        have hfz9_2 := zf_ BK294.out 2
        have hfz9_3 := zf_ BK294.out 3
        have hfz9_4 := zf_ BK294.out 4
        have hfz9_5 := zf_ BK294.out 5
        have hfz9_6 := zf_ BK294.out 6
        have hfz9_7 := zf_ BK294.out 7
        have hfz9_8 := zf_ BK294.out 8
        go_wp2
        go_meet
        case rel => exact ⟨_, (true), (by first | rfl | (simp; done) | (simp [*]; done)), H', ⟨by first | omega | exact Nat.le_refl _⟩, ⟨by (with_reducible repeat (first | apply zn_ | apply zd_ | apply za_)); exact BK294.out⟩, ⟨by repeat (first | (with_reducible first | exact HB.out | apply pa_ | apply pd_ | apply p1_ | refine zs_ ?_ GE294.out) | exact HB.out)⟩⟩
      rw [if_neg c8] at H
      have c8b0 : decide (200 < (a0_1.size : Int)) = false := decide_eq_false c8
      have c8b1 : decide (200 < a0_1.size) = false := decide_eq_false (by omega)
      clear c8
      (first | rw [c8b0] | (simp only [i64_w, i32_w]; rw [c8b0]) | skip)
      have H' := ak_ H
      clear H
      have hcz10_0 : w7.cell? ⟨gb294, 0, none⟩ = some (.int .i64 a0_0) := (zc_ BK294.out 0).trans rfl
      have hcz10_1 : w7.cell? ⟨gb294, 1, none⟩ = some (.string a0_1) := (zc_ BK294.out 1).trans rfl
      have hcz10_2 : w7.cell? ⟨gb294, 2, none⟩ = some (.int .i64 a0_2) := (zc_ BK294.out 2).trans rfl
      have hcz10_3 : w7.cell? ⟨gb294, 3, none⟩ = some (.int .i64 a0_3) := (zc_ BK294.out 3).trans rfl
      have hcz10_4 : w7.cell? ⟨gb294, 4, none⟩ = some (.int .i64 a0_4) := (zc_ BK294.out 4).trans rfl
      have hcz10_5 : w7.cell? ⟨gb294, 5, none⟩ = some (.int .i64 a0_5) := (zc_ BK294.out 5).trans rfl
      have hcz10_6 : w7.cell? ⟨gb294, 6, none⟩ = some (.bool a0_6) := (zc_ BK294.out 6).trans rfl
      have hcz10_7 : w7.cell? ⟨gb294, 7, none⟩ = some (.int .i64 a0_7) := (zc_ BK294.out 7).trans rfl
      have hcz10_8 : w7.cell? ⟨gb294, 8, none⟩ = some (.int .i64 a0_8) := (zc_ BK294.out 8).trans rfl
      have hfz10_0 := zf_ BK294.out 0
      have hfz10_1 := zf_ BK294.out 1
      have hfz10_2 := zf_ BK294.out 2
      have hfz10_3 := zf_ BK294.out 3
      have hfz10_4 := zf_ BK294.out 4
      have hfz10_5 := zf_ BK294.out 5
      have hfz10_6 := zf_ BK294.out 6
      have hfz10_7 := zf_ BK294.out 7
      have hfz10_8 := zf_ BK294.out 8
      go_wp2
      go_meet
      case rel => exact ⟨_, (decide ((l1.length : Int) > 400)), (by first | rfl | (simp; done) | (simp [*]; done)), H', ⟨by first | omega | exact Nat.le_refl _⟩, ⟨by (with_reducible repeat (first | apply zn_ | apply zd_ | apply za_)); exact BK294.out⟩, ⟨by repeat (first | (with_reducible first | exact HB.out | apply pa_ | apply pd_ | apply p1_ | refine zs_ ?_ GE294.out) | exact HB.out)⟩⟩
    case rest =>
      clear HC5
      try clear c1
      try clear p2
      try clear c3
      try clear c4
      try clear c8
      try clear c8b0
      try clear c8b1
      try clear hcz10_0
      try clear hcz10_1
      try clear hcz10_2
      try clear hcz10_3
      try clear hcz10_4
      try clear hcz10_5
      try clear hcz10_6
      try clear hcz10_7
      try clear hcz10_8
      try clear hcz9_0
      try clear hcz9_1
      try clear hcz9_2
      try clear hcz9_3
      try clear hcz9_4
      try clear hcz9_5
      try clear hcz9_6
      try clear hcz9_7
      try clear hcz9_8
      try clear hfz10_0
      try clear hfz10_1
      try clear hfz10_2
      try clear hfz10_3
      try clear hfz10_4
      try clear hfz10_5
      try clear hfz10_6
      try clear hfz10_7
      try clear hfz10_8
      try clear hfz9_0
      try clear hfz9_1
      try clear hfz9_2
      try clear hfz9_3
      try clear hfz9_4
      try clear hfz9_5
      try clear hfz9_6
      try clear hfz9_7
      try clear hfz9_8
      obtain ⟨kq, x25_4, rfl, HA, HJ4, BK294, HB⟩ := hcut
      cases kq with
      | zero => exact absurd HA.out (by simp [usufructlaw15_CodeSagas.j0])
      | succ kj4 =>
        have H := HA.out
        clear HA
        simp only [usufructlaw15_CodeSagas.j0] at H
        by_cases c11 : x25_4 = true
        · subst c11
          have H1 : (some true) = some r := by rw [if_pos rfl] at H; exact H
          clear H
          have H := H1
          clear H1
          obtain rfl := Option.some.inj H
          go_wp2
          go_ret
          exact ⟨by first | rfl | (simp [errW_none, errW_some] <;> rfl) | (simp [*, errW_none, errW_some] <;> rfl), by repeat (first | (with_reducible first | exact HB.out | apply pa_ | apply pd_ | apply p1_ | refine zs_ ?_ GE294.out) | exact HB.out)⟩
        replace c11 := Bool.eq_false_iff.mpr c11
        subst c11
        have H1 : ((code_PutSaga.f a0_0 a0_1 a0_2 a0_3 a0_4 a0_5 a0_6 a0_7 a0_8).bind fun t296 => ((code_TakeSaga.f l1).bind fun bt299 => ((usufructref15_ReadSaga.f kj4 (strOfNums l1)).bind fun bt311 => ((usufructref15_Saga.f kj4 a0_0 a0_1 a0_2 a0_3 a0_4 a0_5 a0_6 a0_7 a0_8).bind fun t323 => (if (strOfNums t296).toList = t323.toList then (if (!(bt299.1 == bt311.1) || (!(bt299.2.1.toList == bt311.2.1.toList) || (!(bt299.2.2.1 == bt311.2.2.1) || (!(bt299.2.2.2.1 == bt311.2.2.2.1) || (!(bt299.2.2.2.2.1 == bt311.2.2.2.2.1) || (!(bt299.2.2.2.2.2.1 == bt311.2.2.2.2.2.1) || (!(bt299.2.2.2.2.2.2.1 == bt311.2.2.2.2.2.2.1) || (!(bt299.2.2.2.2.2.2.2.1 == bt311.2.2.2.2.2.2.2.1) || (!(bt299.2.2.2.2.2.2.2.2.1 == bt311.2.2.2.2.2.2.2.2.1)))))))))) = true then (usufructlaw15_CodeSagas.j1 kj4 t296 true a0_0 a0_1 a0_2 a0_3 a0_4 a0_5 a0_6 a0_7 a0_8) else (if bt299.2.2.2.2.2.2.2.2.2.1 = bt311.2.2.2.2.2.2.2.2.2.1 then (if bt299.2.2.2.2.2.2.2.2.2.2 = bt311.2.2.2.2.2.2.2.2.2.2 then (if bt299.2.2.2.2.2.2.2.2.2.2 = 0 then ((code_PutSaga.f bt299.1 bt299.2.1 bt299.2.2.1 bt299.2.2.2.1 bt299.2.2.2.2.1 bt299.2.2.2.2.2.1 bt299.2.2.2.2.2.2.1 bt299.2.2.2.2.2.2.2.1 bt299.2.2.2.2.2.2.2.2.1).bind fun t324 => (usufructlaw15_CodeSagas.j1 kj4 t296 ((strOfNums t324).toList != (strOfNums l1).toList) a0_0 a0_1 a0_2 a0_3 a0_4 a0_5 a0_6 a0_7 a0_8)) else (usufructlaw15_CodeSagas.j1 kj4 t296 false a0_0 a0_1 a0_2 a0_3 a0_4 a0_5 a0_6 a0_7 a0_8)) else (usufructlaw15_CodeSagas.j1 kj4 t296 true a0_0 a0_1 a0_2 a0_3 a0_4 a0_5 a0_6 a0_7 a0_8)) else (usufructlaw15_CodeSagas.j1 kj4 t296 true a0_0 a0_1 a0_2 a0_3 a0_4 a0_5 a0_6 a0_7 a0_8))) else (usufructlaw15_CodeSagas.j1 kj4 t296 true a0_0 a0_1 a0_2 a0_3 a0_4 a0_5 a0_6 a0_7 a0_8)))))) = some r := by rw [if_neg (show ¬ (false = true) by decide)] at H; exact H
        clear H
        have H := H1
        clear H1
        replace H := Option.bind_eq_some_iff.mp H
        obtain ⟨t296, A120, H⟩ := H
        replace H : ((code_TakeSaga.f l1).bind fun bt299 => ((usufructref15_ReadSaga.f kj4 (strOfNums l1)).bind fun bt311 => ((usufructref15_Saga.f kj4 a0_0 a0_1 a0_2 a0_3 a0_4 a0_5 a0_6 a0_7 a0_8).bind fun t323 => (if (strOfNums t296).toList = t323.toList then (if (!(bt299.1 == bt311.1) || (!(bt299.2.1.toList == bt311.2.1.toList) || (!(bt299.2.2.1 == bt311.2.2.1) || (!(bt299.2.2.2.1 == bt311.2.2.2.1) || (!(bt299.2.2.2.2.1 == bt311.2.2.2.2.1) || (!(bt299.2.2.2.2.2.1 == bt311.2.2.2.2.2.1) || (!(bt299.2.2.2.2.2.2.1 == bt311.2.2.2.2.2.2.1) || (!(bt299.2.2.2.2.2.2.2.1 == bt311.2.2.2.2.2.2.2.1) || (!(bt299.2.2.2.2.2.2.2.2.1 == bt311.2.2.2.2.2.2.2.2.1)))))))))) = true then (usufructlaw15_CodeSagas.j1 kj4 t296 true a0_0 a0_1 a0_2 a0_3 a0_4 a0_5 a0_6 a0_7 a0_8) else (if bt299.2.2.2.2.2.2.2.2.2.1 = bt311.2.2.2.2.2.2.2.2.2.1 then (if bt299.2.2.2.2.2.2.2.2.2.2 = bt311.2.2.2.2.2.2.2.2.2.2 then (if bt299.2.2.2.2.2.2.2.2.2.2 = 0 then ((code_PutSaga.f bt299.1 bt299.2.1 bt299.2.2.1 bt299.2.2.2.1 bt299.2.2.2.2.1 bt299.2.2.2.2.2.1 bt299.2.2.2.2.2.2.1 bt299.2.2.2.2.2.2.2.1 bt299.2.2.2.2.2.2.2.2.1).bind fun t324 => (usufructlaw15_CodeSagas.j1 kj4 t296 ((strOfNums t324).toList != (strOfNums l1).toList) a0_0 a0_1 a0_2 a0_3 a0_4 a0_5 a0_6 a0_7 a0_8)) else (usufructlaw15_CodeSagas.j1 kj4 t296 false a0_0 a0_1 a0_2 a0_3 a0_4 a0_5 a0_6 a0_7 a0_8)) else (usufructlaw15_CodeSagas.j1 kj4 t296 true a0_0 a0_1 a0_2 a0_3 a0_4 a0_5 a0_6 a0_7 a0_8)) else (usufructlaw15_CodeSagas.j1 kj4 t296 true a0_0 a0_1 a0_2 a0_3 a0_4 a0_5 a0_6 a0_7 a0_8))) else (usufructlaw15_CodeSagas.j1 kj4 t296 true a0_0 a0_1 a0_2 a0_3 a0_4 a0_5 a0_6 a0_7 a0_8))))) = some r := H
        have A12 := ak_ A120
        clear A120
        replace H := Option.bind_eq_some_iff.mp H
        obtain ⟨⟨t299, t300, t301, t302, t303, t304, t305, t306, t307, t308, t309⟩, A130, H⟩ := H
        replace H : ((usufructref15_ReadSaga.f kj4 (strOfNums l1)).bind fun bt311 => ((usufructref15_Saga.f kj4 a0_0 a0_1 a0_2 a0_3 a0_4 a0_5 a0_6 a0_7 a0_8).bind fun t323 => (if (strOfNums t296).toList = t323.toList then (if (!(t299 == bt311.1) || (!(t300.toList == bt311.2.1.toList) || (!(t301 == bt311.2.2.1) || (!(t302 == bt311.2.2.2.1) || (!(t303 == bt311.2.2.2.2.1) || (!(t304 == bt311.2.2.2.2.2.1) || (!(t305 == bt311.2.2.2.2.2.2.1) || (!(t306 == bt311.2.2.2.2.2.2.2.1) || (!(t307 == bt311.2.2.2.2.2.2.2.2.1)))))))))) = true then (usufructlaw15_CodeSagas.j1 kj4 t296 true a0_0 a0_1 a0_2 a0_3 a0_4 a0_5 a0_6 a0_7 a0_8) else (if t308 = bt311.2.2.2.2.2.2.2.2.2.1 then (if t309 = bt311.2.2.2.2.2.2.2.2.2.2 then (if t309 = 0 then ((code_PutSaga.f t299 t300 t301 t302 t303 t304 t305 t306 t307).bind fun t324 => (usufructlaw15_CodeSagas.j1 kj4 t296 ((strOfNums t324).toList != (strOfNums l1).toList) a0_0 a0_1 a0_2 a0_3 a0_4 a0_5 a0_6 a0_7 a0_8)) else (usufructlaw15_CodeSagas.j1 kj4 t296 false a0_0 a0_1 a0_2 a0_3 a0_4 a0_5 a0_6 a0_7 a0_8)) else (usufructlaw15_CodeSagas.j1 kj4 t296 true a0_0 a0_1 a0_2 a0_3 a0_4 a0_5 a0_6 a0_7 a0_8)) else (usufructlaw15_CodeSagas.j1 kj4 t296 true a0_0 a0_1 a0_2 a0_3 a0_4 a0_5 a0_6 a0_7 a0_8))) else (usufructlaw15_CodeSagas.j1 kj4 t296 true a0_0 a0_1 a0_2 a0_3 a0_4 a0_5 a0_6 a0_7 a0_8)))) = some r := H
        have A13 := ak_ A130
        clear A130
        replace H := Option.bind_eq_some_iff.mp H
        obtain ⟨⟨t311, t312, t313, t314, t315, t316, t317, t318, t319, t320, t321⟩, A140, H⟩ := H
        replace H : ((usufructref15_Saga.f kj4 a0_0 a0_1 a0_2 a0_3 a0_4 a0_5 a0_6 a0_7 a0_8).bind fun t323 => (if (strOfNums t296).toList = t323.toList then (if (!(t299 == t311) || (!(t300.toList == t312.toList) || (!(t301 == t313) || (!(t302 == t314) || (!(t303 == t315) || (!(t304 == t316) || (!(t305 == t317) || (!(t306 == t318) || (!(t307 == t319)))))))))) = true then (usufructlaw15_CodeSagas.j1 kj4 t296 true a0_0 a0_1 a0_2 a0_3 a0_4 a0_5 a0_6 a0_7 a0_8) else (if t308 = t320 then (if t309 = t321 then (if t309 = 0 then ((code_PutSaga.f t299 t300 t301 t302 t303 t304 t305 t306 t307).bind fun t324 => (usufructlaw15_CodeSagas.j1 kj4 t296 ((strOfNums t324).toList != (strOfNums l1).toList) a0_0 a0_1 a0_2 a0_3 a0_4 a0_5 a0_6 a0_7 a0_8)) else (usufructlaw15_CodeSagas.j1 kj4 t296 false a0_0 a0_1 a0_2 a0_3 a0_4 a0_5 a0_6 a0_7 a0_8)) else (usufructlaw15_CodeSagas.j1 kj4 t296 true a0_0 a0_1 a0_2 a0_3 a0_4 a0_5 a0_6 a0_7 a0_8)) else (usufructlaw15_CodeSagas.j1 kj4 t296 true a0_0 a0_1 a0_2 a0_3 a0_4 a0_5 a0_6 a0_7 a0_8))) else (usufructlaw15_CodeSagas.j1 kj4 t296 true a0_0 a0_1 a0_2 a0_3 a0_4 a0_5 a0_6 a0_7 a0_8))) = some r := H
        have A14 := ak_ A140
        clear A140
        have HC15 := ak_ H
        clear H
        have hcz16_0 : wc.cell? ⟨gb294, 0, none⟩ = some (.int .i64 a0_0) := (zc_ BK294.out 0).trans rfl
        have hcz16_1 : wc.cell? ⟨gb294, 1, none⟩ = some (.string a0_1) := (zc_ BK294.out 1).trans rfl
        have hcz16_2 : wc.cell? ⟨gb294, 2, none⟩ = some (.int .i64 a0_2) := (zc_ BK294.out 2).trans rfl
        have hcz16_3 : wc.cell? ⟨gb294, 3, none⟩ = some (.int .i64 a0_3) := (zc_ BK294.out 3).trans rfl
        have hcz16_4 : wc.cell? ⟨gb294, 4, none⟩ = some (.int .i64 a0_4) := (zc_ BK294.out 4).trans rfl
        have hcz16_5 : wc.cell? ⟨gb294, 5, none⟩ = some (.int .i64 a0_5) := (zc_ BK294.out 5).trans rfl
        have hcz16_6 : wc.cell? ⟨gb294, 6, none⟩ = some (.bool a0_6) := (zc_ BK294.out 6).trans rfl
        have hcz16_7 : wc.cell? ⟨gb294, 7, none⟩ = some (.int .i64 a0_7) := (zc_ BK294.out 7).trans rfl
        have hcz16_8 : wc.cell? ⟨gb294, 8, none⟩ = some (.int .i64 a0_8) := (zc_ BK294.out 8).trans rfl
        have hfz16_0 := zf_ BK294.out 0
        have hfz16_1 := zf_ BK294.out 1
        have hfz16_2 := zf_ BK294.out 2
        have hfz16_3 := zf_ BK294.out 3
        have hfz16_4 := zf_ BK294.out 4
        have hfz16_5 := zf_ BK294.out 5
        have hfz16_6 := zf_ BK294.out 6
        have hfz16_7 := zf_ BK294.out 7
        have hfz16_8 := zf_ BK294.out 8
        go_upto_region 8 with (first | ((with_reducible refine gate_callee (f := 5) rfl ?_); refine goesL_ (some 27) rfl rfl Try.func5 (by kernel_rfl) rfl #[.agg #[.int .i64 a0_0, .string a0_1, .int .i64 a0_2, .int .i64 a0_3, .int .i64 a0_4, .int .i64 a0_5, .bool a0_6, .int .i64 a0_7, .int .i64 a0_8]] rfl (by (try simp only [List.map_toArray, List.map_cons, List.map_nil]); first | done | rfl | (simp only [List.length_drop, List.length_take]; rfl)) ?_; (with_reducible refine (code_PutSaga.calls a0_0 a0_1 a0_2 a0_3 a0_4 a0_5 a0_6 a0_7 a0_8 t296 _ A12.out).mono ?_); rintro e w17 ⟨v297, rfl, ho0, hb⟩; refine ⟨_, rfl, ?_⟩; have n0_ := ak_ (Kd.R_lower ho0 (below_size (by repeat (first | (with_reducible first | exact HB.out | apply pa_ | apply pd_ | apply p1_ | refine zs_ ?_ GE294.out) | exact HB.out)))); have n1_ := ak_ (blk_below (g := gb294) (o := .cells #[.int .i64 a0_0, .string a0_1, .int .i64 a0_2, .int .i64 a0_3, .int .i64 a0_4, .int .i64 a0_5, .bool a0_6, .int .i64 a0_7, .int .i64 a0_8] 23 (0, 0)) (by (with_reducible repeat (first | apply zn_ | apply zd_ | apply za_)); exact BK294.out) hb); have n2_ := ak_ (ps_ (by repeat (first | (with_reducible first | exact HB.out | apply pa_ | apply pd_ | apply p1_ | refine zs_ ?_ GE294.out) | exact HB.out)) hb); clear BK294; clear HB; have HO298 := n0_; have BK294 := n1_; have HB := n2_; clear n0_ n1_ n2_; (try clear hb hk hi); (try clear ho0)) | ((with_reducible refine gate_callee (f := 6) rfl ?_); refine goesL_ (some 30) rfl rfl Try.func6 (by kernel_rfl) rfl #[.slice A1 l1.length c1] rfl (by (try simp only [List.map_toArray, List.map_cons, List.map_nil]); first | done | rfl | (simp only [List.length_drop, List.length_take]; rfl)) ?_; (with_reducible refine (code_TakeSaga.calls _ _ l1 t299 t300 t301 t302 t303 t304 t305 t306 t307 t308 t309 _ ?side1 ?side2 A13.out).mono ?_); (case side1 => repeat (first | exact (Kd.C_below HR1.out HB.out) | (with_reducible refine Kd.C_alloc ?_ _) | (with_reducible refine Kd.C_drewN ?_ _) | (with_reducible refine Kd.C_drew ?_))); (case side2 => exact HC1.out); rintro e w18 ⟨rfl, hb⟩; refine ⟨_, rfl, ?_⟩; have n0_ := ak_ (Kd.R_below (by (with_reducible repeat (first | apply Kd.R_alloc | apply Kd.R_drewN | apply Kd.R_drew)); exact HO298.out) hb); have n1_ := ak_ (blk_below (g := gb294) (o := .cells #[.int .i64 a0_0, .string a0_1, .int .i64 a0_2, .int .i64 a0_3, .int .i64 a0_4, .int .i64 a0_5, .bool a0_6, .int .i64 a0_7, .int .i64 a0_8] 23 (0, 0)) (by (with_reducible repeat (first | apply zn_ | apply zd_ | apply za_)); exact BK294.out) hb); have n2_ := ak_ (ps_ (by repeat (first | (with_reducible first | exact HB.out | apply pa_ | apply pd_ | apply p1_ | refine zs_ ?_ GE294.out) | exact HB.out)) hb); clear HO298; clear BK294; clear HB; have HO298 := n0_; have BK294 := n1_; have HB := n2_; clear n0_ n1_ n2_; (try clear hb hk hi)) | ((with_reducible refine gate_dst (N := 6) rfl ?_); (try (refine gate_guard (by rfl) ?_; dsimp only)); refine box_event ?hg (N := 6) ?hd (cs := #[.int .i64 0, .string ⟨#[]⟩, .int .i64 0, .int .i64 0, .int .i64 0, .int .i64 0, .bool false, .int .i64 0, .int .i64 0]) (t := 23) ?hr ?_; (case hd => rfl); (case hg => rfl); (case hr => first | (go_simp; done) | (go_simp; rfl)); intro gb310 hg w19 hbox hb; have n0_ := ak_ (Kd.R_below (by (with_reducible repeat (first | apply Kd.R_alloc | apply Kd.R_drewN | apply Kd.R_drew)); exact HO298.out) hb); have n1_ := ak_ (blk_below (g := gb294) (o := .cells #[.int .i64 a0_0, .string a0_1, .int .i64 a0_2, .int .i64 a0_3, .int .i64 a0_4, .int .i64 a0_5, .bool a0_6, .int .i64 a0_7, .int .i64 a0_8] 23 (0, 0)) (by (with_reducible repeat (first | apply zn_ | apply zd_ | apply za_)); exact BK294.out) hb); have n2_ := ak_ (ps_ (by repeat (first | (with_reducible first | exact HB.out | apply pa_ | apply pd_ | apply p1_ | refine zs_ ?_ GE294.out) | exact HB.out)) hb); have n3_ := ak_ (hbox); have n4_ := ak_ ((by rw [hg]; exact (below_size (by repeat (first | (with_reducible first | exact HB.out | apply pa_ | apply pd_ | apply p1_ | refine zs_ ?_ GE294.out) | exact HB.out))) : w.heap.size ≤ gb310)); have n5_ := ak_ ((by rw [hg]; exact (below_size (by repeat (first | (with_reducible first | exact HB.out | apply pa_ | apply pd_ | apply p1_ | refine zs_ ?_ GE294.out) | exact HB.out))) : w.heap.size ≤ gb310)); have n6_ := ak_ ((by rw [hg]; exact Nat.ne_of_lt (blk_lt (g := gb294) (o := .cells #[.int .i64 a0_0, .string a0_1, .int .i64 a0_2, .int .i64 a0_3, .int .i64 a0_4, .int .i64 a0_5, .bool a0_6, .int .i64 a0_7, .int .i64 a0_8] 23 (0, 0)) (by (with_reducible repeat (first | apply zn_ | apply zd_ | apply za_)); exact BK294.out)) : gb294 ≠ gb310)); have n7_ := ak_ ((by rw [hg]; exact Nat.ne_of_gt (blk_lt (g := gb294) (o := .cells #[.int .i64 a0_0, .string a0_1, .int .i64 a0_2, .int .i64 a0_3, .int .i64 a0_4, .int .i64 a0_5, .bool a0_6, .int .i64 a0_7, .int .i64 a0_8] 23 (0, 0)) (by (with_reducible repeat (first | apply zn_ | apply zd_ | apply za_)); exact BK294.out)) : gb310 ≠ gb294)); clear HO298; clear BK294; clear HB; have HO298 := n0_; have BK294 := n1_; have HB := n2_; have BK310 := n3_; have GW310 := n4_; have GE310 := n5_; have NB294_310 := n6_; have NB310_294 := n7_; clear n0_ n1_ n2_ n3_ n4_ n5_ n6_ n7_; clear hb hbox hg; have hnb20 := NB310_294.out; have hnc20 := NB294_310.out; have hcz21_0 : w19.cell? ⟨gb310, 0, none⟩ = some (.int .i64 0) := (zc_ BK310.out 0).trans rfl; have hcz21_1 : w19.cell? ⟨gb310, 1, none⟩ = some (.string ⟨#[]⟩) := (zc_ BK310.out 1).trans rfl; have hcz21_2 : w19.cell? ⟨gb310, 2, none⟩ = some (.int .i64 0) := (zc_ BK310.out 2).trans rfl; have hcz21_3 : w19.cell? ⟨gb310, 3, none⟩ = some (.int .i64 0) := (zc_ BK310.out 3).trans rfl; have hcz21_4 : w19.cell? ⟨gb310, 4, none⟩ = some (.int .i64 0) := (zc_ BK310.out 4).trans rfl; have hcz21_5 : w19.cell? ⟨gb310, 5, none⟩ = some (.int .i64 0) := (zc_ BK310.out 5).trans rfl; have hcz21_6 : w19.cell? ⟨gb310, 6, none⟩ = some (.bool false) := (zc_ BK310.out 6).trans rfl; have hcz21_7 : w19.cell? ⟨gb310, 7, none⟩ = some (.int .i64 0) := (zc_ BK310.out 7).trans rfl; have hcz21_8 : w19.cell? ⟨gb310, 8, none⟩ = some (.int .i64 0) := (zc_ BK310.out 8).trans rfl; have hfz21_0 := zf_ BK310.out 0; have hfz21_1 := zf_ BK310.out 1; have hfz21_2 := zf_ BK310.out 2; have hfz21_3 := zf_ BK310.out 3; have hfz21_4 := zf_ BK310.out 4; have hfz21_5 := zf_ BK310.out 5; have hfz21_6 := zf_ BK310.out 6; have hfz21_7 := zf_ BK310.out 7; have hfz21_8 := zf_ BK310.out 8; have hcv22 := Kd.C_string (P := Try.prog) (A := A1) (c := c1) Try.underlying24 Try.underlying5 Try.underlying9 (Kd.C_below HR1.out HB.out)) | ((with_reducible refine gate_callee (f := 7) rfl ?_); refine goesL_ (some 37) rfl rfl Try.func7 (by kernel_rfl) rfl #[.string (strOfNums l1)] rfl (by simp only [mt_, mc_, mn_] <;> rfl) ?_; (with_reducible refine (usufructref15_ReadSaga.calls kj4 (strOfNums l1) t311 t312 t313 t314 t315 t316 t317 t318 t319 t320 t321 _ A14.out).mono ?_); rintro e w23 ⟨rfl, hb⟩; refine ⟨_, rfl, ?_⟩; have n0_ := ak_ (Kd.R_below (by (with_reducible repeat (first | apply Kd.R_alloc | apply Kd.R_drewN | apply Kd.R_drew)); exact (Kd.R_mono (Kd.R_far (p := ⟨gb310, 8, none⟩) (Kd.R_far (p := ⟨gb310, 7, none⟩) (Kd.R_far (p := ⟨gb310, 6, none⟩) (Kd.R_far (p := ⟨gb310, 5, none⟩) (Kd.R_far (p := ⟨gb310, 4, none⟩) (Kd.R_far (p := ⟨gb310, 3, none⟩) (Kd.R_far (p := ⟨gb310, 2, none⟩) (Kd.R_far (p := ⟨gb310, 1, none⟩) (Kd.R_far (p := ⟨gb310, 0, none⟩) (Kd.R_types HO298.out BK310.out (by decide)) (fun _ hk => hk.2) (.int .i64 t299)) (fun _ hk => hk.2) (.string t300)) (fun _ hk => hk.2) (.int .i64 t301)) (fun _ hk => hk.2) (.int .i64 t302)) (fun _ hk => hk.2) (.int .i64 t303)) (fun _ hk => hk.2) (.int .i64 t304)) (fun _ hk => hk.2) (.bool t305)) (fun _ hk => hk.2) (.int .i64 t306)) (fun _ hk => hk.2) (.int .i64 t307)) (fun _ h_ => h_.1))) hb); have n1_ := ak_ (blk_below (g := gb294) (o := .cells #[.int .i64 a0_0, .string a0_1, .int .i64 a0_2, .int .i64 a0_3, .int .i64 a0_4, .int .i64 a0_5, .bool a0_6, .int .i64 a0_7, .int .i64 a0_8] 23 (0, 0)) (by (repeat (first | (with_reducible first | apply zn_ | apply zd_ | apply za_) | refine zr_ ?_ NB294_310.out _)); (with_reducible repeat (first | apply zn_ | apply zd_ | apply za_)); exact BK294.out) hb); have n2_ := ak_ (blk_below (g := gb310) (o := .cells #[.int .i64 t299, .string t300, .int .i64 t301, .int .i64 t302, .int .i64 t303, .int .i64 t304, .bool t305, .int .i64 t306, .int .i64 t307] 23 (0, 0)) (by (with_reducible repeat (first | apply zn_ | apply zd_ | apply za_)); refine zp_ (cs := #[.int .i64 t299, .string t300, .int .i64 t301, .int .i64 t302, .int .i64 t303, .int .i64 t304, .bool t305, .int .i64 t306, .int .i64 0]) ?_ 8 _ rfl; (with_reducible repeat (first | apply zn_ | apply zd_ | apply za_)); refine zp_ (cs := #[.int .i64 t299, .string t300, .int .i64 t301, .int .i64 t302, .int .i64 t303, .int .i64 t304, .bool t305, .int .i64 0, .int .i64 0]) ?_ 7 _ rfl; (with_reducible repeat (first | apply zn_ | apply zd_ | apply za_)); refine zp_ (cs := #[.int .i64 t299, .string t300, .int .i64 t301, .int .i64 t302, .int .i64 t303, .int .i64 t304, .bool false, .int .i64 0, .int .i64 0]) ?_ 6 _ rfl; (with_reducible repeat (first | apply zn_ | apply zd_ | apply za_)); refine zp_ (cs := #[.int .i64 t299, .string t300, .int .i64 t301, .int .i64 t302, .int .i64 t303, .int .i64 0, .bool false, .int .i64 0, .int .i64 0]) ?_ 5 _ rfl; (with_reducible repeat (first | apply zn_ | apply zd_ | apply za_)); refine zp_ (cs := #[.int .i64 t299, .string t300, .int .i64 t301, .int .i64 t302, .int .i64 0, .int .i64 0, .bool false, .int .i64 0, .int .i64 0]) ?_ 4 _ rfl; (with_reducible repeat (first | apply zn_ | apply zd_ | apply za_)); refine zp_ (cs := #[.int .i64 t299, .string t300, .int .i64 t301, .int .i64 0, .int .i64 0, .int .i64 0, .bool false, .int .i64 0, .int .i64 0]) ?_ 3 _ rfl; (with_reducible repeat (first | apply zn_ | apply zd_ | apply za_)); refine zp_ (cs := #[.int .i64 t299, .string t300, .int .i64 0, .int .i64 0, .int .i64 0, .int .i64 0, .bool false, .int .i64 0, .int .i64 0]) ?_ 2 _ rfl; (with_reducible repeat (first | apply zn_ | apply zd_ | apply za_)); refine zp_ (cs := #[.int .i64 t299, .string ⟨#[]⟩, .int .i64 0, .int .i64 0, .int .i64 0, .int .i64 0, .bool false, .int .i64 0, .int .i64 0]) ?_ 1 _ rfl; (with_reducible repeat (first | apply zn_ | apply zd_ | apply za_)); refine zp_ (cs := #[.int .i64 0, .string ⟨#[]⟩, .int .i64 0, .int .i64 0, .int .i64 0, .int .i64 0, .bool false, .int .i64 0, .int .i64 0]) ?_ 0 _ rfl; (with_reducible repeat (first | apply zn_ | apply zd_ | apply za_)); exact BK310.out) hb); have n3_ := ak_ (ps_ (by repeat (first | (with_reducible first | exact HB.out | apply pa_ | apply pd_ | apply p1_ | refine zs_ ?_ GE294.out | refine zs_ ?_ GE310.out) | exact HB.out)) hb); clear HO298; clear BK294; clear BK310; clear HB; have HO298 := n0_; have BK294 := n1_; have BK310 := n2_; have HB := n3_; clear n0_ n1_ n2_ n3_; (try clear hb hk hi)) | ((with_reducible refine gate_dst (N := 9) rfl ?_); (try (refine gate_guard (by rfl) ?_; dsimp only)); refine box_event ?hg (N := 9) ?hd (cs := #[.int .i64 0, .string ⟨#[]⟩, .int .i64 0, .int .i64 0, .int .i64 0, .int .i64 0, .bool false, .int .i64 0, .int .i64 0]) (t := 23) ?hr ?_; (case hd => rfl); (case hg => rfl); (case hr => first | (go_simp; done) | (go_simp; rfl)); intro gb322 hg w24 hbox hb; have n0_ := ak_ (Kd.R_below (by (with_reducible repeat (first | apply Kd.R_alloc | apply Kd.R_drewN | apply Kd.R_drew)); exact HO298.out) hb); have n1_ := ak_ (blk_below (g := gb294) (o := .cells #[.int .i64 a0_0, .string a0_1, .int .i64 a0_2, .int .i64 a0_3, .int .i64 a0_4, .int .i64 a0_5, .bool a0_6, .int .i64 a0_7, .int .i64 a0_8] 23 (0, 0)) (by (with_reducible repeat (first | apply zn_ | apply zd_ | apply za_)); exact BK294.out) hb); have n2_ := ak_ (blk_below (g := gb310) (o := .cells #[.int .i64 t299, .string t300, .int .i64 t301, .int .i64 t302, .int .i64 t303, .int .i64 t304, .bool t305, .int .i64 t306, .int .i64 t307] 23 (0, 0)) (by (with_reducible repeat (first | apply zn_ | apply zd_ | apply za_)); exact BK310.out) hb); have n3_ := ak_ (ps_ (by repeat (first | (with_reducible first | exact HB.out | apply pa_ | apply pd_ | apply p1_ | refine zs_ ?_ GE294.out | refine zs_ ?_ GE310.out) | exact HB.out)) hb); have n4_ := ak_ (hbox); have n5_ := ak_ ((by rw [hg]; exact (below_size (by repeat (first | (with_reducible first | exact HB.out | apply pa_ | apply pd_ | apply p1_ | refine zs_ ?_ GE294.out | refine zs_ ?_ GE310.out) | exact HB.out))) : w.heap.size ≤ gb322)); have n6_ := ak_ ((by rw [hg]; exact (below_size (by repeat (first | (with_reducible first | exact HB.out | apply pa_ | apply pd_ | apply p1_ | refine zs_ ?_ GE294.out | refine zs_ ?_ GE310.out) | exact HB.out))) : w.heap.size ≤ gb322)); have n7_ := ak_ ((by rw [hg]; exact Nat.ne_of_lt (blk_lt (g := gb294) (o := .cells #[.int .i64 a0_0, .string a0_1, .int .i64 a0_2, .int .i64 a0_3, .int .i64 a0_4, .int .i64 a0_5, .bool a0_6, .int .i64 a0_7, .int .i64 a0_8] 23 (0, 0)) (by (with_reducible repeat (first | apply zn_ | apply zd_ | apply za_)); exact BK294.out)) : gb294 ≠ gb322)); have n8_ := ak_ ((by rw [hg]; exact Nat.ne_of_gt (blk_lt (g := gb294) (o := .cells #[.int .i64 a0_0, .string a0_1, .int .i64 a0_2, .int .i64 a0_3, .int .i64 a0_4, .int .i64 a0_5, .bool a0_6, .int .i64 a0_7, .int .i64 a0_8] 23 (0, 0)) (by (with_reducible repeat (first | apply zn_ | apply zd_ | apply za_)); exact BK294.out)) : gb322 ≠ gb294)); have n9_ := ak_ ((by rw [hg]; exact Nat.ne_of_lt (blk_lt (g := gb310) (o := .cells #[.int .i64 t299, .string t300, .int .i64 t301, .int .i64 t302, .int .i64 t303, .int .i64 t304, .bool t305, .int .i64 t306, .int .i64 t307] 23 (0, 0)) (by (with_reducible repeat (first | apply zn_ | apply zd_ | apply za_)); exact BK310.out)) : gb310 ≠ gb322)); have n10_ := ak_ ((by rw [hg]; exact Nat.ne_of_gt (blk_lt (g := gb310) (o := .cells #[.int .i64 t299, .string t300, .int .i64 t301, .int .i64 t302, .int .i64 t303, .int .i64 t304, .bool t305, .int .i64 t306, .int .i64 t307] 23 (0, 0)) (by (with_reducible repeat (first | apply zn_ | apply zd_ | apply za_)); exact BK310.out)) : gb322 ≠ gb310)); clear HO298; clear BK294; clear BK310; clear HB; have HO298 := n0_; have BK294 := n1_; have BK310 := n2_; have HB := n3_; have BK322 := n4_; have GW322 := n5_; have GE322 := n6_; have NB294_322 := n7_; have NB322_294 := n8_; have NB310_322 := n9_; have NB322_310 := n10_; clear n0_ n1_ n2_ n3_ n4_ n5_ n6_ n7_ n8_ n9_ n10_; clear hb hbox hg; have hnb25 := NB322_294.out; have hnc25 := NB294_322.out; have hnb26 := NB322_310.out; have hnc26 := NB310_322.out; have hcz27_0 : w24.cell? ⟨gb322, 0, none⟩ = some (.int .i64 0) := (zc_ BK322.out 0).trans rfl; have hcz27_1 : w24.cell? ⟨gb322, 1, none⟩ = some (.string ⟨#[]⟩) := (zc_ BK322.out 1).trans rfl; have hcz27_2 : w24.cell? ⟨gb322, 2, none⟩ = some (.int .i64 0) := (zc_ BK322.out 2).trans rfl; have hcz27_3 : w24.cell? ⟨gb322, 3, none⟩ = some (.int .i64 0) := (zc_ BK322.out 3).trans rfl; have hcz27_4 : w24.cell? ⟨gb322, 4, none⟩ = some (.int .i64 0) := (zc_ BK322.out 4).trans rfl; have hcz27_5 : w24.cell? ⟨gb322, 5, none⟩ = some (.int .i64 0) := (zc_ BK322.out 5).trans rfl; have hcz27_6 : w24.cell? ⟨gb322, 6, none⟩ = some (.bool false) := (zc_ BK322.out 6).trans rfl; have hcz27_7 : w24.cell? ⟨gb322, 7, none⟩ = some (.int .i64 0) := (zc_ BK322.out 7).trans rfl; have hcz27_8 : w24.cell? ⟨gb322, 8, none⟩ = some (.int .i64 0) := (zc_ BK322.out 8).trans rfl; have hfz27_0 := zf_ BK322.out 0; have hfz27_1 := zf_ BK322.out 1; have hfz27_2 := zf_ BK322.out 2; have hfz27_3 := zf_ BK322.out 3; have hfz27_4 := zf_ BK322.out 4; have hfz27_5 := zf_ BK322.out 5; have hfz27_6 := zf_ BK322.out 6; have hfz27_7 := zf_ BK322.out 7; have hfz27_8 := zf_ BK322.out 8) | ((with_reducible refine gate_dst (N := 36) rfl ?_); refine wp_cv rfl (.tmp 35) 24 9 5 rfl A1 c1 l1 rfl Try.underlying24 Try.underlying5 Try.underlying9 (Kd.C_below HR1.out ?side9) ?_; (case side9 => repeat (first | (with_reducible first | exact HB.out | apply pa_ | apply pd_ | apply p1_ | refine zs_ ?_ GE294.out | refine zs_ ?_ GE310.out) | exact HB.out))))
        (try simp only [Act.put, sa_, sz_, ss_])
        go_cut [72] (fun v72 wc => ∃ (kq : Nat) (x72_14 : Bool), v72 = .bool x72_14 ∧ Aside0 (usufructlaw15_CodeSagas.j1 kq t296 x72_14 a0_0 a0_1 a0_2 a0_3 a0_4 a0_5 a0_6 a0_7 a0_8 = some r) ∧ Aside0 (kq ≤ kj4) ∧ Aside0 (Kd.R (Kd.int .u8) 5 wc w.heap.size (fun _ => True) v297 t296) ∧ Aside0 (wc.heap[gb294]? = some (.cells #[.int .i64 a0_0, .string a0_1, .int .i64 a0_2, .int .i64 a0_3, .int .i64 a0_4, .int .i64 a0_5, .bool a0_6, .int .i64 a0_7, .int .i64 a0_8] 23 (0, 0))) ∧ Aside0 (wc.heap[gb310]? = some (.cells #[.int .i64 t299, .string t300, .int .i64 t301, .int .i64 t302, .int .i64 t303, .int .i64 t304, .bool t305, .int .i64 t306, .int .i64 t307] 23 (0, 0))) ∧ Aside0 (wc.heap[gb322]? = some (.cells #[.int .i64 t311, .string t312, .int .i64 t313, .int .i64 t314, .int .i64 t315, .int .i64 t316, .bool t317, .int .i64 t318, .int .i64 t319] 23 (0, 0))) ∧ Aside0 (Below w.heap.size w wc))
        case first =>
          have H := HC15.out
          clear HC15
          replace H := Option.bind_eq_some_iff.mp H
          obtain ⟨t323, A280, H⟩ := H
          replace H : (if (strOfNums t296).toList = t323.toList then (if (!(t299 == t311) || (!(t300.toList == t312.toList) || (!(t301 == t313) || (!(t302 == t314) || (!(t303 == t315) || (!(t304 == t316) || (!(t305 == t317) || (!(t306 == t318) || (!(t307 == t319)))))))))) = true then (usufructlaw15_CodeSagas.j1 kj4 t296 true a0_0 a0_1 a0_2 a0_3 a0_4 a0_5 a0_6 a0_7 a0_8) else (if t308 = t320 then (if t309 = t321 then (if t309 = 0 then ((code_PutSaga.f t299 t300 t301 t302 t303 t304 t305 t306 t307).bind fun t324 => (usufructlaw15_CodeSagas.j1 kj4 t296 ((strOfNums t324).toList != (strOfNums l1).toList) a0_0 a0_1 a0_2 a0_3 a0_4 a0_5 a0_6 a0_7 a0_8)) else (usufructlaw15_CodeSagas.j1 kj4 t296 false a0_0 a0_1 a0_2 a0_3 a0_4 a0_5 a0_6 a0_7 a0_8)) else (usufructlaw15_CodeSagas.j1 kj4 t296 true a0_0 a0_1 a0_2 a0_3 a0_4 a0_5 a0_6 a0_7 a0_8)) else (usufructlaw15_CodeSagas.j1 kj4 t296 true a0_0 a0_1 a0_2 a0_3 a0_4 a0_5 a0_6 a0_7 a0_8))) else (usufructlaw15_CodeSagas.j1 kj4 t296 true a0_0 a0_1 a0_2 a0_3 a0_4 a0_5 a0_6 a0_7 a0_8)) = some r := H
          have A28 := ak_ A280
          clear A280
          by_cases c29 : (strOfNums t296).toList = t323.toList
          · rw [if_pos c29] at H
            have c29b0 : ((strOfNums t296).toList == t323.toList) = true := beq_iff_eq.mpr c29
            have c29b1 : ((strOfNums t296).toList != t323.toList) = false := bne_eq_false_iff_eq.mpr c29
            clear c29
            (first | rw [c29b0] | (simp only [i64_w, i32_w]; rw [c29b0]) | skip)
            by_cases c30 : (!(t299 == t311) || (!(t300.toList == t312.toList) || (!(t301 == t313) || (!(t302 == t314) || (!(t303 == t315) || (!(t304 == t316) || (!(t305 == t317) || (!(t306 == t318) || (!(t307 == t319)))))))))) = true
            · rw [if_pos c30] at H
              have c30b0 : (!(t299 == t311) || (!(t300.toList == t312.toList) || (!(t301 == t313) || (!(t302 == t314) || (!(t303 == t315) || (!(t304 == t316) || (!(t305 == t317) || (!(t306 == t318) || (!(t307 == t319)))))))))) = true := c30
              clear c30
              exfalso
              revert H
              cases kj4 <;> simp [usufructlaw15_CodeSagas.j1, HTR_.out]
            rw [if_neg c30] at H
            have c30b0 : (!(t299 == t311) || (!(t300.toList == t312.toList) || (!(t301 == t313) || (!(t302 == t314) || (!(t303 == t315) || (!(t304 == t316) || (!(t305 == t317) || (!(t306 == t318) || (!(t307 == t319)))))))))) = false := by simpa using c30
            clear c30
            by_cases c31 : t308 = t320
            · rw [if_pos c31] at H
              have c31b0 : (t308 == t320) = true := beq_iff_eq.mpr c31
              have c31b1 : (t308 != t320) = false := bne_eq_false_iff_eq.mpr c31
              clear c31
              by_cases c32 : t309 = t321
              · rw [if_pos c32] at H
                have c32b0 : (t309 == t321) = true := beq_iff_eq.mpr c32
                have c32b1 : (t309 != t321) = false := bne_eq_false_iff_eq.mpr c32
                clear c32
                by_cases c33 : t309 = 0
                · rw [if_pos c33] at H
                  have c33b0 : (t309 == 0) = true := beq_iff_eq.mpr c33
                  have c33b1 : (t309 != 0) = false := bne_eq_false_iff_eq.mpr c33
                  clear c33
                  replace H := Option.bind_eq_some_iff.mp H
                  obtain ⟨t324, A340, H⟩ := H
                  replace H : (usufructlaw15_CodeSagas.j1 kj4 t296 ((strOfNums t324).toList != (strOfNums l1).toList) a0_0 a0_1 a0_2 a0_3 a0_4 a0_5 a0_6 a0_7 a0_8) = some r := H
                  have A34 := ak_ A340
                  clear A340
                  have H' := ak_ H
                  clear H
                  try go_wp2
                  have n0_ : Aside0 (Kd.R (Kd.int .u8) 5 (((((((((w24.setCell ⟨gb322, 0, none⟩ (.int .i64 t311)).setCell ⟨gb322, 1, none⟩ (.string t312)).setCell ⟨gb322, 2, none⟩ (.int .i64 t313)).setCell ⟨gb322, 3, none⟩ (.int .i64 t314)).setCell ⟨gb322, 4, none⟩ (.int .i64 t315)).setCell ⟨gb322, 5, none⟩ (.int .i64 t316)).setCell ⟨gb322, 6, none⟩ (.bool t317)).setCell ⟨gb322, 7, none⟩ (.int .i64 t318)).setCell ⟨gb322, 8, none⟩ (.int .i64 t319)) w.heap.size (fun _ => True) v297 t296) := ⟨by (with_reducible repeat (first | apply Kd.R_alloc | apply Kd.R_drewN | apply Kd.R_drew)); exact Kd.R_mono (Kd.R_far (p := ⟨gb322, 8, none⟩) (Kd.R_far (p := ⟨gb322, 7, none⟩) (Kd.R_far (p := ⟨gb322, 6, none⟩) (Kd.R_far (p := ⟨gb322, 5, none⟩) (Kd.R_far (p := ⟨gb322, 4, none⟩) (Kd.R_far (p := ⟨gb322, 3, none⟩) (Kd.R_far (p := ⟨gb322, 2, none⟩) (Kd.R_far (p := ⟨gb322, 1, none⟩) (Kd.R_far (p := ⟨gb322, 0, none⟩) (Kd.R_types HO298.out BK322.out (by decide)) (fun _ hk => hk.2) (.int .i64 t311)) (fun _ hk => hk.2) (.string t312)) (fun _ hk => hk.2) (.int .i64 t313)) (fun _ hk => hk.2) (.int .i64 t314)) (fun _ hk => hk.2) (.int .i64 t315)) (fun _ hk => hk.2) (.int .i64 t316)) (fun _ hk => hk.2) (.bool t317)) (fun _ hk => hk.2) (.int .i64 t318)) (fun _ hk => hk.2) (.int .i64 t319)) (fun _ hk => trivial)⟩
                  have n1_ : Aside0 ((((((((((w24.setCell ⟨gb322, 0, none⟩ (.int .i64 t311)).setCell ⟨gb322, 1, none⟩ (.string t312)).setCell ⟨gb322, 2, none⟩ (.int .i64 t313)).setCell ⟨gb322, 3, none⟩ (.int .i64 t314)).setCell ⟨gb322, 4, none⟩ (.int .i64 t315)).setCell ⟨gb322, 5, none⟩ (.int .i64 t316)).setCell ⟨gb322, 6, none⟩ (.bool t317)).setCell ⟨gb322, 7, none⟩ (.int .i64 t318)).setCell ⟨gb322, 8, none⟩ (.int .i64 t319)).heap[gb294]? = some (.cells #[.int .i64 a0_0, .string a0_1, .int .i64 a0_2, .int .i64 a0_3, .int .i64 a0_4, .int .i64 a0_5, .bool a0_6, .int .i64 a0_7, .int .i64 a0_8] 23 (0, 0))) := ⟨by (repeat (first | (with_reducible first | apply zn_ | apply zd_ | apply za_) | refine zr_ ?_ NB294_322.out _)); (with_reducible repeat (first | apply zn_ | apply zd_ | apply za_)); exact BK294.out⟩
                  have n2_ : Aside0 ((((((((((w24.setCell ⟨gb322, 0, none⟩ (.int .i64 t311)).setCell ⟨gb322, 1, none⟩ (.string t312)).setCell ⟨gb322, 2, none⟩ (.int .i64 t313)).setCell ⟨gb322, 3, none⟩ (.int .i64 t314)).setCell ⟨gb322, 4, none⟩ (.int .i64 t315)).setCell ⟨gb322, 5, none⟩ (.int .i64 t316)).setCell ⟨gb322, 6, none⟩ (.bool t317)).setCell ⟨gb322, 7, none⟩ (.int .i64 t318)).setCell ⟨gb322, 8, none⟩ (.int .i64 t319)).heap[gb310]? = some (.cells #[.int .i64 t299, .string t300, .int .i64 t301, .int .i64 t302, .int .i64 t303, .int .i64 t304, .bool t305, .int .i64 t306, .int .i64 t307] 23 (0, 0))) := ⟨by (repeat (first | (with_reducible first | apply zn_ | apply zd_ | apply za_) | refine zr_ ?_ NB310_322.out _)); (with_reducible repeat (first | apply zn_ | apply zd_ | apply za_)); exact BK310.out⟩
                  have n3_ : Aside0 ((((((((((w24.setCell ⟨gb322, 0, none⟩ (.int .i64 t311)).setCell ⟨gb322, 1, none⟩ (.string t312)).setCell ⟨gb322, 2, none⟩ (.int .i64 t313)).setCell ⟨gb322, 3, none⟩ (.int .i64 t314)).setCell ⟨gb322, 4, none⟩ (.int .i64 t315)).setCell ⟨gb322, 5, none⟩ (.int .i64 t316)).setCell ⟨gb322, 6, none⟩ (.bool t317)).setCell ⟨gb322, 7, none⟩ (.int .i64 t318)).setCell ⟨gb322, 8, none⟩ (.int .i64 t319)).heap[gb322]? = some (.cells #[.int .i64 t311, .string t312, .int .i64 t313, .int .i64 t314, .int .i64 t315, .int .i64 t316, .bool t317, .int .i64 t318, .int .i64 t319] 23 (0, 0))) := ⟨by (with_reducible repeat (first | apply zn_ | apply zd_ | apply za_)); refine zp_ (cs := #[.int .i64 t311, .string t312, .int .i64 t313, .int .i64 t314, .int .i64 t315, .int .i64 t316, .bool t317, .int .i64 t318, .int .i64 0]) ?_ 8 _ rfl; (with_reducible repeat (first | apply zn_ | apply zd_ | apply za_)); refine zp_ (cs := #[.int .i64 t311, .string t312, .int .i64 t313, .int .i64 t314, .int .i64 t315, .int .i64 t316, .bool t317, .int .i64 0, .int .i64 0]) ?_ 7 _ rfl; (with_reducible repeat (first | apply zn_ | apply zd_ | apply za_)); refine zp_ (cs := #[.int .i64 t311, .string t312, .int .i64 t313, .int .i64 t314, .int .i64 t315, .int .i64 t316, .bool false, .int .i64 0, .int .i64 0]) ?_ 6 _ rfl; (with_reducible repeat (first | apply zn_ | apply zd_ | apply za_)); refine zp_ (cs := #[.int .i64 t311, .string t312, .int .i64 t313, .int .i64 t314, .int .i64 t315, .int .i64 0, .bool false, .int .i64 0, .int .i64 0]) ?_ 5 _ rfl; (with_reducible repeat (first | apply zn_ | apply zd_ | apply za_)); refine zp_ (cs := #[.int .i64 t311, .string t312, .int .i64 t313, .int .i64 t314, .int .i64 0, .int .i64 0, .bool false, .int .i64 0, .int .i64 0]) ?_ 4 _ rfl; (with_reducible repeat (first | apply zn_ | apply zd_ | apply za_)); refine zp_ (cs := #[.int .i64 t311, .string t312, .int .i64 t313, .int .i64 0, .int .i64 0, .int .i64 0, .bool false, .int .i64 0, .int .i64 0]) ?_ 3 _ rfl; (with_reducible repeat (first | apply zn_ | apply zd_ | apply za_)); refine zp_ (cs := #[.int .i64 t311, .string t312, .int .i64 0, .int .i64 0, .int .i64 0, .int .i64 0, .bool false, .int .i64 0, .int .i64 0]) ?_ 2 _ rfl; (with_reducible repeat (first | apply zn_ | apply zd_ | apply za_)); refine zp_ (cs := #[.int .i64 t311, .string ⟨#[]⟩, .int .i64 0, .int .i64 0, .int .i64 0, .int .i64 0, .bool false, .int .i64 0, .int .i64 0]) ?_ 1 _ rfl; (with_reducible repeat (first | apply zn_ | apply zd_ | apply za_)); refine zp_ (cs := #[.int .i64 0, .string ⟨#[]⟩, .int .i64 0, .int .i64 0, .int .i64 0, .int .i64 0, .bool false, .int .i64 0, .int .i64 0]) ?_ 0 _ rfl; (with_reducible repeat (first | apply zn_ | apply zd_ | apply za_)); exact BK322.out⟩
                  have n4_ : Aside0 (Below w.heap.size w (((((((((w24.setCell ⟨gb322, 0, none⟩ (.int .i64 t311)).setCell ⟨gb322, 1, none⟩ (.string t312)).setCell ⟨gb322, 2, none⟩ (.int .i64 t313)).setCell ⟨gb322, 3, none⟩ (.int .i64 t314)).setCell ⟨gb322, 4, none⟩ (.int .i64 t315)).setCell ⟨gb322, 5, none⟩ (.int .i64 t316)).setCell ⟨gb322, 6, none⟩ (.bool t317)).setCell ⟨gb322, 7, none⟩ (.int .i64 t318)).setCell ⟨gb322, 8, none⟩ (.int .i64 t319))) := ⟨by repeat (first | (with_reducible first | exact HB.out | apply pa_ | apply pd_ | apply p1_ | refine zs_ ?_ GE294.out | refine zs_ ?_ GE310.out | refine zs_ ?_ GE322.out) | exact HB.out)⟩
                  (try clear HO298); (try clear BK294); (try clear BK310); (try clear BK322); (try clear HB)
                  generalize (((((((((w24.setCell ⟨gb322, 0, none⟩ (.int .i64 t311)).setCell ⟨gb322, 1, none⟩ (.string t312)).setCell ⟨gb322, 2, none⟩ (.int .i64 t313)).setCell ⟨gb322, 3, none⟩ (.int .i64 t314)).setCell ⟨gb322, 4, none⟩ (.int .i64 t315)).setCell ⟨gb322, 5, none⟩ (.int .i64 t316)).setCell ⟨gb322, 6, none⟩ (.bool t317)).setCell ⟨gb322, 7, none⟩ (.int .i64 t318)).setCell ⟨gb322, 8, none⟩ (.int .i64 t319)) = w35 at n0_ n1_ n2_ n3_ n4_ ⊢
                  have HO298 := n0_
                  have BK294 := n1_
                  have BK310 := n2_
                  have BK322 := n3_
                  have HB := n4_
                  clear n0_ n1_ n2_ n3_ n4_
                  have n0_ := ak_ (Kd.R_drew HO298.out)
                  have n1_ := ak_ (zd_ BK294.out)
                  have n2_ := ak_ (zd_ BK310.out)
                  have n3_ := ak_ (zd_ BK322.out)
                  have n4_ := ak_ (p1_ HB.out)
                  clear HO298
                  clear BK294
                  clear BK310
                  clear BK322
                  clear HB
                  have HO298 := n0_
                  have BK294 := n1_
                  have BK310 := n2_
                  have BK322 := n3_
                  have HB := n4_
                  clear n0_ n1_ n2_ n3_ n4_
                  refine start_ (n := 32) (S := fun w' => w'.cell? ⟨gb294, 0, none⟩ = some (.int .i64 a0_0) ∧ w'.cell? ⟨gb294, 1, none⟩ = some (.string a0_1) ∧ w'.cell? ⟨gb294, 2, none⟩ = some (.int .i64 a0_2) ∧ w'.cell? ⟨gb294, 3, none⟩ = some (.int .i64 a0_3) ∧ w'.cell? ⟨gb294, 4, none⟩ = some (.int .i64 a0_4) ∧ w'.cell? ⟨gb294, 5, none⟩ = some (.int .i64 a0_5) ∧ w'.cell? ⟨gb294, 6, none⟩ = some (.bool a0_6) ∧ w'.cell? ⟨gb294, 7, none⟩ = some (.int .i64 a0_7) ∧ w'.cell? ⟨gb294, 8, none⟩ = some (.int .i64 a0_8) ∧ w'.cell? ⟨gb310, 0, none⟩ = some (.int .i64 t299) ∧ w'.cell? ⟨gb310, 1, none⟩ = some (.string t300) ∧ w'.cell? ⟨gb310, 2, none⟩ = some (.int .i64 t301) ∧ w'.cell? ⟨gb310, 3, none⟩ = some (.int .i64 t302) ∧ w'.cell? ⟨gb310, 4, none⟩ = some (.int .i64 t303) ∧ w'.cell? ⟨gb310, 5, none⟩ = some (.int .i64 t304) ∧ w'.cell? ⟨gb310, 6, none⟩ = some (.bool t305) ∧ w'.cell? ⟨gb310, 7, none⟩ = some (.int .i64 t306) ∧ w'.cell? ⟨gb310, 8, none⟩ = some (.int .i64 t307) ∧ w'.cell? ⟨gb322, 0, none⟩ = some (.int .i64 t311) ∧ w'.cell? ⟨gb322, 1, none⟩ = some (.string t312) ∧ w'.cell? ⟨gb322, 2, none⟩ = some (.int .i64 t313) ∧ w'.cell? ⟨gb322, 3, none⟩ = some (.int .i64 t314) ∧ w'.cell? ⟨gb322, 4, none⟩ = some (.int .i64 t315) ∧ w'.cell? ⟨gb322, 5, none⟩ = some (.int .i64 t316) ∧ w'.cell? ⟨gb322, 6, none⟩ = some (.bool t317) ∧ w'.cell? ⟨gb322, 7, none⟩ = some (.int .i64 t318) ∧ w'.cell? ⟨gb322, 8, none⟩ = some (.int .i64 t319)) (ds := []) #[false, false, false, false, false, false, false, false, false, false, false, false, false, false, false, false, false, false, false, false, false, false, false, false, false, false, false, false, false, false, false, false] (by kernel_rfl) rfl rfl ⟨(zc_ BK294.out 0).trans rfl, (zc_ BK294.out 1).trans rfl, (zc_ BK294.out 2).trans rfl, (zc_ BK294.out 3).trans rfl, (zc_ BK294.out 4).trans rfl, (zc_ BK294.out 5).trans rfl, (zc_ BK294.out 6).trans rfl, (zc_ BK294.out 7).trans rfl, (zc_ BK294.out 8).trans rfl, (zc_ BK310.out 0).trans rfl, (zc_ BK310.out 1).trans rfl, (zc_ BK310.out 2).trans rfl, (zc_ BK310.out 3).trans rfl, (zc_ BK310.out 4).trans rfl, (zc_ BK310.out 5).trans rfl, (zc_ BK310.out 6).trans rfl, (zc_ BK310.out 7).trans rfl, (zc_ BK310.out 8).trans rfl, (zc_ BK322.out 0).trans rfl, (zc_ BK322.out 1).trans rfl, (zc_ BK322.out 2).trans rfl, (zc_ BK322.out 3).trans rfl, (zc_ BK322.out 4).trans rfl, (zc_ BK322.out 5).trans rfl, (zc_ BK322.out 6).trans rfl, (zc_ BK322.out 7).trans rfl, (zc_ BK322.out 8).trans rfl⟩ (fun hHeld => ?_); refine with_tabW usufructlaw15_CodeSagas.tab8 usufructlaw15_CodeSagas.bits8 (fun HT_ HW_ => ?_)
                  generalize w35.drew = w36 at HO298 BK294 BK310 BK322 HB hHeld ⊢
                  refine pure_ (i := 0) (N := some 41) (v := ?_) (a' := ?_) (b_ 32 1) rfl rfl (any_of HT_.out (by kernel_rfl)) (fun _ _ _ h => h) (Or.inl ⟨by rfl, ?_⟩) ?_ ?_; rotate_left; (· intro w'; go_simp; with_reducible rfl); rotate_left; (· simp only [Act.put, sa_, sz_, ss_, i64_w, i32_w]; rfl)
                  refine take_ (i := 2) (N := some 43) (v := ?_) (a' := ?_) (b_ 32 5) rfl rfl (take_ofW HT_.out HW_.out (by kernel_rfl)) (fun _ _ _ h => h) (Or.inl ⟨by rfl, ?_⟩) hHeld ?_ ?_
                  rotate_left
                  · rintro w' ⟨s0, s1, s2, s3, s4, s5, s6, s7, s8, s9, s10, s11, s12, s13, s14, s15, s16, s17, s18, s19, s20, s21, s22, s23, s24, s25, s26⟩
                    go_simp
                    with_reducible rfl
                  rotate_left
                  · simp only [Act.put, sa_, sz_, ss_, i64_w, i32_w]
                    rfl
                  refine join_ (σ := Value) 3 (b_ 32 536870911) (fun s_ => [(42, .string (strOfNums t296)), (44, .string t323), (66, s_), (67, .string (strOfNums t324)), (69, .string (strOfNums l1)), (45, .bool false), (46, .bool false), (47, .agg #[.int .i64 t299, .string t300, .int .i64 t301, .int .i64 t302, .int .i64 t303, .int .i64 t304, .bool t305, .int .i64 t306, .int .i64 t307]), (48, .agg #[.int .i64 t311, .string t312, .int .i64 t313, .int .i64 t314, .int .i64 t315, .int .i64 t316, .bool t317, .int .i64 t318, .int .i64 t319]), (49, .bool false), (50, .bool false), (51, .bool false), (52, .int .i64 t308), (53, .int .i64 t320), (54, .bool false), (55, .bool false), (56, .bool false), (57, .int .i64 t309), (58, .int .i64 t321), (59, .bool false), (60, .bool false), (61, .bool false), (62, .int .i64 t309), (63, .bool true), (64, .bool true), (65, .agg #[.int .i64 t299, .string t300, .int .i64 t301, .int .i64 t302, .int .i64 t303, .int .i64 t304, .bool t305, .int .i64 t306, .int .i64 t307]), (68, .slice A1 l1.length c1)]) (fun s_ w' => (w'.cell? ⟨gb294, 0, none⟩ = some (.int .i64 a0_0) ∧ w'.cell? ⟨gb294, 1, none⟩ = some (.string a0_1) ∧ w'.cell? ⟨gb294, 2, none⟩ = some (.int .i64 a0_2) ∧ w'.cell? ⟨gb294, 3, none⟩ = some (.int .i64 a0_3) ∧ w'.cell? ⟨gb294, 4, none⟩ = some (.int .i64 a0_4) ∧ w'.cell? ⟨gb294, 5, none⟩ = some (.int .i64 a0_5) ∧ w'.cell? ⟨gb294, 6, none⟩ = some (.bool a0_6) ∧ w'.cell? ⟨gb294, 7, none⟩ = some (.int .i64 a0_7) ∧ w'.cell? ⟨gb294, 8, none⟩ = some (.int .i64 a0_8) ∧ w'.cell? ⟨gb310, 0, none⟩ = some (.int .i64 t299) ∧ w'.cell? ⟨gb310, 1, none⟩ = some (.string t300) ∧ w'.cell? ⟨gb310, 2, none⟩ = some (.int .i64 t301) ∧ w'.cell? ⟨gb310, 3, none⟩ = some (.int .i64 t302) ∧ w'.cell? ⟨gb310, 4, none⟩ = some (.int .i64 t303) ∧ w'.cell? ⟨gb310, 5, none⟩ = some (.int .i64 t304) ∧ w'.cell? ⟨gb310, 6, none⟩ = some (.bool t305) ∧ w'.cell? ⟨gb310, 7, none⟩ = some (.int .i64 t306) ∧ w'.cell? ⟨gb310, 8, none⟩ = some (.int .i64 t307) ∧ w'.cell? ⟨gb322, 0, none⟩ = some (.int .i64 t311) ∧ w'.cell? ⟨gb322, 1, none⟩ = some (.string t312) ∧ w'.cell? ⟨gb322, 2, none⟩ = some (.int .i64 t313) ∧ w'.cell? ⟨gb322, 3, none⟩ = some (.int .i64 t314) ∧ w'.cell? ⟨gb322, 4, none⟩ = some (.int .i64 t315) ∧ w'.cell? ⟨gb322, 5, none⟩ = some (.int .i64 t316) ∧ w'.cell? ⟨gb322, 6, none⟩ = some (.bool t317) ∧ w'.cell? ⟨gb322, 7, none⟩ = some (.int .i64 t318) ∧ w'.cell? ⟨gb322, 8, none⟩ = some (.int .i64 t319)) ∧ (Kd.R (Kd.int .u8) 5 w' w.heap.size (fun k_ => some k_ ≠ (s_ : Value).ownBlock) v297 t296) ∧ (Kd.R (Kd.int .u8) 5 w' w.heap.size (fun k_ => some k_ ≠ (v297 : Value).ownBlock) s_ t324) ∧ (w'.heap[gb294]? = some (.cells #[.int .i64 a0_0, .string a0_1, .int .i64 a0_2, .int .i64 a0_3, .int .i64 a0_4, .int .i64 a0_5, .bool a0_6, .int .i64 a0_7, .int .i64 a0_8] 23 (0, 0))) ∧ (w'.heap[gb310]? = some (.cells #[.int .i64 t299, .string t300, .int .i64 t301, .int .i64 t302, .int .i64 t303, .int .i64 t304, .bool t305, .int .i64 t306, .int .i64 t307] 23 (0, 0))) ∧ (w'.heap[gb322]? = some (.cells #[.int .i64 t311, .string t312, .int .i64 t313, .int .i64 t314, .int .i64 t315, .int .i64 t316, .bool t317, .int .i64 t318, .int .i64 t319] 23 (0, 0))) ∧ (Below w.heap.size w w')) ?_ ?_
                  rotate_left
                  · intro hJ1_3_25_26_28
                    refine join_ (σ := Value) 4 (b_ 32 268435455) (fun s_ => [(42, .string (strOfNums t296)), (44, .string t323), (66, s_), (67, .string (strOfNums t324)), (45, .bool false), (46, .bool false), (47, .agg #[.int .i64 t299, .string t300, .int .i64 t301, .int .i64 t302, .int .i64 t303, .int .i64 t304, .bool t305, .int .i64 t306, .int .i64 t307]), (48, .agg #[.int .i64 t311, .string t312, .int .i64 t313, .int .i64 t314, .int .i64 t315, .int .i64 t316, .bool t317, .int .i64 t318, .int .i64 t319]), (49, .bool false), (50, .bool false), (51, .bool false), (52, .int .i64 t308), (53, .int .i64 t320), (54, .bool false), (55, .bool false), (56, .bool false), (57, .int .i64 t309), (58, .int .i64 t321), (59, .bool false), (60, .bool false), (61, .bool false), (62, .int .i64 t309), (63, .bool true), (64, .bool true), (65, .agg #[.int .i64 t299, .string t300, .int .i64 t301, .int .i64 t302, .int .i64 t303, .int .i64 t304, .bool t305, .int .i64 t306, .int .i64 t307]), (68, .slice A1 l1.length c1)]) (fun s_ w' => (w'.cell? ⟨gb294, 0, none⟩ = some (.int .i64 a0_0) ∧ w'.cell? ⟨gb294, 1, none⟩ = some (.string a0_1) ∧ w'.cell? ⟨gb294, 2, none⟩ = some (.int .i64 a0_2) ∧ w'.cell? ⟨gb294, 3, none⟩ = some (.int .i64 a0_3) ∧ w'.cell? ⟨gb294, 4, none⟩ = some (.int .i64 a0_4) ∧ w'.cell? ⟨gb294, 5, none⟩ = some (.int .i64 a0_5) ∧ w'.cell? ⟨gb294, 6, none⟩ = some (.bool a0_6) ∧ w'.cell? ⟨gb294, 7, none⟩ = some (.int .i64 a0_7) ∧ w'.cell? ⟨gb294, 8, none⟩ = some (.int .i64 a0_8) ∧ w'.cell? ⟨gb310, 0, none⟩ = some (.int .i64 t299) ∧ w'.cell? ⟨gb310, 1, none⟩ = some (.string t300) ∧ w'.cell? ⟨gb310, 2, none⟩ = some (.int .i64 t301) ∧ w'.cell? ⟨gb310, 3, none⟩ = some (.int .i64 t302) ∧ w'.cell? ⟨gb310, 4, none⟩ = some (.int .i64 t303) ∧ w'.cell? ⟨gb310, 5, none⟩ = some (.int .i64 t304) ∧ w'.cell? ⟨gb310, 6, none⟩ = some (.bool t305) ∧ w'.cell? ⟨gb310, 7, none⟩ = some (.int .i64 t306) ∧ w'.cell? ⟨gb310, 8, none⟩ = some (.int .i64 t307) ∧ w'.cell? ⟨gb322, 0, none⟩ = some (.int .i64 t311) ∧ w'.cell? ⟨gb322, 1, none⟩ = some (.string t312) ∧ w'.cell? ⟨gb322, 2, none⟩ = some (.int .i64 t313) ∧ w'.cell? ⟨gb322, 3, none⟩ = some (.int .i64 t314) ∧ w'.cell? ⟨gb322, 4, none⟩ = some (.int .i64 t315) ∧ w'.cell? ⟨gb322, 5, none⟩ = some (.int .i64 t316) ∧ w'.cell? ⟨gb322, 6, none⟩ = some (.bool t317) ∧ w'.cell? ⟨gb322, 7, none⟩ = some (.int .i64 t318) ∧ w'.cell? ⟨gb322, 8, none⟩ = some (.int .i64 t319)) ∧ (Kd.R (Kd.int .u8) 5 w' w.heap.size (fun k_ => some k_ ≠ (s_ : Value).ownBlock) v297 t296) ∧ (Kd.R (Kd.int .u8) 5 w' w.heap.size (fun k_ => some k_ ≠ (v297 : Value).ownBlock) s_ t324) ∧ (w'.heap[gb294]? = some (.cells #[.int .i64 a0_0, .string a0_1, .int .i64 a0_2, .int .i64 a0_3, .int .i64 a0_4, .int .i64 a0_5, .bool a0_6, .int .i64 a0_7, .int .i64 a0_8] 23 (0, 0))) ∧ (w'.heap[gb310]? = some (.cells #[.int .i64 t299, .string t300, .int .i64 t301, .int .i64 t302, .int .i64 t303, .int .i64 t304, .bool t305, .int .i64 t306, .int .i64 t307] 23 (0, 0))) ∧ (w'.heap[gb322]? = some (.cells #[.int .i64 t311, .string t312, .int .i64 t313, .int .i64 t314, .int .i64 t315, .int .i64 t316, .bool t317, .int .i64 t318, .int .i64 t319] 23 (0, 0))) ∧ (Below w.heap.size w w')) ?_ ?_
                    rotate_left
                    · intro hJ1_3_25_26
                      refine join_ (σ := Value) 4 (b_ 32 469762047) (fun s_ => [(42, .string (strOfNums t296)), (44, .string t323), (66, s_), (69, .string (strOfNums l1)), (45, .bool false), (46, .bool false), (47, .agg #[.int .i64 t299, .string t300, .int .i64 t301, .int .i64 t302, .int .i64 t303, .int .i64 t304, .bool t305, .int .i64 t306, .int .i64 t307]), (48, .agg #[.int .i64 t311, .string t312, .int .i64 t313, .int .i64 t314, .int .i64 t315, .int .i64 t316, .bool t317, .int .i64 t318, .int .i64 t319]), (49, .bool false), (50, .bool false), (51, .bool false), (52, .int .i64 t308), (53, .int .i64 t320), (54, .bool false), (55, .bool false), (56, .bool false), (57, .int .i64 t309), (58, .int .i64 t321), (59, .bool false), (60, .bool false), (61, .bool false), (62, .int .i64 t309), (63, .bool true), (64, .bool true), (65, .agg #[.int .i64 t299, .string t300, .int .i64 t301, .int .i64 t302, .int .i64 t303, .int .i64 t304, .bool t305, .int .i64 t306, .int .i64 t307]), (68, .slice A1 l1.length c1)]) (fun s_ w' => (w'.cell? ⟨gb294, 0, none⟩ = some (.int .i64 a0_0) ∧ w'.cell? ⟨gb294, 1, none⟩ = some (.string a0_1) ∧ w'.cell? ⟨gb294, 2, none⟩ = some (.int .i64 a0_2) ∧ w'.cell? ⟨gb294, 3, none⟩ = some (.int .i64 a0_3) ∧ w'.cell? ⟨gb294, 4, none⟩ = some (.int .i64 a0_4) ∧ w'.cell? ⟨gb294, 5, none⟩ = some (.int .i64 a0_5) ∧ w'.cell? ⟨gb294, 6, none⟩ = some (.bool a0_6) ∧ w'.cell? ⟨gb294, 7, none⟩ = some (.int .i64 a0_7) ∧ w'.cell? ⟨gb294, 8, none⟩ = some (.int .i64 a0_8) ∧ w'.cell? ⟨gb310, 0, none⟩ = some (.int .i64 t299) ∧ w'.cell? ⟨gb310, 1, none⟩ = some (.string t300) ∧ w'.cell? ⟨gb310, 2, none⟩ = some (.int .i64 t301) ∧ w'.cell? ⟨gb310, 3, none⟩ = some (.int .i64 t302) ∧ w'.cell? ⟨gb310, 4, none⟩ = some (.int .i64 t303) ∧ w'.cell? ⟨gb310, 5, none⟩ = some (.int .i64 t304) ∧ w'.cell? ⟨gb310, 6, none⟩ = some (.bool t305) ∧ w'.cell? ⟨gb310, 7, none⟩ = some (.int .i64 t306) ∧ w'.cell? ⟨gb310, 8, none⟩ = some (.int .i64 t307) ∧ w'.cell? ⟨gb322, 0, none⟩ = some (.int .i64 t311) ∧ w'.cell? ⟨gb322, 1, none⟩ = some (.string t312) ∧ w'.cell? ⟨gb322, 2, none⟩ = some (.int .i64 t313) ∧ w'.cell? ⟨gb322, 3, none⟩ = some (.int .i64 t314) ∧ w'.cell? ⟨gb322, 4, none⟩ = some (.int .i64 t315) ∧ w'.cell? ⟨gb322, 5, none⟩ = some (.int .i64 t316) ∧ w'.cell? ⟨gb322, 6, none⟩ = some (.bool t317) ∧ w'.cell? ⟨gb322, 7, none⟩ = some (.int .i64 t318) ∧ w'.cell? ⟨gb322, 8, none⟩ = some (.int .i64 t319)) ∧ (Kd.R (Kd.int .u8) 5 w' w.heap.size (fun k_ => some k_ ≠ (s_ : Value).ownBlock) v297 t296) ∧ (Kd.R (Kd.int .u8) 5 w' w.heap.size (fun k_ => some k_ ≠ (v297 : Value).ownBlock) s_ t324) ∧ (w'.heap[gb294]? = some (.cells #[.int .i64 a0_0, .string a0_1, .int .i64 a0_2, .int .i64 a0_3, .int .i64 a0_4, .int .i64 a0_5, .bool a0_6, .int .i64 a0_7, .int .i64 a0_8] 23 (0, 0))) ∧ (w'.heap[gb310]? = some (.cells #[.int .i64 t299, .string t300, .int .i64 t301, .int .i64 t302, .int .i64 t303, .int .i64 t304, .bool t305, .int .i64 t306, .int .i64 t307] 23 (0, 0))) ∧ (w'.heap[gb322]? = some (.cells #[.int .i64 t311, .string t312, .int .i64 t313, .int .i64 t314, .int .i64 t315, .int .i64 t316, .bool t317, .int .i64 t318, .int .i64 t319] 23 (0, 0))) ∧ (Below w.heap.size w w')) ?_ ?_
                      rotate_left
                      · intro hJ1_3_25_28
                        refine join_ (σ := Value) 5 (b_ 32 201326591) (fun s_ => [(42, .string (strOfNums t296)), (44, .string t323), (66, s_), (45, .bool false), (46, .bool false), (47, .agg #[.int .i64 t299, .string t300, .int .i64 t301, .int .i64 t302, .int .i64 t303, .int .i64 t304, .bool t305, .int .i64 t306, .int .i64 t307]), (48, .agg #[.int .i64 t311, .string t312, .int .i64 t313, .int .i64 t314, .int .i64 t315, .int .i64 t316, .bool t317, .int .i64 t318, .int .i64 t319]), (49, .bool false), (50, .bool false), (51, .bool false), (52, .int .i64 t308), (53, .int .i64 t320), (54, .bool false), (55, .bool false), (56, .bool false), (57, .int .i64 t309), (58, .int .i64 t321), (59, .bool false), (60, .bool false), (61, .bool false), (62, .int .i64 t309), (63, .bool true), (64, .bool true), (65, .agg #[.int .i64 t299, .string t300, .int .i64 t301, .int .i64 t302, .int .i64 t303, .int .i64 t304, .bool t305, .int .i64 t306, .int .i64 t307]), (68, .slice A1 l1.length c1)]) (fun s_ w' => (w'.cell? ⟨gb294, 0, none⟩ = some (.int .i64 a0_0) ∧ w'.cell? ⟨gb294, 1, none⟩ = some (.string a0_1) ∧ w'.cell? ⟨gb294, 2, none⟩ = some (.int .i64 a0_2) ∧ w'.cell? ⟨gb294, 3, none⟩ = some (.int .i64 a0_3) ∧ w'.cell? ⟨gb294, 4, none⟩ = some (.int .i64 a0_4) ∧ w'.cell? ⟨gb294, 5, none⟩ = some (.int .i64 a0_5) ∧ w'.cell? ⟨gb294, 6, none⟩ = some (.bool a0_6) ∧ w'.cell? ⟨gb294, 7, none⟩ = some (.int .i64 a0_7) ∧ w'.cell? ⟨gb294, 8, none⟩ = some (.int .i64 a0_8) ∧ w'.cell? ⟨gb310, 0, none⟩ = some (.int .i64 t299) ∧ w'.cell? ⟨gb310, 1, none⟩ = some (.string t300) ∧ w'.cell? ⟨gb310, 2, none⟩ = some (.int .i64 t301) ∧ w'.cell? ⟨gb310, 3, none⟩ = some (.int .i64 t302) ∧ w'.cell? ⟨gb310, 4, none⟩ = some (.int .i64 t303) ∧ w'.cell? ⟨gb310, 5, none⟩ = some (.int .i64 t304) ∧ w'.cell? ⟨gb310, 6, none⟩ = some (.bool t305) ∧ w'.cell? ⟨gb310, 7, none⟩ = some (.int .i64 t306) ∧ w'.cell? ⟨gb310, 8, none⟩ = some (.int .i64 t307) ∧ w'.cell? ⟨gb322, 0, none⟩ = some (.int .i64 t311) ∧ w'.cell? ⟨gb322, 1, none⟩ = some (.string t312) ∧ w'.cell? ⟨gb322, 2, none⟩ = some (.int .i64 t313) ∧ w'.cell? ⟨gb322, 3, none⟩ = some (.int .i64 t314) ∧ w'.cell? ⟨gb322, 4, none⟩ = some (.int .i64 t315) ∧ w'.cell? ⟨gb322, 5, none⟩ = some (.int .i64 t316) ∧ w'.cell? ⟨gb322, 6, none⟩ = some (.bool t317) ∧ w'.cell? ⟨gb322, 7, none⟩ = some (.int .i64 t318) ∧ w'.cell? ⟨gb322, 8, none⟩ = some (.int .i64 t319)) ∧ (Kd.R (Kd.int .u8) 5 w' w.heap.size (fun k_ => some k_ ≠ (s_ : Value).ownBlock) v297 t296) ∧ (Kd.R (Kd.int .u8) 5 w' w.heap.size (fun k_ => some k_ ≠ (v297 : Value).ownBlock) s_ t324) ∧ (w'.heap[gb294]? = some (.cells #[.int .i64 a0_0, .string a0_1, .int .i64 a0_2, .int .i64 a0_3, .int .i64 a0_4, .int .i64 a0_5, .bool a0_6, .int .i64 a0_7, .int .i64 a0_8] 23 (0, 0))) ∧ (w'.heap[gb310]? = some (.cells #[.int .i64 t299, .string t300, .int .i64 t301, .int .i64 t302, .int .i64 t303, .int .i64 t304, .bool t305, .int .i64 t306, .int .i64 t307] 23 (0, 0))) ∧ (w'.heap[gb322]? = some (.cells #[.int .i64 t311, .string t312, .int .i64 t313, .int .i64 t314, .int .i64 t315, .int .i64 t316, .bool t317, .int .i64 t318, .int .i64 t319] 23 (0, 0))) ∧ (Below w.heap.size w w')) ?_ ?_
                        rotate_left
                        · intro hJ1_3_25
                          refine join_ (σ := Unit) 5 (b_ 32 436207615) (fun s_ => [(42, .string (strOfNums t296)), (44, .string t323), (69, .string (strOfNums l1)), (45, .bool false), (46, .bool false), (47, .agg #[.int .i64 t299, .string t300, .int .i64 t301, .int .i64 t302, .int .i64 t303, .int .i64 t304, .bool t305, .int .i64 t306, .int .i64 t307]), (48, .agg #[.int .i64 t311, .string t312, .int .i64 t313, .int .i64 t314, .int .i64 t315, .int .i64 t316, .bool t317, .int .i64 t318, .int .i64 t319]), (49, .bool false), (50, .bool false), (51, .bool false), (52, .int .i64 t308), (53, .int .i64 t320), (54, .bool false), (55, .bool false), (56, .bool false), (57, .int .i64 t309), (58, .int .i64 t321), (59, .bool false), (60, .bool false), (61, .bool false), (62, .int .i64 t309), (63, .bool true), (64, .bool true), (65, .agg #[.int .i64 t299, .string t300, .int .i64 t301, .int .i64 t302, .int .i64 t303, .int .i64 t304, .bool t305, .int .i64 t306, .int .i64 t307]), (68, .slice A1 l1.length c1)]) (fun s_ w' => (w'.cell? ⟨gb294, 0, none⟩ = some (.int .i64 a0_0) ∧ w'.cell? ⟨gb294, 1, none⟩ = some (.string a0_1) ∧ w'.cell? ⟨gb294, 2, none⟩ = some (.int .i64 a0_2) ∧ w'.cell? ⟨gb294, 3, none⟩ = some (.int .i64 a0_3) ∧ w'.cell? ⟨gb294, 4, none⟩ = some (.int .i64 a0_4) ∧ w'.cell? ⟨gb294, 5, none⟩ = some (.int .i64 a0_5) ∧ w'.cell? ⟨gb294, 6, none⟩ = some (.bool a0_6) ∧ w'.cell? ⟨gb294, 7, none⟩ = some (.int .i64 a0_7) ∧ w'.cell? ⟨gb294, 8, none⟩ = some (.int .i64 a0_8) ∧ w'.cell? ⟨gb310, 0, none⟩ = some (.int .i64 t299) ∧ w'.cell? ⟨gb310, 1, none⟩ = some (.string t300) ∧ w'.cell? ⟨gb310, 2, none⟩ = some (.int .i64 t301) ∧ w'.cell? ⟨gb310, 3, none⟩ = some (.int .i64 t302) ∧ w'.cell? ⟨gb310, 4, none⟩ = some (.int .i64 t303) ∧ w'.cell? ⟨gb310, 5, none⟩ = some (.int .i64 t304) ∧ w'.cell? ⟨gb310, 6, none⟩ = some (.bool t305) ∧ w'.cell? ⟨gb310, 7, none⟩ = some (.int .i64 t306) ∧ w'.cell? ⟨gb310, 8, none⟩ = some (.int .i64 t307) ∧ w'.cell? ⟨gb322, 0, none⟩ = some (.int .i64 t311) ∧ w'.cell? ⟨gb322, 1, none⟩ = some (.string t312) ∧ w'.cell? ⟨gb322, 2, none⟩ = some (.int .i64 t313) ∧ w'.cell? ⟨gb322, 3, none⟩ = some (.int .i64 t314) ∧ w'.cell? ⟨gb322, 4, none⟩ = some (.int .i64 t315) ∧ w'.cell? ⟨gb322, 5, none⟩ = some (.int .i64 t316) ∧ w'.cell? ⟨gb322, 6, none⟩ = some (.bool t317) ∧ w'.cell? ⟨gb322, 7, none⟩ = some (.int .i64 t318) ∧ w'.cell? ⟨gb322, 8, none⟩ = some (.int .i64 t319)) ∧ (Kd.R (Kd.int .u8) 5 w' w.heap.size (fun _ => True) v297 t296) ∧ (w'.heap[gb294]? = some (.cells #[.int .i64 a0_0, .string a0_1, .int .i64 a0_2, .int .i64 a0_3, .int .i64 a0_4, .int .i64 a0_5, .bool a0_6, .int .i64 a0_7, .int .i64 a0_8] 23 (0, 0))) ∧ (w'.heap[gb310]? = some (.cells #[.int .i64 t299, .string t300, .int .i64 t301, .int .i64 t302, .int .i64 t303, .int .i64 t304, .bool t305, .int .i64 t306, .int .i64 t307] 23 (0, 0))) ∧ (w'.heap[gb322]? = some (.cells #[.int .i64 t311, .string t312, .int .i64 t313, .int .i64 t314, .int .i64 t315, .int .i64 t316, .bool t317, .int .i64 t318, .int .i64 t319] 23 (0, 0))) ∧ (Below w.heap.size w w')) ?_ ?_
                          rotate_left
                          · intro hJ1_3_28
                            refine join_ (σ := Unit) 6 (b_ 32 167772159) (fun s_ => [(42, .string (strOfNums t296)), (44, .string t323), (45, .bool false), (46, .bool false), (47, .agg #[.int .i64 t299, .string t300, .int .i64 t301, .int .i64 t302, .int .i64 t303, .int .i64 t304, .bool t305, .int .i64 t306, .int .i64 t307]), (48, .agg #[.int .i64 t311, .string t312, .int .i64 t313, .int .i64 t314, .int .i64 t315, .int .i64 t316, .bool t317, .int .i64 t318, .int .i64 t319]), (49, .bool false), (50, .bool false), (51, .bool false), (52, .int .i64 t308), (53, .int .i64 t320), (54, .bool false), (55, .bool false), (56, .bool false), (57, .int .i64 t309), (58, .int .i64 t321), (59, .bool false), (60, .bool false), (61, .bool false), (62, .int .i64 t309), (63, .bool true), (64, .bool true), (65, .agg #[.int .i64 t299, .string t300, .int .i64 t301, .int .i64 t302, .int .i64 t303, .int .i64 t304, .bool t305, .int .i64 t306, .int .i64 t307]), (68, .slice A1 l1.length c1)]) (fun s_ w' => (w'.cell? ⟨gb294, 0, none⟩ = some (.int .i64 a0_0) ∧ w'.cell? ⟨gb294, 1, none⟩ = some (.string a0_1) ∧ w'.cell? ⟨gb294, 2, none⟩ = some (.int .i64 a0_2) ∧ w'.cell? ⟨gb294, 3, none⟩ = some (.int .i64 a0_3) ∧ w'.cell? ⟨gb294, 4, none⟩ = some (.int .i64 a0_4) ∧ w'.cell? ⟨gb294, 5, none⟩ = some (.int .i64 a0_5) ∧ w'.cell? ⟨gb294, 6, none⟩ = some (.bool a0_6) ∧ w'.cell? ⟨gb294, 7, none⟩ = some (.int .i64 a0_7) ∧ w'.cell? ⟨gb294, 8, none⟩ = some (.int .i64 a0_8) ∧ w'.cell? ⟨gb310, 0, none⟩ = some (.int .i64 t299) ∧ w'.cell? ⟨gb310, 1, none⟩ = some (.string t300) ∧ w'.cell? ⟨gb310, 2, none⟩ = some (.int .i64 t301) ∧ w'.cell? ⟨gb310, 3, none⟩ = some (.int .i64 t302) ∧ w'.cell? ⟨gb310, 4, none⟩ = some (.int .i64 t303) ∧ w'.cell? ⟨gb310, 5, none⟩ = some (.int .i64 t304) ∧ w'.cell? ⟨gb310, 6, none⟩ = some (.bool t305) ∧ w'.cell? ⟨gb310, 7, none⟩ = some (.int .i64 t306) ∧ w'.cell? ⟨gb310, 8, none⟩ = some (.int .i64 t307) ∧ w'.cell? ⟨gb322, 0, none⟩ = some (.int .i64 t311) ∧ w'.cell? ⟨gb322, 1, none⟩ = some (.string t312) ∧ w'.cell? ⟨gb322, 2, none⟩ = some (.int .i64 t313) ∧ w'.cell? ⟨gb322, 3, none⟩ = some (.int .i64 t314) ∧ w'.cell? ⟨gb322, 4, none⟩ = some (.int .i64 t315) ∧ w'.cell? ⟨gb322, 5, none⟩ = some (.int .i64 t316) ∧ w'.cell? ⟨gb322, 6, none⟩ = some (.bool t317) ∧ w'.cell? ⟨gb322, 7, none⟩ = some (.int .i64 t318) ∧ w'.cell? ⟨gb322, 8, none⟩ = some (.int .i64 t319)) ∧ (Kd.R (Kd.int .u8) 5 w' w.heap.size (fun _ => True) v297 t296) ∧ (w'.heap[gb294]? = some (.cells #[.int .i64 a0_0, .string a0_1, .int .i64 a0_2, .int .i64 a0_3, .int .i64 a0_4, .int .i64 a0_5, .bool a0_6, .int .i64 a0_7, .int .i64 a0_8] 23 (0, 0))) ∧ (w'.heap[gb310]? = some (.cells #[.int .i64 t299, .string t300, .int .i64 t301, .int .i64 t302, .int .i64 t303, .int .i64 t304, .bool t305, .int .i64 t306, .int .i64 t307] 23 (0, 0))) ∧ (w'.heap[gb322]? = some (.cells #[.int .i64 t311, .string t312, .int .i64 t313, .int .i64 t314, .int .i64 t315, .int .i64 t316, .bool t317, .int .i64 t318, .int .i64 t319] 23 (0, 0))) ∧ (Below w.heap.size w w')) ?_ ?_
                            rotate_left
                            · intro hJ1_3
                              refine join_ (σ := Unit) 29 (b_ 32 7) (fun s_ => [(42, .string (strOfNums t296))]) (fun s_ w' => (w'.cell? ⟨gb294, 0, none⟩ = some (.int .i64 a0_0) ∧ w'.cell? ⟨gb294, 1, none⟩ = some (.string a0_1) ∧ w'.cell? ⟨gb294, 2, none⟩ = some (.int .i64 a0_2) ∧ w'.cell? ⟨gb294, 3, none⟩ = some (.int .i64 a0_3) ∧ w'.cell? ⟨gb294, 4, none⟩ = some (.int .i64 a0_4) ∧ w'.cell? ⟨gb294, 5, none⟩ = some (.int .i64 a0_5) ∧ w'.cell? ⟨gb294, 6, none⟩ = some (.bool a0_6) ∧ w'.cell? ⟨gb294, 7, none⟩ = some (.int .i64 a0_7) ∧ w'.cell? ⟨gb294, 8, none⟩ = some (.int .i64 a0_8) ∧ w'.cell? ⟨gb310, 0, none⟩ = some (.int .i64 t299) ∧ w'.cell? ⟨gb310, 1, none⟩ = some (.string t300) ∧ w'.cell? ⟨gb310, 2, none⟩ = some (.int .i64 t301) ∧ w'.cell? ⟨gb310, 3, none⟩ = some (.int .i64 t302) ∧ w'.cell? ⟨gb310, 4, none⟩ = some (.int .i64 t303) ∧ w'.cell? ⟨gb310, 5, none⟩ = some (.int .i64 t304) ∧ w'.cell? ⟨gb310, 6, none⟩ = some (.bool t305) ∧ w'.cell? ⟨gb310, 7, none⟩ = some (.int .i64 t306) ∧ w'.cell? ⟨gb310, 8, none⟩ = some (.int .i64 t307) ∧ w'.cell? ⟨gb322, 0, none⟩ = some (.int .i64 t311) ∧ w'.cell? ⟨gb322, 1, none⟩ = some (.string t312) ∧ w'.cell? ⟨gb322, 2, none⟩ = some (.int .i64 t313) ∧ w'.cell? ⟨gb322, 3, none⟩ = some (.int .i64 t314) ∧ w'.cell? ⟨gb322, 4, none⟩ = some (.int .i64 t315) ∧ w'.cell? ⟨gb322, 5, none⟩ = some (.int .i64 t316) ∧ w'.cell? ⟨gb322, 6, none⟩ = some (.bool t317) ∧ w'.cell? ⟨gb322, 7, none⟩ = some (.int .i64 t318) ∧ w'.cell? ⟨gb322, 8, none⟩ = some (.int .i64 t319)) ∧ (Kd.R (Kd.int .u8) 5 w' w.heap.size (fun _ => True) v297 t296) ∧ (w'.heap[gb294]? = some (.cells #[.int .i64 a0_0, .string a0_1, .int .i64 a0_2, .int .i64 a0_3, .int .i64 a0_4, .int .i64 a0_5, .bool a0_6, .int .i64 a0_7, .int .i64 a0_8] 23 (0, 0))) ∧ (w'.heap[gb310]? = some (.cells #[.int .i64 t299, .string t300, .int .i64 t301, .int .i64 t302, .int .i64 t303, .int .i64 t304, .bool t305, .int .i64 t306, .int .i64 t307] 23 (0, 0))) ∧ (w'.heap[gb322]? = some (.cells #[.int .i64 t311, .string t312, .int .i64 t313, .int .i64 t314, .int .i64 t315, .int .i64 t316, .bool t317, .int .i64 t318, .int .i64 t319] 23 (0, 0))) ∧ (Below w.heap.size w w')) ?_ ?_
                              rotate_left
                              · intro hJ1
                                refine join_ (σ := Unit) 29 (b_ 32 13) (fun s_ => [(44, .string t323)]) (fun s_ w' => (w'.cell? ⟨gb294, 0, none⟩ = some (.int .i64 a0_0) ∧ w'.cell? ⟨gb294, 1, none⟩ = some (.string a0_1) ∧ w'.cell? ⟨gb294, 2, none⟩ = some (.int .i64 a0_2) ∧ w'.cell? ⟨gb294, 3, none⟩ = some (.int .i64 a0_3) ∧ w'.cell? ⟨gb294, 4, none⟩ = some (.int .i64 a0_4) ∧ w'.cell? ⟨gb294, 5, none⟩ = some (.int .i64 a0_5) ∧ w'.cell? ⟨gb294, 6, none⟩ = some (.bool a0_6) ∧ w'.cell? ⟨gb294, 7, none⟩ = some (.int .i64 a0_7) ∧ w'.cell? ⟨gb294, 8, none⟩ = some (.int .i64 a0_8) ∧ w'.cell? ⟨gb310, 0, none⟩ = some (.int .i64 t299) ∧ w'.cell? ⟨gb310, 1, none⟩ = some (.string t300) ∧ w'.cell? ⟨gb310, 2, none⟩ = some (.int .i64 t301) ∧ w'.cell? ⟨gb310, 3, none⟩ = some (.int .i64 t302) ∧ w'.cell? ⟨gb310, 4, none⟩ = some (.int .i64 t303) ∧ w'.cell? ⟨gb310, 5, none⟩ = some (.int .i64 t304) ∧ w'.cell? ⟨gb310, 6, none⟩ = some (.bool t305) ∧ w'.cell? ⟨gb310, 7, none⟩ = some (.int .i64 t306) ∧ w'.cell? ⟨gb310, 8, none⟩ = some (.int .i64 t307) ∧ w'.cell? ⟨gb322, 0, none⟩ = some (.int .i64 t311) ∧ w'.cell? ⟨gb322, 1, none⟩ = some (.string t312) ∧ w'.cell? ⟨gb322, 2, none⟩ = some (.int .i64 t313) ∧ w'.cell? ⟨gb322, 3, none⟩ = some (.int .i64 t314) ∧ w'.cell? ⟨gb322, 4, none⟩ = some (.int .i64 t315) ∧ w'.cell? ⟨gb322, 5, none⟩ = some (.int .i64 t316) ∧ w'.cell? ⟨gb322, 6, none⟩ = some (.bool t317) ∧ w'.cell? ⟨gb322, 7, none⟩ = some (.int .i64 t318) ∧ w'.cell? ⟨gb322, 8, none⟩ = some (.int .i64 t319)) ∧ (Kd.R (Kd.int .u8) 5 w' w.heap.size (fun _ => True) v297 t296) ∧ (w'.heap[gb294]? = some (.cells #[.int .i64 a0_0, .string a0_1, .int .i64 a0_2, .int .i64 a0_3, .int .i64 a0_4, .int .i64 a0_5, .bool a0_6, .int .i64 a0_7, .int .i64 a0_8] 23 (0, 0))) ∧ (w'.heap[gb310]? = some (.cells #[.int .i64 t299, .string t300, .int .i64 t301, .int .i64 t302, .int .i64 t303, .int .i64 t304, .bool t305, .int .i64 t306, .int .i64 t307] 23 (0, 0))) ∧ (w'.heap[gb322]? = some (.cells #[.int .i64 t311, .string t312, .int .i64 t313, .int .i64 t314, .int .i64 t315, .int .i64 t316, .bool t317, .int .i64 t318, .int .i64 t319] 23 (0, 0))) ∧ (Below w.heap.size w w')) ?_ ?_
                                rotate_left
                                · intro hJ3
                                  refine two_ (i := 1) (j := 3) (Ni := some 42) (Nj := some 44) (b_ 32 7) (b_ 32 13) rfl rfl rfl rfl (two_of HT_.out (by kernel_rfl)) (by decide) (by decide) (fun K hK => ?_) (fun K hK => ?_)
                                  · skip
                                    have hcv37 := own_string (P := Try.prog) Try.underlying24 Try.underlying5 Try.underlying9 (Kd.own_of_R HO298.out)
                                    refine value_ (w1 := ?_) (v := ?_) (by rfl) rfl ?_ ?_
                                    rotate_left 2
                                    · go_simp
                                      constructor
                                      · rfl
                                      rfl
                                    clear hcv37
                                    refine hK.out _ _ ⟨(zc_ BK294.out 0).trans rfl, (zc_ BK294.out 1).trans rfl, (zc_ BK294.out 2).trans rfl, (zc_ BK294.out 3).trans rfl, (zc_ BK294.out 4).trans rfl, (zc_ BK294.out 5).trans rfl, (zc_ BK294.out 6).trans rfl, (zc_ BK294.out 7).trans rfl, (zc_ BK294.out 8).trans rfl, (zc_ BK310.out 0).trans rfl, (zc_ BK310.out 1).trans rfl, (zc_ BK310.out 2).trans rfl, (zc_ BK310.out 3).trans rfl, (zc_ BK310.out 4).trans rfl, (zc_ BK310.out 5).trans rfl, (zc_ BK310.out 6).trans rfl, (zc_ BK310.out 7).trans rfl, (zc_ BK310.out 8).trans rfl, (zc_ BK322.out 0).trans rfl, (zc_ BK322.out 1).trans rfl, (zc_ BK322.out 2).trans rfl, (zc_ BK322.out 3).trans rfl, (zc_ BK322.out 4).trans rfl, (zc_ BK322.out 5).trans rfl, (zc_ BK322.out 6).trans rfl, (zc_ BK322.out 7).trans rfl, (zc_ BK322.out 8).trans rfl⟩ (fun hHeld => ?_)
                                    clear hK K
                                    refine norm_ (a' := ?_) ?_ ?_
                                    rotate_left
                                    · show Act.put _ (some 42) _ = _
                                      simp only [Act.put, sa_, sz_, ss_, i64_w, i32_w]
                                      rfl
                                    exact norm_ (by simp only [putAll, Act.put, sa_, sz_, ss_] <;> rfl) (hJ1 () _ ⟨hHeld, (by (with_reducible repeat (first | apply Kd.R_alloc | apply Kd.R_drewN | apply Kd.R_drew)); exact HO298.out), (by (with_reducible repeat (first | apply zn_ | apply zd_ | apply za_)); exact BK294.out), (by (with_reducible repeat (first | apply zn_ | apply zd_ | apply za_)); exact BK310.out), (by (with_reducible repeat (first | apply zn_ | apply zd_ | apply za_)); exact BK322.out), (by repeat (first | (with_reducible first | exact HB.out | apply pa_ | apply pd_ | apply p1_ | refine zs_ ?_ GE294.out | refine zs_ ?_ GE310.out | refine zs_ ?_ GE322.out) | exact HB.out))⟩)
                                  skip
                                  refine goes_ Try.func8 (by kernel_rfl) rfl #[.agg #[.int .i64 a0_0, .string a0_1, .int .i64 a0_2, .int .i64 a0_3, .int .i64 a0_4, .int .i64 a0_5, .bool a0_6, .int .i64 a0_7, .int .i64 a0_8]] (by rfl) rfl rfl (by (try simp only [List.map_toArray, List.map_cons, List.map_nil]); first | done | rfl | (simp only [List.length_drop, List.length_take]; rfl)) ?_
                                  with_reducible refine (usufructref15_Saga.calls kj4 a0_0 a0_1 a0_2 a0_3 a0_4 a0_5 a0_6 a0_7 a0_8 t323 _ A28.out).mono ?_
                                  rintro e w37 ⟨rfl, hb⟩
                                  refine ⟨_, rfl, ?_⟩
                                  have n0_ := ak_ (Kd.R_below (by (with_reducible repeat (first | apply Kd.R_alloc | apply Kd.R_drewN | apply Kd.R_drew)); exact HO298.out) hb)
                                  have n1_ := ak_ (blk_below (g := gb294) (o := .cells #[.int .i64 a0_0, .string a0_1, .int .i64 a0_2, .int .i64 a0_3, .int .i64 a0_4, .int .i64 a0_5, .bool a0_6, .int .i64 a0_7, .int .i64 a0_8] 23 (0, 0)) (by (with_reducible repeat (first | apply zn_ | apply zd_ | apply za_)); exact BK294.out) hb)
                                  have n2_ := ak_ (blk_below (g := gb310) (o := .cells #[.int .i64 t299, .string t300, .int .i64 t301, .int .i64 t302, .int .i64 t303, .int .i64 t304, .bool t305, .int .i64 t306, .int .i64 t307] 23 (0, 0)) (by (with_reducible repeat (first | apply zn_ | apply zd_ | apply za_)); exact BK310.out) hb)
                                  have n3_ := ak_ (blk_below (g := gb322) (o := .cells #[.int .i64 t311, .string t312, .int .i64 t313, .int .i64 t314, .int .i64 t315, .int .i64 t316, .bool t317, .int .i64 t318, .int .i64 t319] 23 (0, 0)) (by (with_reducible repeat (first | apply zn_ | apply zd_ | apply za_)); exact BK322.out) hb)
                                  have n4_ := ak_ (ps_ (by repeat (first | (with_reducible first | exact HB.out | apply pa_ | apply pd_ | apply p1_ | refine zs_ ?_ GE294.out | refine zs_ ?_ GE310.out | refine zs_ ?_ GE322.out) | exact HB.out)) hb)
                                  clear HO298
                                  clear BK294
                                  clear BK310
                                  clear BK322
                                  clear HB
                                  have HO298 := n0_
                                  have BK294 := n1_
                                  have BK310 := n2_
                                  have BK322 := n3_
                                  have HB := n4_
                                  clear n0_ n1_ n2_ n3_ n4_
                                  (try clear hb hk hi)
                                  refine hK.out _ _ ⟨(zc_ BK294.out 0).trans rfl, (zc_ BK294.out 1).trans rfl, (zc_ BK294.out 2).trans rfl, (zc_ BK294.out 3).trans rfl, (zc_ BK294.out 4).trans rfl, (zc_ BK294.out 5).trans rfl, (zc_ BK294.out 6).trans rfl, (zc_ BK294.out 7).trans rfl, (zc_ BK294.out 8).trans rfl, (zc_ BK310.out 0).trans rfl, (zc_ BK310.out 1).trans rfl, (zc_ BK310.out 2).trans rfl, (zc_ BK310.out 3).trans rfl, (zc_ BK310.out 4).trans rfl, (zc_ BK310.out 5).trans rfl, (zc_ BK310.out 6).trans rfl, (zc_ BK310.out 7).trans rfl, (zc_ BK310.out 8).trans rfl, (zc_ BK322.out 0).trans rfl, (zc_ BK322.out 1).trans rfl, (zc_ BK322.out 2).trans rfl, (zc_ BK322.out 3).trans rfl, (zc_ BK322.out 4).trans rfl, (zc_ BK322.out 5).trans rfl, (zc_ BK322.out 6).trans rfl, (zc_ BK322.out 7).trans rfl, (zc_ BK322.out 8).trans rfl⟩ (fun hHeld => ?_)
                                  clear hK K
                                  refine norm_ (a' := ?_) ?_ ?_
                                  rotate_left
                                  · show Act.put _ (some 44) _ = _
                                    simp only [Act.put, sa_, sz_, ss_, i64_w, i32_w]
                                    rfl
                                  exact norm_ (by simp only [putAll, Act.put, sa_, sz_, ss_] <;> rfl) (hJ3 () _ ⟨hHeld, (by (with_reducible repeat (first | apply Kd.R_alloc | apply Kd.R_drewN | apply Kd.R_drew)); exact HO298.out), (by (with_reducible repeat (first | apply zn_ | apply zd_ | apply za_)); exact BK294.out), (by (with_reducible repeat (first | apply zn_ | apply zd_ | apply za_)); exact BK310.out), (by (with_reducible repeat (first | apply zn_ | apply zd_ | apply za_)); exact BK322.out), (by repeat (first | (with_reducible first | exact HB.out | apply pa_ | apply pd_ | apply p1_ | refine zs_ ?_ GE294.out | refine zs_ ?_ GE310.out | refine zs_ ?_ GE322.out) | exact HB.out))⟩)
                                skip
                                rintro _ w38 ⟨hS_, h0_, h1_, h2_, h3_, h4_⟩
                                have n0_ : Aside0 (Kd.R (Kd.int .u8) 5 w38 w.heap.size (fun _ => True) v297 t296) := ⟨h0_⟩
                                have n1_ : Aside0 (w38.heap[gb294]? = some (.cells #[.int .i64 a0_0, .string a0_1, .int .i64 a0_2, .int .i64 a0_3, .int .i64 a0_4, .int .i64 a0_5, .bool a0_6, .int .i64 a0_7, .int .i64 a0_8] 23 (0, 0))) := ⟨h1_⟩
                                have n2_ : Aside0 (w38.heap[gb310]? = some (.cells #[.int .i64 t299, .string t300, .int .i64 t301, .int .i64 t302, .int .i64 t303, .int .i64 t304, .bool t305, .int .i64 t306, .int .i64 t307] 23 (0, 0))) := ⟨h2_⟩
                                have n3_ : Aside0 (w38.heap[gb322]? = some (.cells #[.int .i64 t311, .string t312, .int .i64 t313, .int .i64 t314, .int .i64 t315, .int .i64 t316, .bool t317, .int .i64 t318, .int .i64 t319] 23 (0, 0))) := ⟨h3_⟩
                                have n4_ : Aside0 (Below w.heap.size w w38) := ⟨h4_⟩
                                clear HO298
                                clear BK294
                                clear BK310
                                clear BK322
                                clear HB
                                clear h0_ h1_ h2_ h3_ h4_
                                have HO298 := n0_
                                have BK294 := n1_
                                have BK310 := n2_
                                have BK322 := n3_
                                have HB := n4_
                                clear n0_ n1_ n2_ n3_ n4_
                                have hHeld : w38.cell? ⟨gb294, 0, none⟩ = some (.int .i64 a0_0) ∧ w38.cell? ⟨gb294, 1, none⟩ = some (.string a0_1) ∧ w38.cell? ⟨gb294, 2, none⟩ = some (.int .i64 a0_2) ∧ w38.cell? ⟨gb294, 3, none⟩ = some (.int .i64 a0_3) ∧ w38.cell? ⟨gb294, 4, none⟩ = some (.int .i64 a0_4) ∧ w38.cell? ⟨gb294, 5, none⟩ = some (.int .i64 a0_5) ∧ w38.cell? ⟨gb294, 6, none⟩ = some (.bool a0_6) ∧ w38.cell? ⟨gb294, 7, none⟩ = some (.int .i64 a0_7) ∧ w38.cell? ⟨gb294, 8, none⟩ = some (.int .i64 a0_8) ∧ w38.cell? ⟨gb310, 0, none⟩ = some (.int .i64 t299) ∧ w38.cell? ⟨gb310, 1, none⟩ = some (.string t300) ∧ w38.cell? ⟨gb310, 2, none⟩ = some (.int .i64 t301) ∧ w38.cell? ⟨gb310, 3, none⟩ = some (.int .i64 t302) ∧ w38.cell? ⟨gb310, 4, none⟩ = some (.int .i64 t303) ∧ w38.cell? ⟨gb310, 5, none⟩ = some (.int .i64 t304) ∧ w38.cell? ⟨gb310, 6, none⟩ = some (.bool t305) ∧ w38.cell? ⟨gb310, 7, none⟩ = some (.int .i64 t306) ∧ w38.cell? ⟨gb310, 8, none⟩ = some (.int .i64 t307) ∧ w38.cell? ⟨gb322, 0, none⟩ = some (.int .i64 t311) ∧ w38.cell? ⟨gb322, 1, none⟩ = some (.string t312) ∧ w38.cell? ⟨gb322, 2, none⟩ = some (.int .i64 t313) ∧ w38.cell? ⟨gb322, 3, none⟩ = some (.int .i64 t314) ∧ w38.cell? ⟨gb322, 4, none⟩ = some (.int .i64 t315) ∧ w38.cell? ⟨gb322, 5, none⟩ = some (.int .i64 t316) ∧ w38.cell? ⟨gb322, 6, none⟩ = some (.bool t317) ∧ w38.cell? ⟨gb322, 7, none⟩ = some (.int .i64 t318) ∧ w38.cell? ⟨gb322, 8, none⟩ = some (.int .i64 t319) := hS_
                                refine norm_ (a' := ?_) ?_ ?_
                                rotate_left
                                · simp only [putAll, Act.put, sa_, sz_, ss_]
                                  rfl
                                refine one_ (i := 1) (N := some 42) (b_ 32 15) rfl rfl (one_of HT_.out (by kernel_rfl)) (by decide) (fun K hK => ?_)
                                have hcv39 := own_string (P := Try.prog) Try.underlying24 Try.underlying5 Try.underlying9 (Kd.own_of_R HO298.out)
                                refine value_ (w1 := ?_) (v := ?_) (by rfl) rfl ?_ ?_
                                rotate_left 2
                                · go_simp
                                  constructor
                                  · rfl
                                  rfl
                                clear hcv39
                                refine hK.out _ _ ⟨(zc_ BK294.out 0).trans rfl, (zc_ BK294.out 1).trans rfl, (zc_ BK294.out 2).trans rfl, (zc_ BK294.out 3).trans rfl, (zc_ BK294.out 4).trans rfl, (zc_ BK294.out 5).trans rfl, (zc_ BK294.out 6).trans rfl, (zc_ BK294.out 7).trans rfl, (zc_ BK294.out 8).trans rfl, (zc_ BK310.out 0).trans rfl, (zc_ BK310.out 1).trans rfl, (zc_ BK310.out 2).trans rfl, (zc_ BK310.out 3).trans rfl, (zc_ BK310.out 4).trans rfl, (zc_ BK310.out 5).trans rfl, (zc_ BK310.out 6).trans rfl, (zc_ BK310.out 7).trans rfl, (zc_ BK310.out 8).trans rfl, (zc_ BK322.out 0).trans rfl, (zc_ BK322.out 1).trans rfl, (zc_ BK322.out 2).trans rfl, (zc_ BK322.out 3).trans rfl, (zc_ BK322.out 4).trans rfl, (zc_ BK322.out 5).trans rfl, (zc_ BK322.out 6).trans rfl, (zc_ BK322.out 7).trans rfl, (zc_ BK322.out 8).trans rfl⟩ (fun hHeld => ?_)
                                clear hK K
                                refine norm_ (a' := ?_) ?_ ?_
                                rotate_left
                                · show Act.put _ (some 42) _ = _
                                  simp only [Act.put, sa_, sz_, ss_, i64_w, i32_w]
                                  rfl
                                refine pure_ (i := 4) (N := some 45) (v := ?_) (a' := ?_) (b_ 32 31) rfl rfl (any_of HT_.out (by kernel_rfl)) (fun _ _ _ h => h) (Or.inl ⟨by rfl, ?_⟩) ?_ ?_; rotate_left; (· intro w'; go_simp; with_reducible rfl); rotate_left; (· simp only [Act.put, sa_, sz_, ss_, i64_w, i32_w]; rfl)
                                refine pure_ (i := 5) (N := some 46) (v := ?_) (a' := ?_) (b_ 32 63) rfl rfl (any_of HT_.out (by kernel_rfl)) (fun _ _ _ h => h) (Or.inl ⟨by rfl, ?_⟩) ?_ ?_; rotate_left; (· intro w'; go_simp; with_reducible rfl); rotate_left; (· simp only [Act.put, sa_, sz_, ss_, i64_w, i32_w]; rfl)
                                refine take_ (i := 6) (N := some 47) (v := ?_) (a' := ?_) (b_ 32 127) rfl rfl (take_ofW HT_.out HW_.out (by kernel_rfl)) (fun _ _ _ h => h) (Or.inl ⟨by rfl, ?_⟩) hHeld ?_ ?_
                                rotate_left
                                · rintro w' ⟨s0, s1, s2, s3, s4, s5, s6, s7, s8, s9, s10, s11, s12, s13, s14, s15, s16, s17, s18, s19, s20, s21, s22, s23, s24, s25, s26⟩
                                  go_simp
                                  with_reducible rfl
                                rotate_left
                                · simp only [Act.put, sa_, sz_, ss_, i64_w, i32_w]
                                  rfl
                                refine take_ (i := 7) (N := some 48) (v := ?_) (a' := ?_) (b_ 32 255) rfl rfl (take_ofW HT_.out HW_.out (by kernel_rfl)) (fun _ _ _ h => h) (Or.inl ⟨by rfl, ?_⟩) hHeld ?_ ?_
                                rotate_left
                                · rintro w' ⟨s0, s1, s2, s3, s4, s5, s6, s7, s8, s9, s10, s11, s12, s13, s14, s15, s16, s17, s18, s19, s20, s21, s22, s23, s24, s25, s26⟩
                                  go_simp
                                  with_reducible rfl
                                rotate_left
                                · simp only [Act.put, sa_, sz_, ss_, i64_w, i32_w]
                                  rfl
                                refine pure_ (i := 8) (N := some 49) (v := ?_) (a' := ?_) (b_ 32 511) rfl rfl (any_of HT_.out (by kernel_rfl)) (fun _ _ _ h => h) (Or.inl ⟨by rfl, ?_⟩) ?_ ?_; rotate_left; (· intro w'; go_simp; with_reducible rfl); rotate_left; (· simp only [Act.put, sa_, sz_, ss_, i64_w, i32_w]; rfl)
                                refine pure_ (i := 9) (N := some 50) (v := ?_) (a' := ?_) (b_ 32 1023) rfl rfl (any_of HT_.out (by kernel_rfl)) (fun _ _ _ h => h) (Or.inl ⟨by rfl, ?_⟩) ?_ ?_; rotate_left; (· intro w'; go_simp; with_reducible rfl); rotate_left; (· simp only [Act.put, sa_, sz_, ss_, i64_w, i32_w]; rfl)
                                refine pure_ (i := 10) (N := some 51) (v := ?_) (a' := ?_) (b_ 32 2047) rfl rfl (any_of HT_.out (by kernel_rfl)) (fun _ _ _ h => h) (Or.inl ⟨by rfl, ?_⟩) ?_ ?_; rotate_left; (· intro w'; go_simp; with_reducible rfl); rotate_left; (· simp only [Act.put, sa_, sz_, ss_, i64_w, i32_w]; rfl)
                                refine pure_ (i := 11) (N := some 52) (v := ?_) (a' := ?_) (b_ 32 4095) rfl rfl (any_of HT_.out (by kernel_rfl)) (fun _ _ _ h => h) (Or.inl ⟨by rfl, ?_⟩) ?_ ?_; rotate_left; (· intro w'; go_simp; with_reducible rfl); rotate_left; (· simp only [Act.put, sa_, sz_, ss_, i64_w, i32_w]; rfl)
                                refine pure_ (i := 12) (N := some 53) (v := ?_) (a' := ?_) (b_ 32 8191) rfl rfl (any_of HT_.out (by kernel_rfl)) (fun _ _ _ h => h) (Or.inl ⟨by rfl, ?_⟩) ?_ ?_; rotate_left; (· intro w'; go_simp; with_reducible rfl); rotate_left; (· simp only [Act.put, sa_, sz_, ss_, i64_w, i32_w]; rfl)
                                refine pure_ (i := 13) (N := some 54) (v := ?_) (a' := ?_) (b_ 32 16383) rfl rfl (any_of HT_.out (by kernel_rfl)) (fun _ _ _ h => h) (Or.inl ⟨by rfl, ?_⟩) ?_ ?_; rotate_left; (· intro w'; go_simp; with_reducible rfl); rotate_left; (· simp only [Act.put, sa_, sz_, ss_, i64_w, i32_w]; rfl)
                                refine pure_ (i := 14) (N := some 55) (v := ?_) (a' := ?_) (b_ 32 32767) rfl rfl (any_of HT_.out (by kernel_rfl)) (fun _ _ _ h => h) (Or.inl ⟨by rfl, ?_⟩) ?_ ?_; rotate_left; (· intro w'; go_simp; with_reducible rfl); rotate_left; (· simp only [Act.put, sa_, sz_, ss_, i64_w, i32_w]; rfl)
                                refine pure_ (i := 15) (N := some 56) (v := ?_) (a' := ?_) (b_ 32 65535) rfl rfl (any_of HT_.out (by kernel_rfl)) (fun _ _ _ h => h) (Or.inl ⟨by rfl, ?_⟩) ?_ ?_; rotate_left; (· intro w'; go_simp; with_reducible rfl); rotate_left; (· simp only [Act.put, sa_, sz_, ss_, i64_w, i32_w]; rfl)
                                refine pure_ (i := 16) (N := some 57) (v := ?_) (a' := ?_) (b_ 32 131071) rfl rfl (any_of HT_.out (by kernel_rfl)) (fun _ _ _ h => h) (Or.inl ⟨by rfl, ?_⟩) ?_ ?_; rotate_left; (· intro w'; go_simp; with_reducible rfl); rotate_left; (· simp only [Act.put, sa_, sz_, ss_, i64_w, i32_w]; rfl)
                                refine pure_ (i := 17) (N := some 58) (v := ?_) (a' := ?_) (b_ 32 262143) rfl rfl (any_of HT_.out (by kernel_rfl)) (fun _ _ _ h => h) (Or.inl ⟨by rfl, ?_⟩) ?_ ?_; rotate_left; (· intro w'; go_simp; with_reducible rfl); rotate_left; (· simp only [Act.put, sa_, sz_, ss_, i64_w, i32_w]; rfl)
                                refine pure_ (i := 18) (N := some 59) (v := ?_) (a' := ?_) (b_ 32 524287) rfl rfl (any_of HT_.out (by kernel_rfl)) (fun _ _ _ h => h) (Or.inl ⟨by rfl, ?_⟩) ?_ ?_; rotate_left; (· intro w'; go_simp; with_reducible rfl); rotate_left; (· simp only [Act.put, sa_, sz_, ss_, i64_w, i32_w]; rfl)
                                refine pure_ (i := 19) (N := some 60) (v := ?_) (a' := ?_) (b_ 32 1048575) rfl rfl (any_of HT_.out (by kernel_rfl)) (fun _ _ _ h => h) (Or.inl ⟨by rfl, ?_⟩) ?_ ?_; rotate_left; (· intro w'; go_simp; with_reducible rfl); rotate_left; (· simp only [Act.put, sa_, sz_, ss_, i64_w, i32_w]; rfl)
                                refine pure_ (i := 20) (N := some 61) (v := ?_) (a' := ?_) (b_ 32 2097151) rfl rfl (any_of HT_.out (by kernel_rfl)) (fun _ _ _ h => h) (Or.inl ⟨by rfl, ?_⟩) ?_ ?_; rotate_left; (· intro w'; go_simp; with_reducible rfl); rotate_left; (· simp only [Act.put, sa_, sz_, ss_, i64_w, i32_w]; rfl)
                                refine pure_ (i := 21) (N := some 62) (v := ?_) (a' := ?_) (b_ 32 4194303) rfl rfl (any_of HT_.out (by kernel_rfl)) (fun _ _ _ h => h) (Or.inl ⟨by rfl, ?_⟩) ?_ ?_; rotate_left; (· intro w'; go_simp; with_reducible rfl); rotate_left; (· simp only [Act.put, sa_, sz_, ss_, i64_w, i32_w]; rfl)
                                refine pure_ (i := 22) (N := some 63) (v := ?_) (a' := ?_) (b_ 32 8388607) rfl rfl (any_of HT_.out (by kernel_rfl)) (fun _ _ _ h => h) (Or.inl ⟨by rfl, ?_⟩) ?_ ?_; rotate_left; (· intro w'; go_simp; with_reducible rfl); rotate_left; (· simp only [Act.put, sa_, sz_, ss_, i64_w, i32_w]; rfl)
                                refine pure_ (i := 23) (N := some 64) (v := ?_) (a' := ?_) (b_ 32 16777215) rfl rfl (any_of HT_.out (by kernel_rfl)) (fun _ _ _ h => h) (Or.inl ⟨by rfl, ?_⟩) ?_ ?_; rotate_left; (· intro w'; go_simp; with_reducible rfl); rotate_left; (· simp only [Act.put, sa_, sz_, ss_, i64_w, i32_w]; rfl)
                                refine take_ (i := 24) (N := some 65) (v := ?_) (a' := ?_) (b_ 32 33554431) rfl rfl (take_ofW HT_.out HW_.out (by kernel_rfl)) (fun _ _ _ h => h) (Or.inl ⟨by rfl, ?_⟩) hHeld ?_ ?_
                                rotate_left
                                · rintro w' ⟨s0, s1, s2, s3, s4, s5, s6, s7, s8, s9, s10, s11, s12, s13, s14, s15, s16, s17, s18, s19, s20, s21, s22, s23, s24, s25, s26⟩
                                  go_simp
                                  with_reducible rfl
                                rotate_left
                                · simp only [Act.put, sa_, sz_, ss_, i64_w, i32_w]
                                  rfl
                                refine pure_ (i := 27) (N := some 68) (v := ?_) (a' := ?_) (b_ 32 167772159) rfl rfl (any_of HT_.out (by kernel_rfl)) (fun _ _ _ h => h) (Or.inl ⟨by rfl, ?_⟩) ?_ ?_; rotate_left; (· intro w'; go_simp; with_reducible rfl); rotate_left; (· simp only [Act.put, sa_, sz_, ss_, i64_w, i32_w]; rfl)
                                exact norm_ (by simp only [putAll, Act.put, sa_, sz_, ss_] <;> rfl) (hJ1_3 () _ ⟨hHeld, (by (with_reducible repeat (first | apply Kd.R_alloc | apply Kd.R_drewN | apply Kd.R_drew)); exact HO298.out), (by (with_reducible repeat (first | apply zn_ | apply zd_ | apply za_)); exact BK294.out), (by (with_reducible repeat (first | apply zn_ | apply zd_ | apply za_)); exact BK310.out), (by (with_reducible repeat (first | apply zn_ | apply zd_ | apply za_)); exact BK322.out), (by repeat (first | (with_reducible first | exact HB.out | apply pa_ | apply pd_ | apply p1_ | refine zs_ ?_ GE294.out | refine zs_ ?_ GE310.out | refine zs_ ?_ GE322.out) | exact HB.out))⟩)
                              skip
                              rintro _ w38 ⟨hS_, h0_, h1_, h2_, h3_, h4_⟩
                              have n0_ : Aside0 (Kd.R (Kd.int .u8) 5 w38 w.heap.size (fun _ => True) v297 t296) := ⟨h0_⟩
                              have n1_ : Aside0 (w38.heap[gb294]? = some (.cells #[.int .i64 a0_0, .string a0_1, .int .i64 a0_2, .int .i64 a0_3, .int .i64 a0_4, .int .i64 a0_5, .bool a0_6, .int .i64 a0_7, .int .i64 a0_8] 23 (0, 0))) := ⟨h1_⟩
                              have n2_ : Aside0 (w38.heap[gb310]? = some (.cells #[.int .i64 t299, .string t300, .int .i64 t301, .int .i64 t302, .int .i64 t303, .int .i64 t304, .bool t305, .int .i64 t306, .int .i64 t307] 23 (0, 0))) := ⟨h2_⟩
                              have n3_ : Aside0 (w38.heap[gb322]? = some (.cells #[.int .i64 t311, .string t312, .int .i64 t313, .int .i64 t314, .int .i64 t315, .int .i64 t316, .bool t317, .int .i64 t318, .int .i64 t319] 23 (0, 0))) := ⟨h3_⟩
                              have n4_ : Aside0 (Below w.heap.size w w38) := ⟨h4_⟩
                              clear HO298
                              clear BK294
                              clear BK310
                              clear BK322
                              clear HB
                              clear h0_ h1_ h2_ h3_ h4_
                              have HO298 := n0_
                              have BK294 := n1_
                              have BK310 := n2_
                              have BK322 := n3_
                              have HB := n4_
                              clear n0_ n1_ n2_ n3_ n4_
                              have hHeld : w38.cell? ⟨gb294, 0, none⟩ = some (.int .i64 a0_0) ∧ w38.cell? ⟨gb294, 1, none⟩ = some (.string a0_1) ∧ w38.cell? ⟨gb294, 2, none⟩ = some (.int .i64 a0_2) ∧ w38.cell? ⟨gb294, 3, none⟩ = some (.int .i64 a0_3) ∧ w38.cell? ⟨gb294, 4, none⟩ = some (.int .i64 a0_4) ∧ w38.cell? ⟨gb294, 5, none⟩ = some (.int .i64 a0_5) ∧ w38.cell? ⟨gb294, 6, none⟩ = some (.bool a0_6) ∧ w38.cell? ⟨gb294, 7, none⟩ = some (.int .i64 a0_7) ∧ w38.cell? ⟨gb294, 8, none⟩ = some (.int .i64 a0_8) ∧ w38.cell? ⟨gb310, 0, none⟩ = some (.int .i64 t299) ∧ w38.cell? ⟨gb310, 1, none⟩ = some (.string t300) ∧ w38.cell? ⟨gb310, 2, none⟩ = some (.int .i64 t301) ∧ w38.cell? ⟨gb310, 3, none⟩ = some (.int .i64 t302) ∧ w38.cell? ⟨gb310, 4, none⟩ = some (.int .i64 t303) ∧ w38.cell? ⟨gb310, 5, none⟩ = some (.int .i64 t304) ∧ w38.cell? ⟨gb310, 6, none⟩ = some (.bool t305) ∧ w38.cell? ⟨gb310, 7, none⟩ = some (.int .i64 t306) ∧ w38.cell? ⟨gb310, 8, none⟩ = some (.int .i64 t307) ∧ w38.cell? ⟨gb322, 0, none⟩ = some (.int .i64 t311) ∧ w38.cell? ⟨gb322, 1, none⟩ = some (.string t312) ∧ w38.cell? ⟨gb322, 2, none⟩ = some (.int .i64 t313) ∧ w38.cell? ⟨gb322, 3, none⟩ = some (.int .i64 t314) ∧ w38.cell? ⟨gb322, 4, none⟩ = some (.int .i64 t315) ∧ w38.cell? ⟨gb322, 5, none⟩ = some (.int .i64 t316) ∧ w38.cell? ⟨gb322, 6, none⟩ = some (.bool t317) ∧ w38.cell? ⟨gb322, 7, none⟩ = some (.int .i64 t318) ∧ w38.cell? ⟨gb322, 8, none⟩ = some (.int .i64 t319) := hS_
                              refine norm_ (a' := ?_) ?_ ?_
                              rotate_left
                              · simp only [putAll, Act.put, sa_, sz_, ss_]
                                rfl
                              refine one_ (i := 3) (N := some 44) (b_ 32 15) rfl rfl (one_of HT_.out (by kernel_rfl)) (by decide) (fun K hK => ?_)
                              refine goes_ Try.func8 (by kernel_rfl) rfl #[.agg #[.int .i64 a0_0, .string a0_1, .int .i64 a0_2, .int .i64 a0_3, .int .i64 a0_4, .int .i64 a0_5, .bool a0_6, .int .i64 a0_7, .int .i64 a0_8]] (by rfl) rfl rfl (by (try simp only [List.map_toArray, List.map_cons, List.map_nil]); first | done | rfl | (simp only [List.length_drop, List.length_take]; rfl)) ?_
                              with_reducible refine (usufructref15_Saga.calls kj4 a0_0 a0_1 a0_2 a0_3 a0_4 a0_5 a0_6 a0_7 a0_8 t323 _ A28.out).mono ?_
                              rintro e w39 ⟨rfl, hb⟩
                              refine ⟨_, rfl, ?_⟩
                              have n0_ := ak_ (Kd.R_below (by (with_reducible repeat (first | apply Kd.R_alloc | apply Kd.R_drewN | apply Kd.R_drew)); exact HO298.out) hb)
                              have n1_ := ak_ (blk_below (g := gb294) (o := .cells #[.int .i64 a0_0, .string a0_1, .int .i64 a0_2, .int .i64 a0_3, .int .i64 a0_4, .int .i64 a0_5, .bool a0_6, .int .i64 a0_7, .int .i64 a0_8] 23 (0, 0)) (by (with_reducible repeat (first | apply zn_ | apply zd_ | apply za_)); exact BK294.out) hb)
                              have n2_ := ak_ (blk_below (g := gb310) (o := .cells #[.int .i64 t299, .string t300, .int .i64 t301, .int .i64 t302, .int .i64 t303, .int .i64 t304, .bool t305, .int .i64 t306, .int .i64 t307] 23 (0, 0)) (by (with_reducible repeat (first | apply zn_ | apply zd_ | apply za_)); exact BK310.out) hb)
                              have n3_ := ak_ (blk_below (g := gb322) (o := .cells #[.int .i64 t311, .string t312, .int .i64 t313, .int .i64 t314, .int .i64 t315, .int .i64 t316, .bool t317, .int .i64 t318, .int .i64 t319] 23 (0, 0)) (by (with_reducible repeat (first | apply zn_ | apply zd_ | apply za_)); exact BK322.out) hb)
                              have n4_ := ak_ (ps_ (by repeat (first | (with_reducible first | exact HB.out | apply pa_ | apply pd_ | apply p1_ | refine zs_ ?_ GE294.out | refine zs_ ?_ GE310.out | refine zs_ ?_ GE322.out) | exact HB.out)) hb)
                              clear HO298
                              clear BK294
                              clear BK310
                              clear BK322
                              clear HB
                              have HO298 := n0_
                              have BK294 := n1_
                              have BK310 := n2_
                              have BK322 := n3_
                              have HB := n4_
                              clear n0_ n1_ n2_ n3_ n4_
                              (try clear hb hk hi)
                              refine hK.out _ _ ⟨(zc_ BK294.out 0).trans rfl, (zc_ BK294.out 1).trans rfl, (zc_ BK294.out 2).trans rfl, (zc_ BK294.out 3).trans rfl, (zc_ BK294.out 4).trans rfl, (zc_ BK294.out 5).trans rfl, (zc_ BK294.out 6).trans rfl, (zc_ BK294.out 7).trans rfl, (zc_ BK294.out 8).trans rfl, (zc_ BK310.out 0).trans rfl, (zc_ BK310.out 1).trans rfl, (zc_ BK310.out 2).trans rfl, (zc_ BK310.out 3).trans rfl, (zc_ BK310.out 4).trans rfl, (zc_ BK310.out 5).trans rfl, (zc_ BK310.out 6).trans rfl, (zc_ BK310.out 7).trans rfl, (zc_ BK310.out 8).trans rfl, (zc_ BK322.out 0).trans rfl, (zc_ BK322.out 1).trans rfl, (zc_ BK322.out 2).trans rfl, (zc_ BK322.out 3).trans rfl, (zc_ BK322.out 4).trans rfl, (zc_ BK322.out 5).trans rfl, (zc_ BK322.out 6).trans rfl, (zc_ BK322.out 7).trans rfl, (zc_ BK322.out 8).trans rfl⟩ (fun hHeld => ?_)
                              clear hK K
                              refine norm_ (a' := ?_) ?_ ?_
                              rotate_left
                              · show Act.put _ (some 44) _ = _
                                simp only [Act.put, sa_, sz_, ss_, i64_w, i32_w]
                                rfl
                              refine pure_ (i := 4) (N := some 45) (v := ?_) (a' := ?_) (b_ 32 31) rfl rfl (any_of HT_.out (by kernel_rfl)) (fun _ _ _ h => h) (Or.inl ⟨by rfl, ?_⟩) ?_ ?_; rotate_left; (· intro w'; go_simp; with_reducible rfl); rotate_left; (· simp only [Act.put, sa_, sz_, ss_, i64_w, i32_w]; rfl)
                              refine pure_ (i := 5) (N := some 46) (v := ?_) (a' := ?_) (b_ 32 63) rfl rfl (any_of HT_.out (by kernel_rfl)) (fun _ _ _ h => h) (Or.inl ⟨by rfl, ?_⟩) ?_ ?_; rotate_left; (· intro w'; go_simp; with_reducible rfl); rotate_left; (· simp only [Act.put, sa_, sz_, ss_, i64_w, i32_w]; rfl)
                              refine take_ (i := 6) (N := some 47) (v := ?_) (a' := ?_) (b_ 32 127) rfl rfl (take_ofW HT_.out HW_.out (by kernel_rfl)) (fun _ _ _ h => h) (Or.inl ⟨by rfl, ?_⟩) hHeld ?_ ?_
                              rotate_left
                              · rintro w' ⟨s0, s1, s2, s3, s4, s5, s6, s7, s8, s9, s10, s11, s12, s13, s14, s15, s16, s17, s18, s19, s20, s21, s22, s23, s24, s25, s26⟩
                                go_simp
                                with_reducible rfl
                              rotate_left
                              · simp only [Act.put, sa_, sz_, ss_, i64_w, i32_w]
                                rfl
                              refine take_ (i := 7) (N := some 48) (v := ?_) (a' := ?_) (b_ 32 255) rfl rfl (take_ofW HT_.out HW_.out (by kernel_rfl)) (fun _ _ _ h => h) (Or.inl ⟨by rfl, ?_⟩) hHeld ?_ ?_
                              rotate_left
                              · rintro w' ⟨s0, s1, s2, s3, s4, s5, s6, s7, s8, s9, s10, s11, s12, s13, s14, s15, s16, s17, s18, s19, s20, s21, s22, s23, s24, s25, s26⟩
                                go_simp
                                with_reducible rfl
                              rotate_left
                              · simp only [Act.put, sa_, sz_, ss_, i64_w, i32_w]
                                rfl
                              refine pure_ (i := 8) (N := some 49) (v := ?_) (a' := ?_) (b_ 32 511) rfl rfl (any_of HT_.out (by kernel_rfl)) (fun _ _ _ h => h) (Or.inl ⟨by rfl, ?_⟩) ?_ ?_; rotate_left; (· intro w'; go_simp; with_reducible rfl); rotate_left; (· simp only [Act.put, sa_, sz_, ss_, i64_w, i32_w]; rfl)
                              refine pure_ (i := 9) (N := some 50) (v := ?_) (a' := ?_) (b_ 32 1023) rfl rfl (any_of HT_.out (by kernel_rfl)) (fun _ _ _ h => h) (Or.inl ⟨by rfl, ?_⟩) ?_ ?_; rotate_left; (· intro w'; go_simp; with_reducible rfl); rotate_left; (· simp only [Act.put, sa_, sz_, ss_, i64_w, i32_w]; rfl)
                              refine pure_ (i := 10) (N := some 51) (v := ?_) (a' := ?_) (b_ 32 2047) rfl rfl (any_of HT_.out (by kernel_rfl)) (fun _ _ _ h => h) (Or.inl ⟨by rfl, ?_⟩) ?_ ?_; rotate_left; (· intro w'; go_simp; with_reducible rfl); rotate_left; (· simp only [Act.put, sa_, sz_, ss_, i64_w, i32_w]; rfl)
                              refine pure_ (i := 11) (N := some 52) (v := ?_) (a' := ?_) (b_ 32 4095) rfl rfl (any_of HT_.out (by kernel_rfl)) (fun _ _ _ h => h) (Or.inl ⟨by rfl, ?_⟩) ?_ ?_; rotate_left; (· intro w'; go_simp; with_reducible rfl); rotate_left; (· simp only [Act.put, sa_, sz_, ss_, i64_w, i32_w]; rfl)
                              refine pure_ (i := 12) (N := some 53) (v := ?_) (a' := ?_) (b_ 32 8191) rfl rfl (any_of HT_.out (by kernel_rfl)) (fun _ _ _ h => h) (Or.inl ⟨by rfl, ?_⟩) ?_ ?_; rotate_left; (· intro w'; go_simp; with_reducible rfl); rotate_left; (· simp only [Act.put, sa_, sz_, ss_, i64_w, i32_w]; rfl)
                              refine pure_ (i := 13) (N := some 54) (v := ?_) (a' := ?_) (b_ 32 16383) rfl rfl (any_of HT_.out (by kernel_rfl)) (fun _ _ _ h => h) (Or.inl ⟨by rfl, ?_⟩) ?_ ?_; rotate_left; (· intro w'; go_simp; with_reducible rfl); rotate_left; (· simp only [Act.put, sa_, sz_, ss_, i64_w, i32_w]; rfl)
                              refine pure_ (i := 14) (N := some 55) (v := ?_) (a' := ?_) (b_ 32 32767) rfl rfl (any_of HT_.out (by kernel_rfl)) (fun _ _ _ h => h) (Or.inl ⟨by rfl, ?_⟩) ?_ ?_; rotate_left; (· intro w'; go_simp; with_reducible rfl); rotate_left; (· simp only [Act.put, sa_, sz_, ss_, i64_w, i32_w]; rfl)
                              refine pure_ (i := 15) (N := some 56) (v := ?_) (a' := ?_) (b_ 32 65535) rfl rfl (any_of HT_.out (by kernel_rfl)) (fun _ _ _ h => h) (Or.inl ⟨by rfl, ?_⟩) ?_ ?_; rotate_left; (· intro w'; go_simp; with_reducible rfl); rotate_left; (· simp only [Act.put, sa_, sz_, ss_, i64_w, i32_w]; rfl)
                              refine pure_ (i := 16) (N := some 57) (v := ?_) (a' := ?_) (b_ 32 131071) rfl rfl (any_of HT_.out (by kernel_rfl)) (fun _ _ _ h => h) (Or.inl ⟨by rfl, ?_⟩) ?_ ?_; rotate_left; (· intro w'; go_simp; with_reducible rfl); rotate_left; (· simp only [Act.put, sa_, sz_, ss_, i64_w, i32_w]; rfl)
                              refine pure_ (i := 17) (N := some 58) (v := ?_) (a' := ?_) (b_ 32 262143) rfl rfl (any_of HT_.out (by kernel_rfl)) (fun _ _ _ h => h) (Or.inl ⟨by rfl, ?_⟩) ?_ ?_; rotate_left; (· intro w'; go_simp; with_reducible rfl); rotate_left; (· simp only [Act.put, sa_, sz_, ss_, i64_w, i32_w]; rfl)
                              refine pure_ (i := 18) (N := some 59) (v := ?_) (a' := ?_) (b_ 32 524287) rfl rfl (any_of HT_.out (by kernel_rfl)) (fun _ _ _ h => h) (Or.inl ⟨by rfl, ?_⟩) ?_ ?_; rotate_left; (· intro w'; go_simp; with_reducible rfl); rotate_left; (· simp only [Act.put, sa_, sz_, ss_, i64_w, i32_w]; rfl)
                              refine pure_ (i := 19) (N := some 60) (v := ?_) (a' := ?_) (b_ 32 1048575) rfl rfl (any_of HT_.out (by kernel_rfl)) (fun _ _ _ h => h) (Or.inl ⟨by rfl, ?_⟩) ?_ ?_; rotate_left; (· intro w'; go_simp; with_reducible rfl); rotate_left; (· simp only [Act.put, sa_, sz_, ss_, i64_w, i32_w]; rfl)
                              refine pure_ (i := 20) (N := some 61) (v := ?_) (a' := ?_) (b_ 32 2097151) rfl rfl (any_of HT_.out (by kernel_rfl)) (fun _ _ _ h => h) (Or.inl ⟨by rfl, ?_⟩) ?_ ?_; rotate_left; (· intro w'; go_simp; with_reducible rfl); rotate_left; (· simp only [Act.put, sa_, sz_, ss_, i64_w, i32_w]; rfl)
                              refine pure_ (i := 21) (N := some 62) (v := ?_) (a' := ?_) (b_ 32 4194303) rfl rfl (any_of HT_.out (by kernel_rfl)) (fun _ _ _ h => h) (Or.inl ⟨by rfl, ?_⟩) ?_ ?_; rotate_left; (· intro w'; go_simp; with_reducible rfl); rotate_left; (· simp only [Act.put, sa_, sz_, ss_, i64_w, i32_w]; rfl)
                              refine pure_ (i := 22) (N := some 63) (v := ?_) (a' := ?_) (b_ 32 8388607) rfl rfl (any_of HT_.out (by kernel_rfl)) (fun _ _ _ h => h) (Or.inl ⟨by rfl, ?_⟩) ?_ ?_; rotate_left; (· intro w'; go_simp; with_reducible rfl); rotate_left; (· simp only [Act.put, sa_, sz_, ss_, i64_w, i32_w]; rfl)
                              refine pure_ (i := 23) (N := some 64) (v := ?_) (a' := ?_) (b_ 32 16777215) rfl rfl (any_of HT_.out (by kernel_rfl)) (fun _ _ _ h => h) (Or.inl ⟨by rfl, ?_⟩) ?_ ?_; rotate_left; (· intro w'; go_simp; with_reducible rfl); rotate_left; (· simp only [Act.put, sa_, sz_, ss_, i64_w, i32_w]; rfl)
                              refine take_ (i := 24) (N := some 65) (v := ?_) (a' := ?_) (b_ 32 33554431) rfl rfl (take_ofW HT_.out HW_.out (by kernel_rfl)) (fun _ _ _ h => h) (Or.inl ⟨by rfl, ?_⟩) hHeld ?_ ?_
                              rotate_left
                              · rintro w' ⟨s0, s1, s2, s3, s4, s5, s6, s7, s8, s9, s10, s11, s12, s13, s14, s15, s16, s17, s18, s19, s20, s21, s22, s23, s24, s25, s26⟩
                                go_simp
                                with_reducible rfl
                              rotate_left
                              · simp only [Act.put, sa_, sz_, ss_, i64_w, i32_w]
                                rfl
                              refine pure_ (i := 27) (N := some 68) (v := ?_) (a' := ?_) (b_ 32 167772159) rfl rfl (any_of HT_.out (by kernel_rfl)) (fun _ _ _ h => h) (Or.inl ⟨by rfl, ?_⟩) ?_ ?_; rotate_left; (· intro w'; go_simp; with_reducible rfl); rotate_left; (· simp only [Act.put, sa_, sz_, ss_, i64_w, i32_w]; rfl)
                              exact norm_ (by simp only [putAll, Act.put, sa_, sz_, ss_] <;> rfl) (hJ1_3 () _ ⟨hHeld, (by (with_reducible repeat (first | apply Kd.R_alloc | apply Kd.R_drewN | apply Kd.R_drew)); exact HO298.out), (by (with_reducible repeat (first | apply zn_ | apply zd_ | apply za_)); exact BK294.out), (by (with_reducible repeat (first | apply zn_ | apply zd_ | apply za_)); exact BK310.out), (by (with_reducible repeat (first | apply zn_ | apply zd_ | apply za_)); exact BK322.out), (by repeat (first | (with_reducible first | exact HB.out | apply pa_ | apply pd_ | apply p1_ | refine zs_ ?_ GE294.out | refine zs_ ?_ GE310.out | refine zs_ ?_ GE322.out) | exact HB.out))⟩)
                            skip
                            rintro _ w39 ⟨hS_, h0_, h1_, h2_, h3_, h4_⟩
                            have n0_ : Aside0 (Kd.R (Kd.int .u8) 5 w39 w.heap.size (fun _ => True) v297 t296) := ⟨h0_⟩
                            have n1_ : Aside0 (w39.heap[gb294]? = some (.cells #[.int .i64 a0_0, .string a0_1, .int .i64 a0_2, .int .i64 a0_3, .int .i64 a0_4, .int .i64 a0_5, .bool a0_6, .int .i64 a0_7, .int .i64 a0_8] 23 (0, 0))) := ⟨h1_⟩
                            have n2_ : Aside0 (w39.heap[gb310]? = some (.cells #[.int .i64 t299, .string t300, .int .i64 t301, .int .i64 t302, .int .i64 t303, .int .i64 t304, .bool t305, .int .i64 t306, .int .i64 t307] 23 (0, 0))) := ⟨h2_⟩
                            have n3_ : Aside0 (w39.heap[gb322]? = some (.cells #[.int .i64 t311, .string t312, .int .i64 t313, .int .i64 t314, .int .i64 t315, .int .i64 t316, .bool t317, .int .i64 t318, .int .i64 t319] 23 (0, 0))) := ⟨h3_⟩
                            have n4_ : Aside0 (Below w.heap.size w w39) := ⟨h4_⟩
                            clear HO298
                            clear BK294
                            clear BK310
                            clear BK322
                            clear HB
                            clear h0_ h1_ h2_ h3_ h4_
                            have HO298 := n0_
                            have BK294 := n1_
                            have BK310 := n2_
                            have BK322 := n3_
                            have HB := n4_
                            clear n0_ n1_ n2_ n3_ n4_
                            have hHeld : w39.cell? ⟨gb294, 0, none⟩ = some (.int .i64 a0_0) ∧ w39.cell? ⟨gb294, 1, none⟩ = some (.string a0_1) ∧ w39.cell? ⟨gb294, 2, none⟩ = some (.int .i64 a0_2) ∧ w39.cell? ⟨gb294, 3, none⟩ = some (.int .i64 a0_3) ∧ w39.cell? ⟨gb294, 4, none⟩ = some (.int .i64 a0_4) ∧ w39.cell? ⟨gb294, 5, none⟩ = some (.int .i64 a0_5) ∧ w39.cell? ⟨gb294, 6, none⟩ = some (.bool a0_6) ∧ w39.cell? ⟨gb294, 7, none⟩ = some (.int .i64 a0_7) ∧ w39.cell? ⟨gb294, 8, none⟩ = some (.int .i64 a0_8) ∧ w39.cell? ⟨gb310, 0, none⟩ = some (.int .i64 t299) ∧ w39.cell? ⟨gb310, 1, none⟩ = some (.string t300) ∧ w39.cell? ⟨gb310, 2, none⟩ = some (.int .i64 t301) ∧ w39.cell? ⟨gb310, 3, none⟩ = some (.int .i64 t302) ∧ w39.cell? ⟨gb310, 4, none⟩ = some (.int .i64 t303) ∧ w39.cell? ⟨gb310, 5, none⟩ = some (.int .i64 t304) ∧ w39.cell? ⟨gb310, 6, none⟩ = some (.bool t305) ∧ w39.cell? ⟨gb310, 7, none⟩ = some (.int .i64 t306) ∧ w39.cell? ⟨gb310, 8, none⟩ = some (.int .i64 t307) ∧ w39.cell? ⟨gb322, 0, none⟩ = some (.int .i64 t311) ∧ w39.cell? ⟨gb322, 1, none⟩ = some (.string t312) ∧ w39.cell? ⟨gb322, 2, none⟩ = some (.int .i64 t313) ∧ w39.cell? ⟨gb322, 3, none⟩ = some (.int .i64 t314) ∧ w39.cell? ⟨gb322, 4, none⟩ = some (.int .i64 t315) ∧ w39.cell? ⟨gb322, 5, none⟩ = some (.int .i64 t316) ∧ w39.cell? ⟨gb322, 6, none⟩ = some (.bool t317) ∧ w39.cell? ⟨gb322, 7, none⟩ = some (.int .i64 t318) ∧ w39.cell? ⟨gb322, 8, none⟩ = some (.int .i64 t319) := hS_
                            refine norm_ (a' := ?_) ?_ ?_
                            rotate_left
                            · simp only [putAll, Act.put, sa_, sz_, ss_]
                              rfl
                            refine two_ (i := 25) (j := 28) (Ni := some 66) (Nj := some 69) (b_ 32 201326591) (b_ 32 436207615) rfl rfl rfl rfl (two_of HT_.out (by kernel_rfl)) (by decide) (by decide) (fun K hK => ?_) (fun K hK => ?_)
                            · skip
                              refine goes_ Try.func5 (by kernel_rfl) rfl #[.agg #[.int .i64 t299, .string t300, .int .i64 t301, .int .i64 t302, .int .i64 t303, .int .i64 t304, .bool t305, .int .i64 t306, .int .i64 t307]] (by rfl) rfl rfl (by (try simp only [List.map_toArray, List.map_cons, List.map_nil]); first | done | rfl | (simp only [List.length_drop, List.length_take]; rfl)) ?_
                              with_reducible refine (code_PutSaga.calls t299 t300 t301 t302 t303 t304 t305 t306 t307 t324 _ A34.out).mono ?_
                              rintro e w40 ⟨v325, rfl, ho0, hb⟩
                              refine ⟨_, rfl, ?_⟩
                              have n0_ := ak_ (Kd.R_elder' (by (with_reducible repeat (first | apply Kd.R_alloc | apply Kd.R_drewN | apply Kd.R_drew)); exact HO298.out) (Kd.R_base ho0) hb)
                              have n1_ := ak_ (Kd.R_lower (Kd.R_new' ho0 (Kd.R_lt (by (with_reducible repeat (first | apply Kd.R_alloc | apply Kd.R_drewN | apply Kd.R_drew)); exact HO298.out))) (below_size (by repeat (first | (with_reducible first | exact HB.out | apply pa_ | apply pd_ | apply p1_ | refine zs_ ?_ GE294.out | refine zs_ ?_ GE310.out | refine zs_ ?_ GE322.out) | exact HB.out))))
                              have n2_ := ak_ (blk_below (g := gb294) (o := .cells #[.int .i64 a0_0, .string a0_1, .int .i64 a0_2, .int .i64 a0_3, .int .i64 a0_4, .int .i64 a0_5, .bool a0_6, .int .i64 a0_7, .int .i64 a0_8] 23 (0, 0)) (by (with_reducible repeat (first | apply zn_ | apply zd_ | apply za_)); exact BK294.out) hb)
                              have n3_ := ak_ (blk_below (g := gb310) (o := .cells #[.int .i64 t299, .string t300, .int .i64 t301, .int .i64 t302, .int .i64 t303, .int .i64 t304, .bool t305, .int .i64 t306, .int .i64 t307] 23 (0, 0)) (by (with_reducible repeat (first | apply zn_ | apply zd_ | apply za_)); exact BK310.out) hb)
                              have n4_ := ak_ (blk_below (g := gb322) (o := .cells #[.int .i64 t311, .string t312, .int .i64 t313, .int .i64 t314, .int .i64 t315, .int .i64 t316, .bool t317, .int .i64 t318, .int .i64 t319] 23 (0, 0)) (by (with_reducible repeat (first | apply zn_ | apply zd_ | apply za_)); exact BK322.out) hb)
                              have n5_ := ak_ (ps_ (by repeat (first | (with_reducible first | exact HB.out | apply pa_ | apply pd_ | apply p1_ | refine zs_ ?_ GE294.out | refine zs_ ?_ GE310.out | refine zs_ ?_ GE322.out) | exact HB.out)) hb)
                              clear HO298
                              clear BK294
                              clear BK310
                              clear BK322
                              clear HB
                              have HO298 := n0_
                              have HO326 := n1_
                              have BK294 := n2_
                              have BK310 := n3_
                              have BK322 := n4_
                              have HB := n5_
                              clear n0_ n1_ n2_ n3_ n4_ n5_
                              (try clear hb hk hi); (try clear ho0)
                              refine hK.out _ _ ⟨(zc_ BK294.out 0).trans rfl, (zc_ BK294.out 1).trans rfl, (zc_ BK294.out 2).trans rfl, (zc_ BK294.out 3).trans rfl, (zc_ BK294.out 4).trans rfl, (zc_ BK294.out 5).trans rfl, (zc_ BK294.out 6).trans rfl, (zc_ BK294.out 7).trans rfl, (zc_ BK294.out 8).trans rfl, (zc_ BK310.out 0).trans rfl, (zc_ BK310.out 1).trans rfl, (zc_ BK310.out 2).trans rfl, (zc_ BK310.out 3).trans rfl, (zc_ BK310.out 4).trans rfl, (zc_ BK310.out 5).trans rfl, (zc_ BK310.out 6).trans rfl, (zc_ BK310.out 7).trans rfl, (zc_ BK310.out 8).trans rfl, (zc_ BK322.out 0).trans rfl, (zc_ BK322.out 1).trans rfl, (zc_ BK322.out 2).trans rfl, (zc_ BK322.out 3).trans rfl, (zc_ BK322.out 4).trans rfl, (zc_ BK322.out 5).trans rfl, (zc_ BK322.out 6).trans rfl, (zc_ BK322.out 7).trans rfl, (zc_ BK322.out 8).trans rfl⟩ (fun hHeld => ?_)
                              clear hK K
                              refine norm_ (a' := ?_) ?_ ?_
                              rotate_left
                              · show Act.put _ (some 66) _ = _
                                simp only [Act.put, sa_, sz_, ss_, i64_w, i32_w]
                                rfl
                              exact norm_ (by simp only [putAll, Act.put, sa_, sz_, ss_] <;> rfl) (hJ1_3_25 (v325) _ ⟨hHeld, (by (with_reducible repeat (first | apply Kd.R_alloc | apply Kd.R_drewN | apply Kd.R_drew)); exact Kd.R_mono HO298.out (fun _ hk => hk.2)), (by (with_reducible repeat (first | apply Kd.R_alloc | apply Kd.R_drewN | apply Kd.R_drew)); exact Kd.R_mono HO326.out (fun _ hk => hk.2)), (by (with_reducible repeat (first | apply zn_ | apply zd_ | apply za_)); exact BK294.out), (by (with_reducible repeat (first | apply zn_ | apply zd_ | apply za_)); exact BK310.out), (by (with_reducible repeat (first | apply zn_ | apply zd_ | apply za_)); exact BK322.out), (by repeat (first | (with_reducible first | exact HB.out | apply pa_ | apply pd_ | apply p1_ | refine zs_ ?_ GE294.out | refine zs_ ?_ GE310.out | refine zs_ ?_ GE322.out) | exact HB.out))⟩)
                            skip
                            have hcv40 := Kd.C_string (P := Try.prog) (A := A1) (c := c1) Try.underlying24 Try.underlying5 Try.underlying9 (Kd.C_below HR1.out HB.out)
                            refine value_ (w1 := ?_) (v := ?_) (by rfl) rfl ?_ ?_
                            rotate_left 2
                            · go_simp
                              constructor
                              · rfl
                              rfl
                            clear hcv40
                            refine hK.out _ _ ⟨(zc_ BK294.out 0).trans rfl, (zc_ BK294.out 1).trans rfl, (zc_ BK294.out 2).trans rfl, (zc_ BK294.out 3).trans rfl, (zc_ BK294.out 4).trans rfl, (zc_ BK294.out 5).trans rfl, (zc_ BK294.out 6).trans rfl, (zc_ BK294.out 7).trans rfl, (zc_ BK294.out 8).trans rfl, (zc_ BK310.out 0).trans rfl, (zc_ BK310.out 1).trans rfl, (zc_ BK310.out 2).trans rfl, (zc_ BK310.out 3).trans rfl, (zc_ BK310.out 4).trans rfl, (zc_ BK310.out 5).trans rfl, (zc_ BK310.out 6).trans rfl, (zc_ BK310.out 7).trans rfl, (zc_ BK310.out 8).trans rfl, (zc_ BK322.out 0).trans rfl, (zc_ BK322.out 1).trans rfl, (zc_ BK322.out 2).trans rfl, (zc_ BK322.out 3).trans rfl, (zc_ BK322.out 4).trans rfl, (zc_ BK322.out 5).trans rfl, (zc_ BK322.out 6).trans rfl, (zc_ BK322.out 7).trans rfl, (zc_ BK322.out 8).trans rfl⟩ (fun hHeld => ?_)
                            clear hK K
                            refine norm_ (a' := ?_) ?_ ?_
                            rotate_left
                            · show Act.put _ (some 69) _ = _
                              simp only [Act.put, sa_, sz_, ss_, i64_w, i32_w]
                              rfl
                            exact norm_ (by simp only [putAll, Act.put, sa_, sz_, ss_] <;> rfl) (hJ1_3_28 () _ ⟨hHeld, (by (with_reducible repeat (first | apply Kd.R_alloc | apply Kd.R_drewN | apply Kd.R_drew)); exact HO298.out), (by (with_reducible repeat (first | apply zn_ | apply zd_ | apply za_)); exact BK294.out), (by (with_reducible repeat (first | apply zn_ | apply zd_ | apply za_)); exact BK310.out), (by (with_reducible repeat (first | apply zn_ | apply zd_ | apply za_)); exact BK322.out), (by repeat (first | (with_reducible first | exact HB.out | apply pa_ | apply pd_ | apply p1_ | refine zs_ ?_ GE294.out | refine zs_ ?_ GE310.out | refine zs_ ?_ GE322.out) | exact HB.out))⟩)
                          skip
                          rintro _ w40 ⟨hS_, h0_, h1_, h2_, h3_, h4_⟩
                          have n0_ : Aside0 (Kd.R (Kd.int .u8) 5 w40 w.heap.size (fun _ => True) v297 t296) := ⟨h0_⟩
                          have n1_ : Aside0 (w40.heap[gb294]? = some (.cells #[.int .i64 a0_0, .string a0_1, .int .i64 a0_2, .int .i64 a0_3, .int .i64 a0_4, .int .i64 a0_5, .bool a0_6, .int .i64 a0_7, .int .i64 a0_8] 23 (0, 0))) := ⟨h1_⟩
                          have n2_ : Aside0 (w40.heap[gb310]? = some (.cells #[.int .i64 t299, .string t300, .int .i64 t301, .int .i64 t302, .int .i64 t303, .int .i64 t304, .bool t305, .int .i64 t306, .int .i64 t307] 23 (0, 0))) := ⟨h2_⟩
                          have n3_ : Aside0 (w40.heap[gb322]? = some (.cells #[.int .i64 t311, .string t312, .int .i64 t313, .int .i64 t314, .int .i64 t315, .int .i64 t316, .bool t317, .int .i64 t318, .int .i64 t319] 23 (0, 0))) := ⟨h3_⟩
                          have n4_ : Aside0 (Below w.heap.size w w40) := ⟨h4_⟩
                          clear HO298
                          clear BK294
                          clear BK310
                          clear BK322
                          clear HB
                          clear h0_ h1_ h2_ h3_ h4_
                          have HO298 := n0_
                          have BK294 := n1_
                          have BK310 := n2_
                          have BK322 := n3_
                          have HB := n4_
                          clear n0_ n1_ n2_ n3_ n4_
                          have hHeld : w40.cell? ⟨gb294, 0, none⟩ = some (.int .i64 a0_0) ∧ w40.cell? ⟨gb294, 1, none⟩ = some (.string a0_1) ∧ w40.cell? ⟨gb294, 2, none⟩ = some (.int .i64 a0_2) ∧ w40.cell? ⟨gb294, 3, none⟩ = some (.int .i64 a0_3) ∧ w40.cell? ⟨gb294, 4, none⟩ = some (.int .i64 a0_4) ∧ w40.cell? ⟨gb294, 5, none⟩ = some (.int .i64 a0_5) ∧ w40.cell? ⟨gb294, 6, none⟩ = some (.bool a0_6) ∧ w40.cell? ⟨gb294, 7, none⟩ = some (.int .i64 a0_7) ∧ w40.cell? ⟨gb294, 8, none⟩ = some (.int .i64 a0_8) ∧ w40.cell? ⟨gb310, 0, none⟩ = some (.int .i64 t299) ∧ w40.cell? ⟨gb310, 1, none⟩ = some (.string t300) ∧ w40.cell? ⟨gb310, 2, none⟩ = some (.int .i64 t301) ∧ w40.cell? ⟨gb310, 3, none⟩ = some (.int .i64 t302) ∧ w40.cell? ⟨gb310, 4, none⟩ = some (.int .i64 t303) ∧ w40.cell? ⟨gb310, 5, none⟩ = some (.int .i64 t304) ∧ w40.cell? ⟨gb310, 6, none⟩ = some (.bool t305) ∧ w40.cell? ⟨gb310, 7, none⟩ = some (.int .i64 t306) ∧ w40.cell? ⟨gb310, 8, none⟩ = some (.int .i64 t307) ∧ w40.cell? ⟨gb322, 0, none⟩ = some (.int .i64 t311) ∧ w40.cell? ⟨gb322, 1, none⟩ = some (.string t312) ∧ w40.cell? ⟨gb322, 2, none⟩ = some (.int .i64 t313) ∧ w40.cell? ⟨gb322, 3, none⟩ = some (.int .i64 t314) ∧ w40.cell? ⟨gb322, 4, none⟩ = some (.int .i64 t315) ∧ w40.cell? ⟨gb322, 5, none⟩ = some (.int .i64 t316) ∧ w40.cell? ⟨gb322, 6, none⟩ = some (.bool t317) ∧ w40.cell? ⟨gb322, 7, none⟩ = some (.int .i64 t318) ∧ w40.cell? ⟨gb322, 8, none⟩ = some (.int .i64 t319) := hS_
                          refine norm_ (a' := ?_) ?_ ?_
                          rotate_left
                          · simp only [putAll, Act.put, sa_, sz_, ss_]
                            rfl
                          refine one_ (i := 25) (N := some 66) (b_ 32 469762047) rfl rfl (one_of HT_.out (by kernel_rfl)) (by decide) (fun K hK => ?_)
                          refine goes_ Try.func5 (by kernel_rfl) rfl #[.agg #[.int .i64 t299, .string t300, .int .i64 t301, .int .i64 t302, .int .i64 t303, .int .i64 t304, .bool t305, .int .i64 t306, .int .i64 t307]] (by rfl) rfl rfl (by (try simp only [List.map_toArray, List.map_cons, List.map_nil]); first | done | rfl | (simp only [List.length_drop, List.length_take]; rfl)) ?_
                          with_reducible refine (code_PutSaga.calls t299 t300 t301 t302 t303 t304 t305 t306 t307 t324 _ A34.out).mono ?_
                          rintro e w41 ⟨v325, rfl, ho0, hb⟩
                          refine ⟨_, rfl, ?_⟩
                          have n0_ := ak_ (Kd.R_elder' (by (with_reducible repeat (first | apply Kd.R_alloc | apply Kd.R_drewN | apply Kd.R_drew)); exact HO298.out) (Kd.R_base ho0) hb)
                          have n1_ := ak_ (Kd.R_lower (Kd.R_new' ho0 (Kd.R_lt (by (with_reducible repeat (first | apply Kd.R_alloc | apply Kd.R_drewN | apply Kd.R_drew)); exact HO298.out))) (below_size (by repeat (first | (with_reducible first | exact HB.out | apply pa_ | apply pd_ | apply p1_ | refine zs_ ?_ GE294.out | refine zs_ ?_ GE310.out | refine zs_ ?_ GE322.out) | exact HB.out))))
                          have n2_ := ak_ (blk_below (g := gb294) (o := .cells #[.int .i64 a0_0, .string a0_1, .int .i64 a0_2, .int .i64 a0_3, .int .i64 a0_4, .int .i64 a0_5, .bool a0_6, .int .i64 a0_7, .int .i64 a0_8] 23 (0, 0)) (by (with_reducible repeat (first | apply zn_ | apply zd_ | apply za_)); exact BK294.out) hb)
                          have n3_ := ak_ (blk_below (g := gb310) (o := .cells #[.int .i64 t299, .string t300, .int .i64 t301, .int .i64 t302, .int .i64 t303, .int .i64 t304, .bool t305, .int .i64 t306, .int .i64 t307] 23 (0, 0)) (by (with_reducible repeat (first | apply zn_ | apply zd_ | apply za_)); exact BK310.out) hb)
                          have n4_ := ak_ (blk_below (g := gb322) (o := .cells #[.int .i64 t311, .string t312, .int .i64 t313, .int .i64 t314, .int .i64 t315, .int .i64 t316, .bool t317, .int .i64 t318, .int .i64 t319] 23 (0, 0)) (by (with_reducible repeat (first | apply zn_ | apply zd_ | apply za_)); exact BK322.out) hb)
                          have n5_ := ak_ (ps_ (by repeat (first | (with_reducible first | exact HB.out | apply pa_ | apply pd_ | apply p1_ | refine zs_ ?_ GE294.out | refine zs_ ?_ GE310.out | refine zs_ ?_ GE322.out) | exact HB.out)) hb)
                          clear HO298
                          clear BK294
                          clear BK310
                          clear BK322
                          clear HB
                          have HO298 := n0_
                          have HO326 := n1_
                          have BK294 := n2_
                          have BK310 := n3_
                          have BK322 := n4_
                          have HB := n5_
                          clear n0_ n1_ n2_ n3_ n4_ n5_
                          (try clear hb hk hi); (try clear ho0)
                          refine hK.out _ _ ⟨(zc_ BK294.out 0).trans rfl, (zc_ BK294.out 1).trans rfl, (zc_ BK294.out 2).trans rfl, (zc_ BK294.out 3).trans rfl, (zc_ BK294.out 4).trans rfl, (zc_ BK294.out 5).trans rfl, (zc_ BK294.out 6).trans rfl, (zc_ BK294.out 7).trans rfl, (zc_ BK294.out 8).trans rfl, (zc_ BK310.out 0).trans rfl, (zc_ BK310.out 1).trans rfl, (zc_ BK310.out 2).trans rfl, (zc_ BK310.out 3).trans rfl, (zc_ BK310.out 4).trans rfl, (zc_ BK310.out 5).trans rfl, (zc_ BK310.out 6).trans rfl, (zc_ BK310.out 7).trans rfl, (zc_ BK310.out 8).trans rfl, (zc_ BK322.out 0).trans rfl, (zc_ BK322.out 1).trans rfl, (zc_ BK322.out 2).trans rfl, (zc_ BK322.out 3).trans rfl, (zc_ BK322.out 4).trans rfl, (zc_ BK322.out 5).trans rfl, (zc_ BK322.out 6).trans rfl, (zc_ BK322.out 7).trans rfl, (zc_ BK322.out 8).trans rfl⟩ (fun hHeld => ?_)
                          clear hK K
                          refine norm_ (a' := ?_) ?_ ?_
                          rotate_left
                          · show Act.put _ (some 66) _ = _
                            simp only [Act.put, sa_, sz_, ss_, i64_w, i32_w]
                            rfl
                          exact norm_ (by simp only [putAll, Act.put, sa_, sz_, ss_] <;> rfl) (hJ1_3_25_28 (v325) _ ⟨hHeld, (by (with_reducible repeat (first | apply Kd.R_alloc | apply Kd.R_drewN | apply Kd.R_drew)); exact Kd.R_mono HO298.out (fun _ hk => hk.2)), (by (with_reducible repeat (first | apply Kd.R_alloc | apply Kd.R_drewN | apply Kd.R_drew)); exact Kd.R_mono HO326.out (fun _ hk => hk.2)), (by (with_reducible repeat (first | apply zn_ | apply zd_ | apply za_)); exact BK294.out), (by (with_reducible repeat (first | apply zn_ | apply zd_ | apply za_)); exact BK310.out), (by (with_reducible repeat (first | apply zn_ | apply zd_ | apply za_)); exact BK322.out), (by repeat (first | (with_reducible first | exact HB.out | apply pa_ | apply pd_ | apply p1_ | refine zs_ ?_ GE294.out | refine zs_ ?_ GE310.out | refine zs_ ?_ GE322.out) | exact HB.out))⟩)
                        skip
                        rintro v325 w40 ⟨hS_, h0_, h1_, h2_, h3_, h4_, h5_⟩
                        have n0_ : Aside0 (Kd.R (Kd.int .u8) 5 w40 w.heap.size (fun k_ => some k_ ≠ (v325 : Value).ownBlock) v297 t296) := ⟨h0_⟩
                        have n1_ : Aside0 (Kd.R (Kd.int .u8) 5 w40 w.heap.size (fun k_ => some k_ ≠ (v297 : Value).ownBlock) v325 t324) := ⟨h1_⟩
                        have n2_ : Aside0 (w40.heap[gb294]? = some (.cells #[.int .i64 a0_0, .string a0_1, .int .i64 a0_2, .int .i64 a0_3, .int .i64 a0_4, .int .i64 a0_5, .bool a0_6, .int .i64 a0_7, .int .i64 a0_8] 23 (0, 0))) := ⟨h2_⟩
                        have n3_ : Aside0 (w40.heap[gb310]? = some (.cells #[.int .i64 t299, .string t300, .int .i64 t301, .int .i64 t302, .int .i64 t303, .int .i64 t304, .bool t305, .int .i64 t306, .int .i64 t307] 23 (0, 0))) := ⟨h3_⟩
                        have n4_ : Aside0 (w40.heap[gb322]? = some (.cells #[.int .i64 t311, .string t312, .int .i64 t313, .int .i64 t314, .int .i64 t315, .int .i64 t316, .bool t317, .int .i64 t318, .int .i64 t319] 23 (0, 0))) := ⟨h4_⟩
                        have n5_ : Aside0 (Below w.heap.size w w40) := ⟨h5_⟩
                        clear HO298
                        clear BK294
                        clear BK310
                        clear BK322
                        clear HB
                        clear h0_ h1_ h2_ h3_ h4_ h5_
                        have HO298 := n0_
                        have HO326 := n1_
                        have BK294 := n2_
                        have BK310 := n3_
                        have BK322 := n4_
                        have HB := n5_
                        clear n0_ n1_ n2_ n3_ n4_ n5_
                        have hHeld : w40.cell? ⟨gb294, 0, none⟩ = some (.int .i64 a0_0) ∧ w40.cell? ⟨gb294, 1, none⟩ = some (.string a0_1) ∧ w40.cell? ⟨gb294, 2, none⟩ = some (.int .i64 a0_2) ∧ w40.cell? ⟨gb294, 3, none⟩ = some (.int .i64 a0_3) ∧ w40.cell? ⟨gb294, 4, none⟩ = some (.int .i64 a0_4) ∧ w40.cell? ⟨gb294, 5, none⟩ = some (.int .i64 a0_5) ∧ w40.cell? ⟨gb294, 6, none⟩ = some (.bool a0_6) ∧ w40.cell? ⟨gb294, 7, none⟩ = some (.int .i64 a0_7) ∧ w40.cell? ⟨gb294, 8, none⟩ = some (.int .i64 a0_8) ∧ w40.cell? ⟨gb310, 0, none⟩ = some (.int .i64 t299) ∧ w40.cell? ⟨gb310, 1, none⟩ = some (.string t300) ∧ w40.cell? ⟨gb310, 2, none⟩ = some (.int .i64 t301) ∧ w40.cell? ⟨gb310, 3, none⟩ = some (.int .i64 t302) ∧ w40.cell? ⟨gb310, 4, none⟩ = some (.int .i64 t303) ∧ w40.cell? ⟨gb310, 5, none⟩ = some (.int .i64 t304) ∧ w40.cell? ⟨gb310, 6, none⟩ = some (.bool t305) ∧ w40.cell? ⟨gb310, 7, none⟩ = some (.int .i64 t306) ∧ w40.cell? ⟨gb310, 8, none⟩ = some (.int .i64 t307) ∧ w40.cell? ⟨gb322, 0, none⟩ = some (.int .i64 t311) ∧ w40.cell? ⟨gb322, 1, none⟩ = some (.string t312) ∧ w40.cell? ⟨gb322, 2, none⟩ = some (.int .i64 t313) ∧ w40.cell? ⟨gb322, 3, none⟩ = some (.int .i64 t314) ∧ w40.cell? ⟨gb322, 4, none⟩ = some (.int .i64 t315) ∧ w40.cell? ⟨gb322, 5, none⟩ = some (.int .i64 t316) ∧ w40.cell? ⟨gb322, 6, none⟩ = some (.bool t317) ∧ w40.cell? ⟨gb322, 7, none⟩ = some (.int .i64 t318) ∧ w40.cell? ⟨gb322, 8, none⟩ = some (.int .i64 t319) := hS_
                        refine norm_ (a' := ?_) ?_ ?_
                        rotate_left
                        · simp only [putAll, Act.put, sa_, sz_, ss_]
                          rfl
                        refine two_ (i := 26) (j := 28) (Ni := some 67) (Nj := some 69) (b_ 32 268435455) (b_ 32 469762047) rfl rfl rfl rfl (two_of HT_.out (by kernel_rfl)) (by decide) (by decide) (fun K hK => ?_) (fun K hK => ?_)
                        · skip
                          have hcv41 := own_string (P := Try.prog) Try.underlying24 Try.underlying5 Try.underlying9 (Kd.own_of_R HO326.out)
                          refine value_ (w1 := ?_) (v := ?_) (by rfl) rfl ?_ ?_
                          rotate_left 2
                          · go_simp
                            constructor
                            · rfl
                            rfl
                          clear hcv41
                          refine hK.out _ _ ⟨(zc_ BK294.out 0).trans rfl, (zc_ BK294.out 1).trans rfl, (zc_ BK294.out 2).trans rfl, (zc_ BK294.out 3).trans rfl, (zc_ BK294.out 4).trans rfl, (zc_ BK294.out 5).trans rfl, (zc_ BK294.out 6).trans rfl, (zc_ BK294.out 7).trans rfl, (zc_ BK294.out 8).trans rfl, (zc_ BK310.out 0).trans rfl, (zc_ BK310.out 1).trans rfl, (zc_ BK310.out 2).trans rfl, (zc_ BK310.out 3).trans rfl, (zc_ BK310.out 4).trans rfl, (zc_ BK310.out 5).trans rfl, (zc_ BK310.out 6).trans rfl, (zc_ BK310.out 7).trans rfl, (zc_ BK310.out 8).trans rfl, (zc_ BK322.out 0).trans rfl, (zc_ BK322.out 1).trans rfl, (zc_ BK322.out 2).trans rfl, (zc_ BK322.out 3).trans rfl, (zc_ BK322.out 4).trans rfl, (zc_ BK322.out 5).trans rfl, (zc_ BK322.out 6).trans rfl, (zc_ BK322.out 7).trans rfl, (zc_ BK322.out 8).trans rfl⟩ (fun hHeld => ?_)
                          clear hK K
                          refine norm_ (a' := ?_) ?_ ?_
                          rotate_left
                          · show Act.put _ (some 67) _ = _
                            simp only [Act.put, sa_, sz_, ss_, i64_w, i32_w]
                            rfl
                          exact norm_ (by simp only [putAll, Act.put, sa_, sz_, ss_] <;> rfl) (hJ1_3_25_26 (v325) _ ⟨hHeld, (by (with_reducible repeat (first | apply Kd.R_alloc | apply Kd.R_drewN | apply Kd.R_drew)); exact HO298.out), (by (with_reducible repeat (first | apply Kd.R_alloc | apply Kd.R_drewN | apply Kd.R_drew)); exact HO326.out), (by (with_reducible repeat (first | apply zn_ | apply zd_ | apply za_)); exact BK294.out), (by (with_reducible repeat (first | apply zn_ | apply zd_ | apply za_)); exact BK310.out), (by (with_reducible repeat (first | apply zn_ | apply zd_ | apply za_)); exact BK322.out), (by repeat (first | (with_reducible first | exact HB.out | apply pa_ | apply pd_ | apply p1_ | refine zs_ ?_ GE294.out | refine zs_ ?_ GE310.out | refine zs_ ?_ GE322.out) | exact HB.out))⟩)
                        skip
                        have hcv41 := Kd.C_string (P := Try.prog) (A := A1) (c := c1) Try.underlying24 Try.underlying5 Try.underlying9 (Kd.C_below HR1.out HB.out)
                        refine value_ (w1 := ?_) (v := ?_) (by rfl) rfl ?_ ?_
                        rotate_left 2
                        · go_simp
                          constructor
                          · rfl
                          rfl
                        clear hcv41
                        refine hK.out _ _ ⟨(zc_ BK294.out 0).trans rfl, (zc_ BK294.out 1).trans rfl, (zc_ BK294.out 2).trans rfl, (zc_ BK294.out 3).trans rfl, (zc_ BK294.out 4).trans rfl, (zc_ BK294.out 5).trans rfl, (zc_ BK294.out 6).trans rfl, (zc_ BK294.out 7).trans rfl, (zc_ BK294.out 8).trans rfl, (zc_ BK310.out 0).trans rfl, (zc_ BK310.out 1).trans rfl, (zc_ BK310.out 2).trans rfl, (zc_ BK310.out 3).trans rfl, (zc_ BK310.out 4).trans rfl, (zc_ BK310.out 5).trans rfl, (zc_ BK310.out 6).trans rfl, (zc_ BK310.out 7).trans rfl, (zc_ BK310.out 8).trans rfl, (zc_ BK322.out 0).trans rfl, (zc_ BK322.out 1).trans rfl, (zc_ BK322.out 2).trans rfl, (zc_ BK322.out 3).trans rfl, (zc_ BK322.out 4).trans rfl, (zc_ BK322.out 5).trans rfl, (zc_ BK322.out 6).trans rfl, (zc_ BK322.out 7).trans rfl, (zc_ BK322.out 8).trans rfl⟩ (fun hHeld => ?_)
                        clear hK K
                        refine norm_ (a' := ?_) ?_ ?_
                        rotate_left
                        · show Act.put _ (some 69) _ = _
                          simp only [Act.put, sa_, sz_, ss_, i64_w, i32_w]
                          rfl
                        exact norm_ (by simp only [putAll, Act.put, sa_, sz_, ss_] <;> rfl) (hJ1_3_25_28 (v325) _ ⟨hHeld, (by (with_reducible repeat (first | apply Kd.R_alloc | apply Kd.R_drewN | apply Kd.R_drew)); exact HO298.out), (by (with_reducible repeat (first | apply Kd.R_alloc | apply Kd.R_drewN | apply Kd.R_drew)); exact HO326.out), (by (with_reducible repeat (first | apply zn_ | apply zd_ | apply za_)); exact BK294.out), (by (with_reducible repeat (first | apply zn_ | apply zd_ | apply za_)); exact BK310.out), (by (with_reducible repeat (first | apply zn_ | apply zd_ | apply za_)); exact BK322.out), (by repeat (first | (with_reducible first | exact HB.out | apply pa_ | apply pd_ | apply p1_ | refine zs_ ?_ GE294.out | refine zs_ ?_ GE310.out | refine zs_ ?_ GE322.out) | exact HB.out))⟩)
                      skip
                      rintro v325 w41 ⟨hS_, h0_, h1_, h2_, h3_, h4_, h5_⟩
                      have n0_ : Aside0 (Kd.R (Kd.int .u8) 5 w41 w.heap.size (fun k_ => some k_ ≠ (v325 : Value).ownBlock) v297 t296) := ⟨h0_⟩
                      have n1_ : Aside0 (Kd.R (Kd.int .u8) 5 w41 w.heap.size (fun k_ => some k_ ≠ (v297 : Value).ownBlock) v325 t324) := ⟨h1_⟩
                      have n2_ : Aside0 (w41.heap[gb294]? = some (.cells #[.int .i64 a0_0, .string a0_1, .int .i64 a0_2, .int .i64 a0_3, .int .i64 a0_4, .int .i64 a0_5, .bool a0_6, .int .i64 a0_7, .int .i64 a0_8] 23 (0, 0))) := ⟨h2_⟩
                      have n3_ : Aside0 (w41.heap[gb310]? = some (.cells #[.int .i64 t299, .string t300, .int .i64 t301, .int .i64 t302, .int .i64 t303, .int .i64 t304, .bool t305, .int .i64 t306, .int .i64 t307] 23 (0, 0))) := ⟨h3_⟩
                      have n4_ : Aside0 (w41.heap[gb322]? = some (.cells #[.int .i64 t311, .string t312, .int .i64 t313, .int .i64 t314, .int .i64 t315, .int .i64 t316, .bool t317, .int .i64 t318, .int .i64 t319] 23 (0, 0))) := ⟨h4_⟩
                      have n5_ : Aside0 (Below w.heap.size w w41) := ⟨h5_⟩
                      clear HO298
                      clear BK294
                      clear BK310
                      clear BK322
                      clear HB
                      clear h0_ h1_ h2_ h3_ h4_ h5_
                      have HO298 := n0_
                      have HO326 := n1_
                      have BK294 := n2_
                      have BK310 := n3_
                      have BK322 := n4_
                      have HB := n5_
                      clear n0_ n1_ n2_ n3_ n4_ n5_
                      have hHeld : w41.cell? ⟨gb294, 0, none⟩ = some (.int .i64 a0_0) ∧ w41.cell? ⟨gb294, 1, none⟩ = some (.string a0_1) ∧ w41.cell? ⟨gb294, 2, none⟩ = some (.int .i64 a0_2) ∧ w41.cell? ⟨gb294, 3, none⟩ = some (.int .i64 a0_3) ∧ w41.cell? ⟨gb294, 4, none⟩ = some (.int .i64 a0_4) ∧ w41.cell? ⟨gb294, 5, none⟩ = some (.int .i64 a0_5) ∧ w41.cell? ⟨gb294, 6, none⟩ = some (.bool a0_6) ∧ w41.cell? ⟨gb294, 7, none⟩ = some (.int .i64 a0_7) ∧ w41.cell? ⟨gb294, 8, none⟩ = some (.int .i64 a0_8) ∧ w41.cell? ⟨gb310, 0, none⟩ = some (.int .i64 t299) ∧ w41.cell? ⟨gb310, 1, none⟩ = some (.string t300) ∧ w41.cell? ⟨gb310, 2, none⟩ = some (.int .i64 t301) ∧ w41.cell? ⟨gb310, 3, none⟩ = some (.int .i64 t302) ∧ w41.cell? ⟨gb310, 4, none⟩ = some (.int .i64 t303) ∧ w41.cell? ⟨gb310, 5, none⟩ = some (.int .i64 t304) ∧ w41.cell? ⟨gb310, 6, none⟩ = some (.bool t305) ∧ w41.cell? ⟨gb310, 7, none⟩ = some (.int .i64 t306) ∧ w41.cell? ⟨gb310, 8, none⟩ = some (.int .i64 t307) ∧ w41.cell? ⟨gb322, 0, none⟩ = some (.int .i64 t311) ∧ w41.cell? ⟨gb322, 1, none⟩ = some (.string t312) ∧ w41.cell? ⟨gb322, 2, none⟩ = some (.int .i64 t313) ∧ w41.cell? ⟨gb322, 3, none⟩ = some (.int .i64 t314) ∧ w41.cell? ⟨gb322, 4, none⟩ = some (.int .i64 t315) ∧ w41.cell? ⟨gb322, 5, none⟩ = some (.int .i64 t316) ∧ w41.cell? ⟨gb322, 6, none⟩ = some (.bool t317) ∧ w41.cell? ⟨gb322, 7, none⟩ = some (.int .i64 t318) ∧ w41.cell? ⟨gb322, 8, none⟩ = some (.int .i64 t319) := hS_
                      refine norm_ (a' := ?_) ?_ ?_
                      rotate_left
                      · simp only [putAll, Act.put, sa_, sz_, ss_]
                        rfl
                      refine one_ (i := 26) (N := some 67) (b_ 32 536870911) rfl rfl (one_of HT_.out (by kernel_rfl)) (by decide) (fun K hK => ?_)
                      have hcv42 := own_string (P := Try.prog) Try.underlying24 Try.underlying5 Try.underlying9 (Kd.own_of_R HO326.out)
                      refine value_ (w1 := ?_) (v := ?_) (by rfl) rfl ?_ ?_
                      rotate_left 2
                      · go_simp
                        constructor
                        · rfl
                        rfl
                      clear hcv42
                      refine hK.out _ _ ⟨(zc_ BK294.out 0).trans rfl, (zc_ BK294.out 1).trans rfl, (zc_ BK294.out 2).trans rfl, (zc_ BK294.out 3).trans rfl, (zc_ BK294.out 4).trans rfl, (zc_ BK294.out 5).trans rfl, (zc_ BK294.out 6).trans rfl, (zc_ BK294.out 7).trans rfl, (zc_ BK294.out 8).trans rfl, (zc_ BK310.out 0).trans rfl, (zc_ BK310.out 1).trans rfl, (zc_ BK310.out 2).trans rfl, (zc_ BK310.out 3).trans rfl, (zc_ BK310.out 4).trans rfl, (zc_ BK310.out 5).trans rfl, (zc_ BK310.out 6).trans rfl, (zc_ BK310.out 7).trans rfl, (zc_ BK310.out 8).trans rfl, (zc_ BK322.out 0).trans rfl, (zc_ BK322.out 1).trans rfl, (zc_ BK322.out 2).trans rfl, (zc_ BK322.out 3).trans rfl, (zc_ BK322.out 4).trans rfl, (zc_ BK322.out 5).trans rfl, (zc_ BK322.out 6).trans rfl, (zc_ BK322.out 7).trans rfl, (zc_ BK322.out 8).trans rfl⟩ (fun hHeld => ?_)
                      clear hK K
                      refine norm_ (a' := ?_) ?_ ?_
                      rotate_left
                      · show Act.put _ (some 67) _ = _
                        simp only [Act.put, sa_, sz_, ss_, i64_w, i32_w]
                        rfl
                      exact norm_ (by simp only [putAll, Act.put, sa_, sz_, ss_] <;> rfl) (hJ1_3_25_26_28 (v325) _ ⟨hHeld, (by (with_reducible repeat (first | apply Kd.R_alloc | apply Kd.R_drewN | apply Kd.R_drew)); exact HO298.out), (by (with_reducible repeat (first | apply Kd.R_alloc | apply Kd.R_drewN | apply Kd.R_drew)); exact HO326.out), (by (with_reducible repeat (first | apply zn_ | apply zd_ | apply za_)); exact BK294.out), (by (with_reducible repeat (first | apply zn_ | apply zd_ | apply za_)); exact BK310.out), (by (with_reducible repeat (first | apply zn_ | apply zd_ | apply za_)); exact BK322.out), (by repeat (first | (with_reducible first | exact HB.out | apply pa_ | apply pd_ | apply p1_ | refine zs_ ?_ GE294.out | refine zs_ ?_ GE310.out | refine zs_ ?_ GE322.out) | exact HB.out))⟩)
                    skip
                    rintro v325 w41 ⟨hS_, h0_, h1_, h2_, h3_, h4_, h5_⟩
                    have n0_ : Aside0 (Kd.R (Kd.int .u8) 5 w41 w.heap.size (fun k_ => some k_ ≠ (v325 : Value).ownBlock) v297 t296) := ⟨h0_⟩
                    have n1_ : Aside0 (Kd.R (Kd.int .u8) 5 w41 w.heap.size (fun k_ => some k_ ≠ (v297 : Value).ownBlock) v325 t324) := ⟨h1_⟩
                    have n2_ : Aside0 (w41.heap[gb294]? = some (.cells #[.int .i64 a0_0, .string a0_1, .int .i64 a0_2, .int .i64 a0_3, .int .i64 a0_4, .int .i64 a0_5, .bool a0_6, .int .i64 a0_7, .int .i64 a0_8] 23 (0, 0))) := ⟨h2_⟩
                    have n3_ : Aside0 (w41.heap[gb310]? = some (.cells #[.int .i64 t299, .string t300, .int .i64 t301, .int .i64 t302, .int .i64 t303, .int .i64 t304, .bool t305, .int .i64 t306, .int .i64 t307] 23 (0, 0))) := ⟨h3_⟩
                    have n4_ : Aside0 (w41.heap[gb322]? = some (.cells #[.int .i64 t311, .string t312, .int .i64 t313, .int .i64 t314, .int .i64 t315, .int .i64 t316, .bool t317, .int .i64 t318, .int .i64 t319] 23 (0, 0))) := ⟨h4_⟩
                    have n5_ : Aside0 (Below w.heap.size w w41) := ⟨h5_⟩
                    clear HO298
                    clear BK294
                    clear BK310
                    clear BK322
                    clear HB
                    clear h0_ h1_ h2_ h3_ h4_ h5_
                    have HO298 := n0_
                    have HO326 := n1_
                    have BK294 := n2_
                    have BK310 := n3_
                    have BK322 := n4_
                    have HB := n5_
                    clear n0_ n1_ n2_ n3_ n4_ n5_
                    have hHeld : w41.cell? ⟨gb294, 0, none⟩ = some (.int .i64 a0_0) ∧ w41.cell? ⟨gb294, 1, none⟩ = some (.string a0_1) ∧ w41.cell? ⟨gb294, 2, none⟩ = some (.int .i64 a0_2) ∧ w41.cell? ⟨gb294, 3, none⟩ = some (.int .i64 a0_3) ∧ w41.cell? ⟨gb294, 4, none⟩ = some (.int .i64 a0_4) ∧ w41.cell? ⟨gb294, 5, none⟩ = some (.int .i64 a0_5) ∧ w41.cell? ⟨gb294, 6, none⟩ = some (.bool a0_6) ∧ w41.cell? ⟨gb294, 7, none⟩ = some (.int .i64 a0_7) ∧ w41.cell? ⟨gb294, 8, none⟩ = some (.int .i64 a0_8) ∧ w41.cell? ⟨gb310, 0, none⟩ = some (.int .i64 t299) ∧ w41.cell? ⟨gb310, 1, none⟩ = some (.string t300) ∧ w41.cell? ⟨gb310, 2, none⟩ = some (.int .i64 t301) ∧ w41.cell? ⟨gb310, 3, none⟩ = some (.int .i64 t302) ∧ w41.cell? ⟨gb310, 4, none⟩ = some (.int .i64 t303) ∧ w41.cell? ⟨gb310, 5, none⟩ = some (.int .i64 t304) ∧ w41.cell? ⟨gb310, 6, none⟩ = some (.bool t305) ∧ w41.cell? ⟨gb310, 7, none⟩ = some (.int .i64 t306) ∧ w41.cell? ⟨gb310, 8, none⟩ = some (.int .i64 t307) ∧ w41.cell? ⟨gb322, 0, none⟩ = some (.int .i64 t311) ∧ w41.cell? ⟨gb322, 1, none⟩ = some (.string t312) ∧ w41.cell? ⟨gb322, 2, none⟩ = some (.int .i64 t313) ∧ w41.cell? ⟨gb322, 3, none⟩ = some (.int .i64 t314) ∧ w41.cell? ⟨gb322, 4, none⟩ = some (.int .i64 t315) ∧ w41.cell? ⟨gb322, 5, none⟩ = some (.int .i64 t316) ∧ w41.cell? ⟨gb322, 6, none⟩ = some (.bool t317) ∧ w41.cell? ⟨gb322, 7, none⟩ = some (.int .i64 t318) ∧ w41.cell? ⟨gb322, 8, none⟩ = some (.int .i64 t319) := hS_
                    refine norm_ (a' := ?_) ?_ ?_
                    rotate_left
                    · simp only [putAll, Act.put, sa_, sz_, ss_]
                      rfl
                    refine one_ (i := 28) (N := some 69) (b_ 32 536870911) rfl rfl (one_of HT_.out (by kernel_rfl)) (by decide) (fun K hK => ?_)
                    have hcv42 := Kd.C_string (P := Try.prog) (A := A1) (c := c1) Try.underlying24 Try.underlying5 Try.underlying9 (Kd.C_below HR1.out HB.out)
                    refine value_ (w1 := ?_) (v := ?_) (by rfl) rfl ?_ ?_
                    rotate_left 2
                    · go_simp
                      constructor
                      · rfl
                      rfl
                    clear hcv42
                    refine hK.out _ _ ⟨(zc_ BK294.out 0).trans rfl, (zc_ BK294.out 1).trans rfl, (zc_ BK294.out 2).trans rfl, (zc_ BK294.out 3).trans rfl, (zc_ BK294.out 4).trans rfl, (zc_ BK294.out 5).trans rfl, (zc_ BK294.out 6).trans rfl, (zc_ BK294.out 7).trans rfl, (zc_ BK294.out 8).trans rfl, (zc_ BK310.out 0).trans rfl, (zc_ BK310.out 1).trans rfl, (zc_ BK310.out 2).trans rfl, (zc_ BK310.out 3).trans rfl, (zc_ BK310.out 4).trans rfl, (zc_ BK310.out 5).trans rfl, (zc_ BK310.out 6).trans rfl, (zc_ BK310.out 7).trans rfl, (zc_ BK310.out 8).trans rfl, (zc_ BK322.out 0).trans rfl, (zc_ BK322.out 1).trans rfl, (zc_ BK322.out 2).trans rfl, (zc_ BK322.out 3).trans rfl, (zc_ BK322.out 4).trans rfl, (zc_ BK322.out 5).trans rfl, (zc_ BK322.out 6).trans rfl, (zc_ BK322.out 7).trans rfl, (zc_ BK322.out 8).trans rfl⟩ (fun hHeld => ?_)
                    clear hK K
                    refine norm_ (a' := ?_) ?_ ?_
                    rotate_left
                    · show Act.put _ (some 69) _ = _
                      simp only [Act.put, sa_, sz_, ss_, i64_w, i32_w]
                      rfl
                    exact norm_ (by simp only [putAll, Act.put, sa_, sz_, ss_] <;> rfl) (hJ1_3_25_26_28 (v325) _ ⟨hHeld, (by (with_reducible repeat (first | apply Kd.R_alloc | apply Kd.R_drewN | apply Kd.R_drew)); exact HO298.out), (by (with_reducible repeat (first | apply Kd.R_alloc | apply Kd.R_drewN | apply Kd.R_drew)); exact HO326.out), (by (with_reducible repeat (first | apply zn_ | apply zd_ | apply za_)); exact BK294.out), (by (with_reducible repeat (first | apply zn_ | apply zd_ | apply za_)); exact BK310.out), (by (with_reducible repeat (first | apply zn_ | apply zd_ | apply za_)); exact BK322.out), (by repeat (first | (with_reducible first | exact HB.out | apply pa_ | apply pd_ | apply p1_ | refine zs_ ?_ GE294.out | refine zs_ ?_ GE310.out | refine zs_ ?_ GE322.out) | exact HB.out))⟩)
                  rintro v325 w42 ⟨hS_, h0_, h1_, h2_, h3_, h4_, h5_⟩
                  have n0_ : Aside0 (Kd.R (Kd.int .u8) 5 w42 w.heap.size (fun k_ => some k_ ≠ (v325 : Value).ownBlock) v297 t296) := ⟨h0_⟩
                  have n1_ : Aside0 (Kd.R (Kd.int .u8) 5 w42 w.heap.size (fun k_ => some k_ ≠ (v297 : Value).ownBlock) v325 t324) := ⟨h1_⟩
                  have n2_ : Aside0 (w42.heap[gb294]? = some (.cells #[.int .i64 a0_0, .string a0_1, .int .i64 a0_2, .int .i64 a0_3, .int .i64 a0_4, .int .i64 a0_5, .bool a0_6, .int .i64 a0_7, .int .i64 a0_8] 23 (0, 0))) := ⟨h2_⟩
                  have n3_ : Aside0 (w42.heap[gb310]? = some (.cells #[.int .i64 t299, .string t300, .int .i64 t301, .int .i64 t302, .int .i64 t303, .int .i64 t304, .bool t305, .int .i64 t306, .int .i64 t307] 23 (0, 0))) := ⟨h3_⟩
                  have n4_ : Aside0 (w42.heap[gb322]? = some (.cells #[.int .i64 t311, .string t312, .int .i64 t313, .int .i64 t314, .int .i64 t315, .int .i64 t316, .bool t317, .int .i64 t318, .int .i64 t319] 23 (0, 0))) := ⟨h4_⟩
                  have n5_ : Aside0 (Below w.heap.size w w42) := ⟨h5_⟩
                  clear HO298
                  clear BK294
                  clear BK310
                  clear BK322
                  clear HB
                  clear h0_ h1_ h2_ h3_ h4_ h5_
                  have HO298 := n0_
                  have HO326 := n1_
                  have BK294 := n2_
                  have BK310 := n3_
                  have BK322 := n4_
                  have HB := n5_
                  clear n0_ n1_ n2_ n3_ n4_ n5_
                  have hHeld : w42.cell? ⟨gb294, 0, none⟩ = some (.int .i64 a0_0) ∧ w42.cell? ⟨gb294, 1, none⟩ = some (.string a0_1) ∧ w42.cell? ⟨gb294, 2, none⟩ = some (.int .i64 a0_2) ∧ w42.cell? ⟨gb294, 3, none⟩ = some (.int .i64 a0_3) ∧ w42.cell? ⟨gb294, 4, none⟩ = some (.int .i64 a0_4) ∧ w42.cell? ⟨gb294, 5, none⟩ = some (.int .i64 a0_5) ∧ w42.cell? ⟨gb294, 6, none⟩ = some (.bool a0_6) ∧ w42.cell? ⟨gb294, 7, none⟩ = some (.int .i64 a0_7) ∧ w42.cell? ⟨gb294, 8, none⟩ = some (.int .i64 a0_8) ∧ w42.cell? ⟨gb310, 0, none⟩ = some (.int .i64 t299) ∧ w42.cell? ⟨gb310, 1, none⟩ = some (.string t300) ∧ w42.cell? ⟨gb310, 2, none⟩ = some (.int .i64 t301) ∧ w42.cell? ⟨gb310, 3, none⟩ = some (.int .i64 t302) ∧ w42.cell? ⟨gb310, 4, none⟩ = some (.int .i64 t303) ∧ w42.cell? ⟨gb310, 5, none⟩ = some (.int .i64 t304) ∧ w42.cell? ⟨gb310, 6, none⟩ = some (.bool t305) ∧ w42.cell? ⟨gb310, 7, none⟩ = some (.int .i64 t306) ∧ w42.cell? ⟨gb310, 8, none⟩ = some (.int .i64 t307) ∧ w42.cell? ⟨gb322, 0, none⟩ = some (.int .i64 t311) ∧ w42.cell? ⟨gb322, 1, none⟩ = some (.string t312) ∧ w42.cell? ⟨gb322, 2, none⟩ = some (.int .i64 t313) ∧ w42.cell? ⟨gb322, 3, none⟩ = some (.int .i64 t314) ∧ w42.cell? ⟨gb322, 4, none⟩ = some (.int .i64 t315) ∧ w42.cell? ⟨gb322, 5, none⟩ = some (.int .i64 t316) ∧ w42.cell? ⟨gb322, 6, none⟩ = some (.bool t317) ∧ w42.cell? ⟨gb322, 7, none⟩ = some (.int .i64 t318) ∧ w42.cell? ⟨gb322, 8, none⟩ = some (.int .i64 t319) := hS_
                  refine norm_ (a' := ?_) ?_ ?_
                  rotate_left
                  · simp only [putAll, Act.put, sa_, sz_, ss_]
                    rfl
                  refine pure_ (i := 29) (N := some 70) (v := ?_) (a' := ?_) (b_ 32 1073741823) rfl rfl (any_of HT_.out (by kernel_rfl)) (fun _ _ _ h => h) (Or.inl ⟨by rfl, ?_⟩) ?_ ?_; rotate_left; (· intro w'; go_simp; with_reducible rfl); rotate_left; (· simp only [Act.put, sa_, sz_, ss_, i64_w, i32_w]; rfl)
                  refine pure_ (i := 30) (N := some 71) (v := ?_) (a' := ?_) (b_ 32 2147483647) rfl rfl (any_of HT_.out (by kernel_rfl)) (fun _ _ _ h => h) (Or.inl ⟨by rfl, ?_⟩) ?_ ?_; rotate_left; (· intro w'; go_simp; with_reducible rfl); rotate_left; (· simp only [Act.put, sa_, sz_, ss_, i64_w, i32_w]; rfl)
                  refine pure_ (i := 31) (N := some 72) (v := ?_) (a' := ?_) (b_ 32 4294967295) rfl rfl (any_of HT_.out (by kernel_rfl)) (fun _ _ _ h => h) (Or.inl ⟨by rfl, ?_⟩) ?_ ?_; rotate_left; (· intro w'; go_simp; with_reducible rfl); rotate_left; (· simp only [Act.put, sa_, sz_, ss_, i64_w, i32_w]; rfl)
                  refine done_ (done_of HT_.out (by kernel_rfl)) ?_
                  try go_wp2
                  go_meet
                  case rel => exact ⟨_, (((strOfNums t324).toList != (strOfNums l1).toList)), (by first | rfl | (simp; done) | (simp [*]; done)), H', ⟨by have := HJ4.out; first | omega | exact Nat.le_refl _⟩, ⟨by (with_reducible repeat (first | apply Kd.R_alloc | apply Kd.R_drewN | apply Kd.R_drew)); exact Kd.R_mono HO298.out (fun _ hk => trivial)⟩, ⟨by (with_reducible repeat (first | apply zn_ | apply zd_ | apply za_)); exact BK294.out⟩, ⟨by (with_reducible repeat (first | apply zn_ | apply zd_ | apply za_)); exact BK310.out⟩, ⟨by (with_reducible repeat (first | apply zn_ | apply zd_ | apply za_)); exact BK322.out⟩, ⟨by repeat (first | (with_reducible first | exact HB.out | apply pa_ | apply pd_ | apply p1_ | refine zs_ ?_ GE294.out | refine zs_ ?_ GE310.out | refine zs_ ?_ GE322.out) | exact HB.out)⟩⟩
                rw [if_neg c33] at H
                have c33b0 : (t309 == 0) = false := beq_eq_false_iff_ne.mpr c33
                have c33b1 : (t309 != 0) = true := bne_iff_ne.mpr c33
                have H' := ak_ H
                clear H
                try go_wp2
                have n0_ : Aside0 (Kd.R (Kd.int .u8) 5 (((((((((w24.setCell ⟨gb322, 0, none⟩ (.int .i64 t311)).setCell ⟨gb322, 1, none⟩ (.string t312)).setCell ⟨gb322, 2, none⟩ (.int .i64 t313)).setCell ⟨gb322, 3, none⟩ (.int .i64 t314)).setCell ⟨gb322, 4, none⟩ (.int .i64 t315)).setCell ⟨gb322, 5, none⟩ (.int .i64 t316)).setCell ⟨gb322, 6, none⟩ (.bool t317)).setCell ⟨gb322, 7, none⟩ (.int .i64 t318)).setCell ⟨gb322, 8, none⟩ (.int .i64 t319)) w.heap.size (fun _ => True) v297 t296) := ⟨by (with_reducible repeat (first | apply Kd.R_alloc | apply Kd.R_drewN | apply Kd.R_drew)); exact Kd.R_mono (Kd.R_far (p := ⟨gb322, 8, none⟩) (Kd.R_far (p := ⟨gb322, 7, none⟩) (Kd.R_far (p := ⟨gb322, 6, none⟩) (Kd.R_far (p := ⟨gb322, 5, none⟩) (Kd.R_far (p := ⟨gb322, 4, none⟩) (Kd.R_far (p := ⟨gb322, 3, none⟩) (Kd.R_far (p := ⟨gb322, 2, none⟩) (Kd.R_far (p := ⟨gb322, 1, none⟩) (Kd.R_far (p := ⟨gb322, 0, none⟩) (Kd.R_types HO298.out BK322.out (by decide)) (fun _ hk => hk.2) (.int .i64 t311)) (fun _ hk => hk.2) (.string t312)) (fun _ hk => hk.2) (.int .i64 t313)) (fun _ hk => hk.2) (.int .i64 t314)) (fun _ hk => hk.2) (.int .i64 t315)) (fun _ hk => hk.2) (.int .i64 t316)) (fun _ hk => hk.2) (.bool t317)) (fun _ hk => hk.2) (.int .i64 t318)) (fun _ hk => hk.2) (.int .i64 t319)) (fun _ hk => trivial)⟩
                have n1_ : Aside0 ((((((((((w24.setCell ⟨gb322, 0, none⟩ (.int .i64 t311)).setCell ⟨gb322, 1, none⟩ (.string t312)).setCell ⟨gb322, 2, none⟩ (.int .i64 t313)).setCell ⟨gb322, 3, none⟩ (.int .i64 t314)).setCell ⟨gb322, 4, none⟩ (.int .i64 t315)).setCell ⟨gb322, 5, none⟩ (.int .i64 t316)).setCell ⟨gb322, 6, none⟩ (.bool t317)).setCell ⟨gb322, 7, none⟩ (.int .i64 t318)).setCell ⟨gb322, 8, none⟩ (.int .i64 t319)).heap[gb294]? = some (.cells #[.int .i64 a0_0, .string a0_1, .int .i64 a0_2, .int .i64 a0_3, .int .i64 a0_4, .int .i64 a0_5, .bool a0_6, .int .i64 a0_7, .int .i64 a0_8] 23 (0, 0))) := ⟨by (repeat (first | (with_reducible first | apply zn_ | apply zd_ | apply za_) | refine zr_ ?_ NB294_322.out _)); (with_reducible repeat (first | apply zn_ | apply zd_ | apply za_)); exact BK294.out⟩
                have n2_ : Aside0 ((((((((((w24.setCell ⟨gb322, 0, none⟩ (.int .i64 t311)).setCell ⟨gb322, 1, none⟩ (.string t312)).setCell ⟨gb322, 2, none⟩ (.int .i64 t313)).setCell ⟨gb322, 3, none⟩ (.int .i64 t314)).setCell ⟨gb322, 4, none⟩ (.int .i64 t315)).setCell ⟨gb322, 5, none⟩ (.int .i64 t316)).setCell ⟨gb322, 6, none⟩ (.bool t317)).setCell ⟨gb322, 7, none⟩ (.int .i64 t318)).setCell ⟨gb322, 8, none⟩ (.int .i64 t319)).heap[gb310]? = some (.cells #[.int .i64 t299, .string t300, .int .i64 t301, .int .i64 t302, .int .i64 t303, .int .i64 t304, .bool t305, .int .i64 t306, .int .i64 t307] 23 (0, 0))) := ⟨by (repeat (first | (with_reducible first | apply zn_ | apply zd_ | apply za_) | refine zr_ ?_ NB310_322.out _)); (with_reducible repeat (first | apply zn_ | apply zd_ | apply za_)); exact BK310.out⟩
                have n3_ : Aside0 ((((((((((w24.setCell ⟨gb322, 0, none⟩ (.int .i64 t311)).setCell ⟨gb322, 1, none⟩ (.string t312)).setCell ⟨gb322, 2, none⟩ (.int .i64 t313)).setCell ⟨gb322, 3, none⟩ (.int .i64 t314)).setCell ⟨gb322, 4, none⟩ (.int .i64 t315)).setCell ⟨gb322, 5, none⟩ (.int .i64 t316)).setCell ⟨gb322, 6, none⟩ (.bool t317)).setCell ⟨gb322, 7, none⟩ (.int .i64 t318)).setCell ⟨gb322, 8, none⟩ (.int .i64 t319)).heap[gb322]? = some (.cells #[.int .i64 t311, .string t312, .int .i64 t313, .int .i64 t314, .int .i64 t315, .int .i64 t316, .bool t317, .int .i64 t318, .int .i64 t319] 23 (0, 0))) := ⟨by (with_reducible repeat (first | apply zn_ | apply zd_ | apply za_)); refine zp_ (cs := #[.int .i64 t311, .string t312, .int .i64 t313, .int .i64 t314, .int .i64 t315, .int .i64 t316, .bool t317, .int .i64 t318, .int .i64 0]) ?_ 8 _ rfl; (with_reducible repeat (first | apply zn_ | apply zd_ | apply za_)); refine zp_ (cs := #[.int .i64 t311, .string t312, .int .i64 t313, .int .i64 t314, .int .i64 t315, .int .i64 t316, .bool t317, .int .i64 0, .int .i64 0]) ?_ 7 _ rfl; (with_reducible repeat (first | apply zn_ | apply zd_ | apply za_)); refine zp_ (cs := #[.int .i64 t311, .string t312, .int .i64 t313, .int .i64 t314, .int .i64 t315, .int .i64 t316, .bool false, .int .i64 0, .int .i64 0]) ?_ 6 _ rfl; (with_reducible repeat (first | apply zn_ | apply zd_ | apply za_)); refine zp_ (cs := #[.int .i64 t311, .string t312, .int .i64 t313, .int .i64 t314, .int .i64 t315, .int .i64 0, .bool false, .int .i64 0, .int .i64 0]) ?_ 5 _ rfl; (with_reducible repeat (first | apply zn_ | apply zd_ | apply za_)); refine zp_ (cs := #[.int .i64 t311, .string t312, .int .i64 t313, .int .i64 t314, .int .i64 0, .int .i64 0, .bool false, .int .i64 0, .int .i64 0]) ?_ 4 _ rfl; (with_reducible repeat (first | apply zn_ | apply zd_ | apply za_)); refine zp_ (cs := #[.int .i64 t311, .string t312, .int .i64 t313, .int .i64 0, .int .i64 0, .int .i64 0, .bool false, .int .i64 0, .int .i64 0]) ?_ 3 _ rfl; (with_reducible repeat (first | apply zn_ | apply zd_ | apply za_)); refine zp_ (cs := #[.int .i64 t311, .string t312, .int .i64 0, .int .i64 0, .int .i64 0, .int .i64 0, .bool false, .int .i64 0, .int .i64 0]) ?_ 2 _ rfl; (with_reducible repeat (first | apply zn_ | apply zd_ | apply za_)); refine zp_ (cs := #[.int .i64 t311, .string ⟨#[]⟩, .int .i64 0, .int .i64 0, .int .i64 0, .int .i64 0, .bool false, .int .i64 0, .int .i64 0]) ?_ 1 _ rfl; (with_reducible repeat (first | apply zn_ | apply zd_ | apply za_)); refine zp_ (cs := #[.int .i64 0, .string ⟨#[]⟩, .int .i64 0, .int .i64 0, .int .i64 0, .int .i64 0, .bool false, .int .i64 0, .int .i64 0]) ?_ 0 _ rfl; (with_reducible repeat (first | apply zn_ | apply zd_ | apply za_)); exact BK322.out⟩
                have n4_ : Aside0 (Below w.heap.size w (((((((((w24.setCell ⟨gb322, 0, none⟩ (.int .i64 t311)).setCell ⟨gb322, 1, none⟩ (.string t312)).setCell ⟨gb322, 2, none⟩ (.int .i64 t313)).setCell ⟨gb322, 3, none⟩ (.int .i64 t314)).setCell ⟨gb322, 4, none⟩ (.int .i64 t315)).setCell ⟨gb322, 5, none⟩ (.int .i64 t316)).setCell ⟨gb322, 6, none⟩ (.bool t317)).setCell ⟨gb322, 7, none⟩ (.int .i64 t318)).setCell ⟨gb322, 8, none⟩ (.int .i64 t319))) := ⟨by repeat (first | (with_reducible first | exact HB.out | apply pa_ | apply pd_ | apply p1_ | refine zs_ ?_ GE294.out | refine zs_ ?_ GE310.out | refine zs_ ?_ GE322.out) | exact HB.out)⟩
                (try clear HO298); (try clear BK294); (try clear BK310); (try clear BK322); (try clear HB)
                generalize (((((((((w24.setCell ⟨gb322, 0, none⟩ (.int .i64 t311)).setCell ⟨gb322, 1, none⟩ (.string t312)).setCell ⟨gb322, 2, none⟩ (.int .i64 t313)).setCell ⟨gb322, 3, none⟩ (.int .i64 t314)).setCell ⟨gb322, 4, none⟩ (.int .i64 t315)).setCell ⟨gb322, 5, none⟩ (.int .i64 t316)).setCell ⟨gb322, 6, none⟩ (.bool t317)).setCell ⟨gb322, 7, none⟩ (.int .i64 t318)).setCell ⟨gb322, 8, none⟩ (.int .i64 t319)) = w43 at n0_ n1_ n2_ n3_ n4_ ⊢
                have HO298 := n0_
                have BK294 := n1_
                have BK310 := n2_
                have BK322 := n3_
                have HB := n4_
                clear n0_ n1_ n2_ n3_ n4_
                have n0_ := ak_ (Kd.R_drew HO298.out)
                have n1_ := ak_ (zd_ BK294.out)
                have n2_ := ak_ (zd_ BK310.out)
                have n3_ := ak_ (zd_ BK322.out)
                have n4_ := ak_ (p1_ HB.out)
                clear HO298
                clear BK294
                clear BK310
                clear BK322
                clear HB
                have HO298 := n0_
                have BK294 := n1_
                have BK310 := n2_
                have BK322 := n3_
                have HB := n4_
                clear n0_ n1_ n2_ n3_ n4_
                refine start_ (n := 32) (S := fun w' => w'.cell? ⟨gb294, 0, none⟩ = some (.int .i64 a0_0) ∧ w'.cell? ⟨gb294, 1, none⟩ = some (.string a0_1) ∧ w'.cell? ⟨gb294, 2, none⟩ = some (.int .i64 a0_2) ∧ w'.cell? ⟨gb294, 3, none⟩ = some (.int .i64 a0_3) ∧ w'.cell? ⟨gb294, 4, none⟩ = some (.int .i64 a0_4) ∧ w'.cell? ⟨gb294, 5, none⟩ = some (.int .i64 a0_5) ∧ w'.cell? ⟨gb294, 6, none⟩ = some (.bool a0_6) ∧ w'.cell? ⟨gb294, 7, none⟩ = some (.int .i64 a0_7) ∧ w'.cell? ⟨gb294, 8, none⟩ = some (.int .i64 a0_8) ∧ w'.cell? ⟨gb310, 0, none⟩ = some (.int .i64 t299) ∧ w'.cell? ⟨gb310, 1, none⟩ = some (.string t300) ∧ w'.cell? ⟨gb310, 2, none⟩ = some (.int .i64 t301) ∧ w'.cell? ⟨gb310, 3, none⟩ = some (.int .i64 t302) ∧ w'.cell? ⟨gb310, 4, none⟩ = some (.int .i64 t303) ∧ w'.cell? ⟨gb310, 5, none⟩ = some (.int .i64 t304) ∧ w'.cell? ⟨gb310, 6, none⟩ = some (.bool t305) ∧ w'.cell? ⟨gb310, 7, none⟩ = some (.int .i64 t306) ∧ w'.cell? ⟨gb310, 8, none⟩ = some (.int .i64 t307) ∧ w'.cell? ⟨gb322, 0, none⟩ = some (.int .i64 t311) ∧ w'.cell? ⟨gb322, 1, none⟩ = some (.string t312) ∧ w'.cell? ⟨gb322, 2, none⟩ = some (.int .i64 t313) ∧ w'.cell? ⟨gb322, 3, none⟩ = some (.int .i64 t314) ∧ w'.cell? ⟨gb322, 4, none⟩ = some (.int .i64 t315) ∧ w'.cell? ⟨gb322, 5, none⟩ = some (.int .i64 t316) ∧ w'.cell? ⟨gb322, 6, none⟩ = some (.bool t317) ∧ w'.cell? ⟨gb322, 7, none⟩ = some (.int .i64 t318) ∧ w'.cell? ⟨gb322, 8, none⟩ = some (.int .i64 t319)) (ds := []) #[false, false, false, false, false, false, false, false, false, false, false, false, false, false, false, false, false, false, false, false, false, false, false, false, false, false, false, false, false, false, false, false] (by kernel_rfl) rfl rfl ⟨(zc_ BK294.out 0).trans rfl, (zc_ BK294.out 1).trans rfl, (zc_ BK294.out 2).trans rfl, (zc_ BK294.out 3).trans rfl, (zc_ BK294.out 4).trans rfl, (zc_ BK294.out 5).trans rfl, (zc_ BK294.out 6).trans rfl, (zc_ BK294.out 7).trans rfl, (zc_ BK294.out 8).trans rfl, (zc_ BK310.out 0).trans rfl, (zc_ BK310.out 1).trans rfl, (zc_ BK310.out 2).trans rfl, (zc_ BK310.out 3).trans rfl, (zc_ BK310.out 4).trans rfl, (zc_ BK310.out 5).trans rfl, (zc_ BK310.out 6).trans rfl, (zc_ BK310.out 7).trans rfl, (zc_ BK310.out 8).trans rfl, (zc_ BK322.out 0).trans rfl, (zc_ BK322.out 1).trans rfl, (zc_ BK322.out 2).trans rfl, (zc_ BK322.out 3).trans rfl, (zc_ BK322.out 4).trans rfl, (zc_ BK322.out 5).trans rfl, (zc_ BK322.out 6).trans rfl, (zc_ BK322.out 7).trans rfl, (zc_ BK322.out 8).trans rfl⟩ (fun hHeld => ?_); refine with_tabW usufructlaw15_CodeSagas.tab8 usufructlaw15_CodeSagas.bits8 (fun HT_ HW_ => ?_)
                generalize w43.drew = w44 at HO298 BK294 BK310 BK322 HB hHeld ⊢
                refine pure_ (i := 0) (N := some 41) (v := ?_) (a' := ?_) (b_ 32 1) rfl rfl (any_of HT_.out (by kernel_rfl)) (fun _ _ _ h => h) (Or.inl ⟨by rfl, ?_⟩) ?_ ?_; rotate_left; (· intro w'; go_simp; with_reducible rfl); rotate_left; (· simp only [Act.put, sa_, sz_, ss_, i64_w, i32_w]; rfl)
                refine take_ (i := 2) (N := some 43) (v := ?_) (a' := ?_) (b_ 32 5) rfl rfl (take_ofW HT_.out HW_.out (by kernel_rfl)) (fun _ _ _ h => h) (Or.inl ⟨by rfl, ?_⟩) hHeld ?_ ?_
                rotate_left
                · rintro w' ⟨s0, s1, s2, s3, s4, s5, s6, s7, s8, s9, s10, s11, s12, s13, s14, s15, s16, s17, s18, s19, s20, s21, s22, s23, s24, s25, s26⟩
                  go_simp
                  with_reducible rfl
                rotate_left
                · simp only [Act.put, sa_, sz_, ss_, i64_w, i32_w]
                  rfl
                refine join_ (σ := Unit) 28 (b_ 32 15) (fun s_ => [(42, .string (strOfNums t296)), (44, .string t323)]) (fun s_ w' => (w'.cell? ⟨gb294, 0, none⟩ = some (.int .i64 a0_0) ∧ w'.cell? ⟨gb294, 1, none⟩ = some (.string a0_1) ∧ w'.cell? ⟨gb294, 2, none⟩ = some (.int .i64 a0_2) ∧ w'.cell? ⟨gb294, 3, none⟩ = some (.int .i64 a0_3) ∧ w'.cell? ⟨gb294, 4, none⟩ = some (.int .i64 a0_4) ∧ w'.cell? ⟨gb294, 5, none⟩ = some (.int .i64 a0_5) ∧ w'.cell? ⟨gb294, 6, none⟩ = some (.bool a0_6) ∧ w'.cell? ⟨gb294, 7, none⟩ = some (.int .i64 a0_7) ∧ w'.cell? ⟨gb294, 8, none⟩ = some (.int .i64 a0_8) ∧ w'.cell? ⟨gb310, 0, none⟩ = some (.int .i64 t299) ∧ w'.cell? ⟨gb310, 1, none⟩ = some (.string t300) ∧ w'.cell? ⟨gb310, 2, none⟩ = some (.int .i64 t301) ∧ w'.cell? ⟨gb310, 3, none⟩ = some (.int .i64 t302) ∧ w'.cell? ⟨gb310, 4, none⟩ = some (.int .i64 t303) ∧ w'.cell? ⟨gb310, 5, none⟩ = some (.int .i64 t304) ∧ w'.cell? ⟨gb310, 6, none⟩ = some (.bool t305) ∧ w'.cell? ⟨gb310, 7, none⟩ = some (.int .i64 t306) ∧ w'.cell? ⟨gb310, 8, none⟩ = some (.int .i64 t307) ∧ w'.cell? ⟨gb322, 0, none⟩ = some (.int .i64 t311) ∧ w'.cell? ⟨gb322, 1, none⟩ = some (.string t312) ∧ w'.cell? ⟨gb322, 2, none⟩ = some (.int .i64 t313) ∧ w'.cell? ⟨gb322, 3, none⟩ = some (.int .i64 t314) ∧ w'.cell? ⟨gb322, 4, none⟩ = some (.int .i64 t315) ∧ w'.cell? ⟨gb322, 5, none⟩ = some (.int .i64 t316) ∧ w'.cell? ⟨gb322, 6, none⟩ = some (.bool t317) ∧ w'.cell? ⟨gb322, 7, none⟩ = some (.int .i64 t318) ∧ w'.cell? ⟨gb322, 8, none⟩ = some (.int .i64 t319)) ∧ (Kd.R (Kd.int .u8) 5 w' w.heap.size (fun _ => True) v297 t296) ∧ (w'.heap[gb294]? = some (.cells #[.int .i64 a0_0, .string a0_1, .int .i64 a0_2, .int .i64 a0_3, .int .i64 a0_4, .int .i64 a0_5, .bool a0_6, .int .i64 a0_7, .int .i64 a0_8] 23 (0, 0))) ∧ (w'.heap[gb310]? = some (.cells #[.int .i64 t299, .string t300, .int .i64 t301, .int .i64 t302, .int .i64 t303, .int .i64 t304, .bool t305, .int .i64 t306, .int .i64 t307] 23 (0, 0))) ∧ (w'.heap[gb322]? = some (.cells #[.int .i64 t311, .string t312, .int .i64 t313, .int .i64 t314, .int .i64 t315, .int .i64 t316, .bool t317, .int .i64 t318, .int .i64 t319] 23 (0, 0))) ∧ (Below w.heap.size w w')) ?_ ?_
                rotate_left
                · intro hCont
                  refine two_ (i := 1) (j := 3) (Ni := some 42) (Nj := some 44) (b_ 32 7) (b_ 32 13) rfl rfl rfl rfl (two_of HT_.out (by kernel_rfl)) (by decide) (by decide) (fun K hK => ?_) (fun K hK => ?_)
                  · skip
                    have hcv45 := own_string (P := Try.prog) Try.underlying24 Try.underlying5 Try.underlying9 (Kd.own_of_R HO298.out)
                    refine value_ (w1 := ?_) (v := ?_) (by rfl) rfl ?_ ?_
                    rotate_left 2
                    · go_simp
                      constructor
                      · rfl
                      rfl
                    clear hcv45
                    refine hK.out _ _ ⟨(zc_ BK294.out 0).trans rfl, (zc_ BK294.out 1).trans rfl, (zc_ BK294.out 2).trans rfl, (zc_ BK294.out 3).trans rfl, (zc_ BK294.out 4).trans rfl, (zc_ BK294.out 5).trans rfl, (zc_ BK294.out 6).trans rfl, (zc_ BK294.out 7).trans rfl, (zc_ BK294.out 8).trans rfl, (zc_ BK310.out 0).trans rfl, (zc_ BK310.out 1).trans rfl, (zc_ BK310.out 2).trans rfl, (zc_ BK310.out 3).trans rfl, (zc_ BK310.out 4).trans rfl, (zc_ BK310.out 5).trans rfl, (zc_ BK310.out 6).trans rfl, (zc_ BK310.out 7).trans rfl, (zc_ BK310.out 8).trans rfl, (zc_ BK322.out 0).trans rfl, (zc_ BK322.out 1).trans rfl, (zc_ BK322.out 2).trans rfl, (zc_ BK322.out 3).trans rfl, (zc_ BK322.out 4).trans rfl, (zc_ BK322.out 5).trans rfl, (zc_ BK322.out 6).trans rfl, (zc_ BK322.out 7).trans rfl, (zc_ BK322.out 8).trans rfl⟩ (fun hHeld => ?_)
                    clear hK K
                    refine norm_ (a' := ?_) ?_ ?_
                    rotate_left
                    · show Act.put _ (some 42) _ = _
                      simp only [Act.put, sa_, sz_, ss_, i64_w, i32_w]
                      rfl
                    refine one_ (i := 3) (N := some 44) (b_ 32 15) rfl rfl (one_of HT_.out (by kernel_rfl)) (by decide) (fun K hK => ?_)
                    refine goes_ Try.func8 (by kernel_rfl) rfl #[.agg #[.int .i64 a0_0, .string a0_1, .int .i64 a0_2, .int .i64 a0_3, .int .i64 a0_4, .int .i64 a0_5, .bool a0_6, .int .i64 a0_7, .int .i64 a0_8]] (by rfl) rfl rfl (by (try simp only [List.map_toArray, List.map_cons, List.map_nil]); first | done | rfl | (simp only [List.length_drop, List.length_take]; rfl)) ?_
                    with_reducible refine (usufructref15_Saga.calls kj4 a0_0 a0_1 a0_2 a0_3 a0_4 a0_5 a0_6 a0_7 a0_8 t323 _ A28.out).mono ?_
                    rintro e w46 ⟨rfl, hb⟩
                    refine ⟨_, rfl, ?_⟩
                    have n0_ := ak_ (Kd.R_below (by (with_reducible repeat (first | apply Kd.R_alloc | apply Kd.R_drewN | apply Kd.R_drew)); exact HO298.out) hb)
                    have n1_ := ak_ (blk_below (g := gb294) (o := .cells #[.int .i64 a0_0, .string a0_1, .int .i64 a0_2, .int .i64 a0_3, .int .i64 a0_4, .int .i64 a0_5, .bool a0_6, .int .i64 a0_7, .int .i64 a0_8] 23 (0, 0)) (by (with_reducible repeat (first | apply zn_ | apply zd_ | apply za_)); exact BK294.out) hb)
                    have n2_ := ak_ (blk_below (g := gb310) (o := .cells #[.int .i64 t299, .string t300, .int .i64 t301, .int .i64 t302, .int .i64 t303, .int .i64 t304, .bool t305, .int .i64 t306, .int .i64 t307] 23 (0, 0)) (by (with_reducible repeat (first | apply zn_ | apply zd_ | apply za_)); exact BK310.out) hb)
                    have n3_ := ak_ (blk_below (g := gb322) (o := .cells #[.int .i64 t311, .string t312, .int .i64 t313, .int .i64 t314, .int .i64 t315, .int .i64 t316, .bool t317, .int .i64 t318, .int .i64 t319] 23 (0, 0)) (by (with_reducible repeat (first | apply zn_ | apply zd_ | apply za_)); exact BK322.out) hb)
                    have n4_ := ak_ (ps_ (by repeat (first | (with_reducible first | exact HB.out | apply pa_ | apply pd_ | apply p1_ | refine zs_ ?_ GE294.out | refine zs_ ?_ GE310.out | refine zs_ ?_ GE322.out) | exact HB.out)) hb)
                    clear HO298
                    clear BK294
                    clear BK310
                    clear BK322
                    clear HB
                    have HO298 := n0_
                    have BK294 := n1_
                    have BK310 := n2_
                    have BK322 := n3_
                    have HB := n4_
                    clear n0_ n1_ n2_ n3_ n4_
                    (try clear hb hk hi)
                    refine hK.out _ _ ⟨(zc_ BK294.out 0).trans rfl, (zc_ BK294.out 1).trans rfl, (zc_ BK294.out 2).trans rfl, (zc_ BK294.out 3).trans rfl, (zc_ BK294.out 4).trans rfl, (zc_ BK294.out 5).trans rfl, (zc_ BK294.out 6).trans rfl, (zc_ BK294.out 7).trans rfl, (zc_ BK294.out 8).trans rfl, (zc_ BK310.out 0).trans rfl, (zc_ BK310.out 1).trans rfl, (zc_ BK310.out 2).trans rfl, (zc_ BK310.out 3).trans rfl, (zc_ BK310.out 4).trans rfl, (zc_ BK310.out 5).trans rfl, (zc_ BK310.out 6).trans rfl, (zc_ BK310.out 7).trans rfl, (zc_ BK310.out 8).trans rfl, (zc_ BK322.out 0).trans rfl, (zc_ BK322.out 1).trans rfl, (zc_ BK322.out 2).trans rfl, (zc_ BK322.out 3).trans rfl, (zc_ BK322.out 4).trans rfl, (zc_ BK322.out 5).trans rfl, (zc_ BK322.out 6).trans rfl, (zc_ BK322.out 7).trans rfl, (zc_ BK322.out 8).trans rfl⟩ (fun hHeld => ?_)
                    clear hK K
                    refine norm_ (a' := ?_) ?_ ?_
                    rotate_left
                    · show Act.put _ (some 44) _ = _
                      simp only [Act.put, sa_, sz_, ss_, i64_w, i32_w]
                      rfl
                    exact norm_ (by simp only [putAll, Act.put, sa_, sz_, ss_]) (hCont () _ ⟨hHeld, (by (with_reducible repeat (first | apply Kd.R_alloc | apply Kd.R_drewN | apply Kd.R_drew)); exact HO298.out), (by (with_reducible repeat (first | apply zn_ | apply zd_ | apply za_)); exact BK294.out), (by (with_reducible repeat (first | apply zn_ | apply zd_ | apply za_)); exact BK310.out), (by (with_reducible repeat (first | apply zn_ | apply zd_ | apply za_)); exact BK322.out), (by repeat (first | (with_reducible first | exact HB.out | apply pa_ | apply pd_ | apply p1_ | refine zs_ ?_ GE294.out | refine zs_ ?_ GE310.out | refine zs_ ?_ GE322.out) | exact HB.out))⟩)
                  skip
                  refine goes_ Try.func8 (by kernel_rfl) rfl #[.agg #[.int .i64 a0_0, .string a0_1, .int .i64 a0_2, .int .i64 a0_3, .int .i64 a0_4, .int .i64 a0_5, .bool a0_6, .int .i64 a0_7, .int .i64 a0_8]] (by rfl) rfl rfl (by (try simp only [List.map_toArray, List.map_cons, List.map_nil]); first | done | rfl | (simp only [List.length_drop, List.length_take]; rfl)) ?_
                  with_reducible refine (usufructref15_Saga.calls kj4 a0_0 a0_1 a0_2 a0_3 a0_4 a0_5 a0_6 a0_7 a0_8 t323 _ A28.out).mono ?_
                  rintro e w45 ⟨rfl, hb⟩
                  refine ⟨_, rfl, ?_⟩
                  have n0_ := ak_ (Kd.R_below (by (with_reducible repeat (first | apply Kd.R_alloc | apply Kd.R_drewN | apply Kd.R_drew)); exact HO298.out) hb)
                  have n1_ := ak_ (blk_below (g := gb294) (o := .cells #[.int .i64 a0_0, .string a0_1, .int .i64 a0_2, .int .i64 a0_3, .int .i64 a0_4, .int .i64 a0_5, .bool a0_6, .int .i64 a0_7, .int .i64 a0_8] 23 (0, 0)) (by (with_reducible repeat (first | apply zn_ | apply zd_ | apply za_)); exact BK294.out) hb)
                  have n2_ := ak_ (blk_below (g := gb310) (o := .cells #[.int .i64 t299, .string t300, .int .i64 t301, .int .i64 t302, .int .i64 t303, .int .i64 t304, .bool t305, .int .i64 t306, .int .i64 t307] 23 (0, 0)) (by (with_reducible repeat (first | apply zn_ | apply zd_ | apply za_)); exact BK310.out) hb)
                  have n3_ := ak_ (blk_below (g := gb322) (o := .cells #[.int .i64 t311, .string t312, .int .i64 t313, .int .i64 t314, .int .i64 t315, .int .i64 t316, .bool t317, .int .i64 t318, .int .i64 t319] 23 (0, 0)) (by (with_reducible repeat (first | apply zn_ | apply zd_ | apply za_)); exact BK322.out) hb)
                  have n4_ := ak_ (ps_ (by repeat (first | (with_reducible first | exact HB.out | apply pa_ | apply pd_ | apply p1_ | refine zs_ ?_ GE294.out | refine zs_ ?_ GE310.out | refine zs_ ?_ GE322.out) | exact HB.out)) hb)
                  clear HO298
                  clear BK294
                  clear BK310
                  clear BK322
                  clear HB
                  have HO298 := n0_
                  have BK294 := n1_
                  have BK310 := n2_
                  have BK322 := n3_
                  have HB := n4_
                  clear n0_ n1_ n2_ n3_ n4_
                  (try clear hb hk hi)
                  refine hK.out _ _ ⟨(zc_ BK294.out 0).trans rfl, (zc_ BK294.out 1).trans rfl, (zc_ BK294.out 2).trans rfl, (zc_ BK294.out 3).trans rfl, (zc_ BK294.out 4).trans rfl, (zc_ BK294.out 5).trans rfl, (zc_ BK294.out 6).trans rfl, (zc_ BK294.out 7).trans rfl, (zc_ BK294.out 8).trans rfl, (zc_ BK310.out 0).trans rfl, (zc_ BK310.out 1).trans rfl, (zc_ BK310.out 2).trans rfl, (zc_ BK310.out 3).trans rfl, (zc_ BK310.out 4).trans rfl, (zc_ BK310.out 5).trans rfl, (zc_ BK310.out 6).trans rfl, (zc_ BK310.out 7).trans rfl, (zc_ BK310.out 8).trans rfl, (zc_ BK322.out 0).trans rfl, (zc_ BK322.out 1).trans rfl, (zc_ BK322.out 2).trans rfl, (zc_ BK322.out 3).trans rfl, (zc_ BK322.out 4).trans rfl, (zc_ BK322.out 5).trans rfl, (zc_ BK322.out 6).trans rfl, (zc_ BK322.out 7).trans rfl, (zc_ BK322.out 8).trans rfl⟩ (fun hHeld => ?_)
                  clear hK K
                  refine norm_ (a' := ?_) ?_ ?_
                  rotate_left
                  · show Act.put _ (some 44) _ = _
                    simp only [Act.put, sa_, sz_, ss_, i64_w, i32_w]
                    rfl
                  refine one_ (i := 1) (N := some 42) (b_ 32 15) rfl rfl (one_of HT_.out (by kernel_rfl)) (by decide) (fun K hK => ?_)
                  have hcv46 := own_string (P := Try.prog) Try.underlying24 Try.underlying5 Try.underlying9 (Kd.own_of_R HO298.out)
                  refine value_ (w1 := ?_) (v := ?_) (by rfl) rfl ?_ ?_
                  rotate_left 2
                  · go_simp
                    constructor
                    · rfl
                    rfl
                  clear hcv46
                  refine hK.out _ _ ⟨(zc_ BK294.out 0).trans rfl, (zc_ BK294.out 1).trans rfl, (zc_ BK294.out 2).trans rfl, (zc_ BK294.out 3).trans rfl, (zc_ BK294.out 4).trans rfl, (zc_ BK294.out 5).trans rfl, (zc_ BK294.out 6).trans rfl, (zc_ BK294.out 7).trans rfl, (zc_ BK294.out 8).trans rfl, (zc_ BK310.out 0).trans rfl, (zc_ BK310.out 1).trans rfl, (zc_ BK310.out 2).trans rfl, (zc_ BK310.out 3).trans rfl, (zc_ BK310.out 4).trans rfl, (zc_ BK310.out 5).trans rfl, (zc_ BK310.out 6).trans rfl, (zc_ BK310.out 7).trans rfl, (zc_ BK310.out 8).trans rfl, (zc_ BK322.out 0).trans rfl, (zc_ BK322.out 1).trans rfl, (zc_ BK322.out 2).trans rfl, (zc_ BK322.out 3).trans rfl, (zc_ BK322.out 4).trans rfl, (zc_ BK322.out 5).trans rfl, (zc_ BK322.out 6).trans rfl, (zc_ BK322.out 7).trans rfl, (zc_ BK322.out 8).trans rfl⟩ (fun hHeld => ?_)
                  clear hK K
                  refine norm_ (a' := ?_) ?_ ?_
                  rotate_left
                  · show Act.put _ (some 42) _ = _
                    simp only [Act.put, sa_, sz_, ss_, i64_w, i32_w]
                    rfl
                  exact norm_ (by simp only [putAll, Act.put, sa_, sz_, ss_]) (hCont () _ ⟨hHeld, (by (with_reducible repeat (first | apply Kd.R_alloc | apply Kd.R_drewN | apply Kd.R_drew)); exact HO298.out), (by (with_reducible repeat (first | apply zn_ | apply zd_ | apply za_)); exact BK294.out), (by (with_reducible repeat (first | apply zn_ | apply zd_ | apply za_)); exact BK310.out), (by (with_reducible repeat (first | apply zn_ | apply zd_ | apply za_)); exact BK322.out), (by repeat (first | (with_reducible first | exact HB.out | apply pa_ | apply pd_ | apply p1_ | refine zs_ ?_ GE294.out | refine zs_ ?_ GE310.out | refine zs_ ?_ GE322.out) | exact HB.out))⟩)
                rintro _ w47 ⟨hS_, h0_, h1_, h2_, h3_, h4_⟩
                have n0_ : Aside0 (Kd.R (Kd.int .u8) 5 w47 w.heap.size (fun _ => True) v297 t296) := ⟨h0_⟩
                have n1_ : Aside0 (w47.heap[gb294]? = some (.cells #[.int .i64 a0_0, .string a0_1, .int .i64 a0_2, .int .i64 a0_3, .int .i64 a0_4, .int .i64 a0_5, .bool a0_6, .int .i64 a0_7, .int .i64 a0_8] 23 (0, 0))) := ⟨h1_⟩
                have n2_ : Aside0 (w47.heap[gb310]? = some (.cells #[.int .i64 t299, .string t300, .int .i64 t301, .int .i64 t302, .int .i64 t303, .int .i64 t304, .bool t305, .int .i64 t306, .int .i64 t307] 23 (0, 0))) := ⟨h2_⟩
                have n3_ : Aside0 (w47.heap[gb322]? = some (.cells #[.int .i64 t311, .string t312, .int .i64 t313, .int .i64 t314, .int .i64 t315, .int .i64 t316, .bool t317, .int .i64 t318, .int .i64 t319] 23 (0, 0))) := ⟨h3_⟩
                have n4_ : Aside0 (Below w.heap.size w w47) := ⟨h4_⟩
                clear HO298
                clear BK294
                clear BK310
                clear BK322
                clear HB
                clear h0_ h1_ h2_ h3_ h4_
                have HO298 := n0_
                have BK294 := n1_
                have BK310 := n2_
                have BK322 := n3_
                have HB := n4_
                clear n0_ n1_ n2_ n3_ n4_
                have hHeld : w47.cell? ⟨gb294, 0, none⟩ = some (.int .i64 a0_0) ∧ w47.cell? ⟨gb294, 1, none⟩ = some (.string a0_1) ∧ w47.cell? ⟨gb294, 2, none⟩ = some (.int .i64 a0_2) ∧ w47.cell? ⟨gb294, 3, none⟩ = some (.int .i64 a0_3) ∧ w47.cell? ⟨gb294, 4, none⟩ = some (.int .i64 a0_4) ∧ w47.cell? ⟨gb294, 5, none⟩ = some (.int .i64 a0_5) ∧ w47.cell? ⟨gb294, 6, none⟩ = some (.bool a0_6) ∧ w47.cell? ⟨gb294, 7, none⟩ = some (.int .i64 a0_7) ∧ w47.cell? ⟨gb294, 8, none⟩ = some (.int .i64 a0_8) ∧ w47.cell? ⟨gb310, 0, none⟩ = some (.int .i64 t299) ∧ w47.cell? ⟨gb310, 1, none⟩ = some (.string t300) ∧ w47.cell? ⟨gb310, 2, none⟩ = some (.int .i64 t301) ∧ w47.cell? ⟨gb310, 3, none⟩ = some (.int .i64 t302) ∧ w47.cell? ⟨gb310, 4, none⟩ = some (.int .i64 t303) ∧ w47.cell? ⟨gb310, 5, none⟩ = some (.int .i64 t304) ∧ w47.cell? ⟨gb310, 6, none⟩ = some (.bool t305) ∧ w47.cell? ⟨gb310, 7, none⟩ = some (.int .i64 t306) ∧ w47.cell? ⟨gb310, 8, none⟩ = some (.int .i64 t307) ∧ w47.cell? ⟨gb322, 0, none⟩ = some (.int .i64 t311) ∧ w47.cell? ⟨gb322, 1, none⟩ = some (.string t312) ∧ w47.cell? ⟨gb322, 2, none⟩ = some (.int .i64 t313) ∧ w47.cell? ⟨gb322, 3, none⟩ = some (.int .i64 t314) ∧ w47.cell? ⟨gb322, 4, none⟩ = some (.int .i64 t315) ∧ w47.cell? ⟨gb322, 5, none⟩ = some (.int .i64 t316) ∧ w47.cell? ⟨gb322, 6, none⟩ = some (.bool t317) ∧ w47.cell? ⟨gb322, 7, none⟩ = some (.int .i64 t318) ∧ w47.cell? ⟨gb322, 8, none⟩ = some (.int .i64 t319) := hS_
                refine norm_ (a' := ?_) ?_ ?_
                rotate_left
                · simp only [putAll, Act.put, sa_, sz_, ss_]
                  rfl
                refine pure_ (i := 4) (N := some 45) (v := ?_) (a' := ?_) (b_ 32 31) rfl rfl (any_of HT_.out (by kernel_rfl)) (fun _ _ _ h => h) (Or.inl ⟨by rfl, ?_⟩) ?_ ?_; rotate_left; (· intro w'; go_simp; with_reducible rfl); rotate_left; (· simp only [Act.put, sa_, sz_, ss_, i64_w, i32_w]; rfl)
                refine pure_ (i := 5) (N := some 46) (v := ?_) (a' := ?_) (b_ 32 63) rfl rfl (any_of HT_.out (by kernel_rfl)) (fun _ _ _ h => h) (Or.inl ⟨by rfl, ?_⟩) ?_ ?_; rotate_left; (· intro w'; go_simp; with_reducible rfl); rotate_left; (· simp only [Act.put, sa_, sz_, ss_, i64_w, i32_w]; rfl)
                refine take_ (i := 6) (N := some 47) (v := ?_) (a' := ?_) (b_ 32 127) rfl rfl (take_ofW HT_.out HW_.out (by kernel_rfl)) (fun _ _ _ h => h) (Or.inl ⟨by rfl, ?_⟩) hHeld ?_ ?_
                rotate_left
                · rintro w' ⟨s0, s1, s2, s3, s4, s5, s6, s7, s8, s9, s10, s11, s12, s13, s14, s15, s16, s17, s18, s19, s20, s21, s22, s23, s24, s25, s26⟩
                  go_simp
                  with_reducible rfl
                rotate_left
                · simp only [Act.put, sa_, sz_, ss_, i64_w, i32_w]
                  rfl
                refine take_ (i := 7) (N := some 48) (v := ?_) (a' := ?_) (b_ 32 255) rfl rfl (take_ofW HT_.out HW_.out (by kernel_rfl)) (fun _ _ _ h => h) (Or.inl ⟨by rfl, ?_⟩) hHeld ?_ ?_
                rotate_left
                · rintro w' ⟨s0, s1, s2, s3, s4, s5, s6, s7, s8, s9, s10, s11, s12, s13, s14, s15, s16, s17, s18, s19, s20, s21, s22, s23, s24, s25, s26⟩
                  go_simp
                  with_reducible rfl
                rotate_left
                · simp only [Act.put, sa_, sz_, ss_, i64_w, i32_w]
                  rfl
                refine pure_ (i := 8) (N := some 49) (v := ?_) (a' := ?_) (b_ 32 511) rfl rfl (any_of HT_.out (by kernel_rfl)) (fun _ _ _ h => h) (Or.inl ⟨by rfl, ?_⟩) ?_ ?_; rotate_left; (· intro w'; go_simp; with_reducible rfl); rotate_left; (· simp only [Act.put, sa_, sz_, ss_, i64_w, i32_w]; rfl)
                refine pure_ (i := 9) (N := some 50) (v := ?_) (a' := ?_) (b_ 32 1023) rfl rfl (any_of HT_.out (by kernel_rfl)) (fun _ _ _ h => h) (Or.inl ⟨by rfl, ?_⟩) ?_ ?_; rotate_left; (· intro w'; go_simp; with_reducible rfl); rotate_left; (· simp only [Act.put, sa_, sz_, ss_, i64_w, i32_w]; rfl)
                refine pure_ (i := 10) (N := some 51) (v := ?_) (a' := ?_) (b_ 32 2047) rfl rfl (any_of HT_.out (by kernel_rfl)) (fun _ _ _ h => h) (Or.inl ⟨by rfl, ?_⟩) ?_ ?_; rotate_left; (· intro w'; go_simp; with_reducible rfl); rotate_left; (· simp only [Act.put, sa_, sz_, ss_, i64_w, i32_w]; rfl)
                refine pure_ (i := 11) (N := some 52) (v := ?_) (a' := ?_) (b_ 32 4095) rfl rfl (any_of HT_.out (by kernel_rfl)) (fun _ _ _ h => h) (Or.inl ⟨by rfl, ?_⟩) ?_ ?_; rotate_left; (· intro w'; go_simp; with_reducible rfl); rotate_left; (· simp only [Act.put, sa_, sz_, ss_, i64_w, i32_w]; rfl)
                refine pure_ (i := 12) (N := some 53) (v := ?_) (a' := ?_) (b_ 32 8191) rfl rfl (any_of HT_.out (by kernel_rfl)) (fun _ _ _ h => h) (Or.inl ⟨by rfl, ?_⟩) ?_ ?_; rotate_left; (· intro w'; go_simp; with_reducible rfl); rotate_left; (· simp only [Act.put, sa_, sz_, ss_, i64_w, i32_w]; rfl)
                refine pure_ (i := 13) (N := some 54) (v := ?_) (a' := ?_) (b_ 32 16383) rfl rfl (any_of HT_.out (by kernel_rfl)) (fun _ _ _ h => h) (Or.inl ⟨by rfl, ?_⟩) ?_ ?_; rotate_left; (· intro w'; go_simp; with_reducible rfl); rotate_left; (· simp only [Act.put, sa_, sz_, ss_, i64_w, i32_w]; rfl)
                refine pure_ (i := 14) (N := some 55) (v := ?_) (a' := ?_) (b_ 32 32767) rfl rfl (any_of HT_.out (by kernel_rfl)) (fun _ _ _ h => h) (Or.inl ⟨by rfl, ?_⟩) ?_ ?_; rotate_left; (· intro w'; go_simp; with_reducible rfl); rotate_left; (· simp only [Act.put, sa_, sz_, ss_, i64_w, i32_w]; rfl)
                refine pure_ (i := 15) (N := some 56) (v := ?_) (a' := ?_) (b_ 32 65535) rfl rfl (any_of HT_.out (by kernel_rfl)) (fun _ _ _ h => h) (Or.inl ⟨by rfl, ?_⟩) ?_ ?_; rotate_left; (· intro w'; go_simp; with_reducible rfl); rotate_left; (· simp only [Act.put, sa_, sz_, ss_, i64_w, i32_w]; rfl)
                refine pure_ (i := 16) (N := some 57) (v := ?_) (a' := ?_) (b_ 32 131071) rfl rfl (any_of HT_.out (by kernel_rfl)) (fun _ _ _ h => h) (Or.inl ⟨by rfl, ?_⟩) ?_ ?_; rotate_left; (· intro w'; go_simp; with_reducible rfl); rotate_left; (· simp only [Act.put, sa_, sz_, ss_, i64_w, i32_w]; rfl)
                refine pure_ (i := 17) (N := some 58) (v := ?_) (a' := ?_) (b_ 32 262143) rfl rfl (any_of HT_.out (by kernel_rfl)) (fun _ _ _ h => h) (Or.inl ⟨by rfl, ?_⟩) ?_ ?_; rotate_left; (· intro w'; go_simp; with_reducible rfl); rotate_left; (· simp only [Act.put, sa_, sz_, ss_, i64_w, i32_w]; rfl)
                refine pure_ (i := 18) (N := some 59) (v := ?_) (a' := ?_) (b_ 32 524287) rfl rfl (any_of HT_.out (by kernel_rfl)) (fun _ _ _ h => h) (Or.inl ⟨by rfl, ?_⟩) ?_ ?_; rotate_left; (· intro w'; go_simp; with_reducible rfl); rotate_left; (· simp only [Act.put, sa_, sz_, ss_, i64_w, i32_w]; rfl)
                refine pure_ (i := 19) (N := some 60) (v := ?_) (a' := ?_) (b_ 32 1048575) rfl rfl (any_of HT_.out (by kernel_rfl)) (fun _ _ _ h => h) (Or.inl ⟨by rfl, ?_⟩) ?_ ?_; rotate_left; (· intro w'; go_simp; with_reducible rfl); rotate_left; (· simp only [Act.put, sa_, sz_, ss_, i64_w, i32_w]; rfl)
                refine pure_ (i := 20) (N := some 61) (v := ?_) (a' := ?_) (b_ 32 2097151) rfl rfl (any_of HT_.out (by kernel_rfl)) (fun _ _ _ h => h) (Or.inl ⟨by rfl, ?_⟩) ?_ ?_; rotate_left; (· intro w'; go_simp; with_reducible rfl); rotate_left; (· simp only [Act.put, sa_, sz_, ss_, i64_w, i32_w]; rfl)
                refine pure_ (i := 21) (N := some 62) (v := ?_) (a' := ?_) (b_ 32 4194303) rfl rfl (any_of HT_.out (by kernel_rfl)) (fun _ _ _ h => h) (Or.inl ⟨by rfl, ?_⟩) ?_ ?_; rotate_left; (· intro w'; go_simp; with_reducible rfl); rotate_left; (· simp only [Act.put, sa_, sz_, ss_, i64_w, i32_w]; rfl)
                refine pure_ (i := 22) (N := some 63) (v := ?_) (a' := ?_) (b_ 32 8388607) rfl rfl (any_of HT_.out (by kernel_rfl)) (fun _ _ _ h => h) (Or.inl ⟨by rfl, ?_⟩) ?_ ?_; rotate_left; (· intro w'; go_simp; with_reducible rfl); rotate_left; (· simp only [Act.put, sa_, sz_, ss_, i64_w, i32_w]; rfl)
                refine pure_ (i := 23) (N := some 64) (v := ?_) (a' := ?_) (b_ 32 16777215) rfl rfl (any_of HT_.out (by kernel_rfl)) (fun _ _ _ h => h) (Or.inl ⟨by rfl, ?_⟩) ?_ ?_; rotate_left; (· intro w'; go_simp; with_reducible rfl); rotate_left; (· simp only [Act.put, sa_, sz_, ss_, i64_w, i32_w]; rfl)
                refine pure_ (i := 24) (N := some 65) (v := undef) (a' := ?_) (b_ 32 33554431) rfl rfl (any_of HT_.out (by kernel_rfl)) (fun _ _ _ h => h) (Or.inr ⟨by rfl, rfl⟩) ?_ ?_
                rotate_left
                · simp only [Act.put, sa_, sz_, ss_, i64_w, i32_w]
                  rfl
                refine pure_ (i := 25) (N := some 66) (v := undef) (a' := ?_) (b_ 32 67108863) rfl rfl (any_of HT_.out (by kernel_rfl)) (fun _ _ _ h => h) (Or.inr ⟨by rfl, rfl⟩) ?_ ?_
                rotate_left
                · simp only [Act.put, sa_, sz_, ss_, i64_w, i32_w]
                  rfl
                refine pure_ (i := 26) (N := some 67) (v := undef) (a' := ?_) (b_ 32 134217727) rfl rfl (any_of HT_.out (by kernel_rfl)) (fun _ _ _ h => h) (Or.inr ⟨by rfl, rfl⟩) ?_ ?_
                rotate_left
                · simp only [Act.put, sa_, sz_, ss_, i64_w, i32_w]
                  rfl
                refine pure_ (i := 27) (N := some 68) (v := undef) (a' := ?_) (b_ 32 268435455) rfl rfl (any_of HT_.out (by kernel_rfl)) (fun _ _ _ h => h) (Or.inr ⟨by rfl, rfl⟩) ?_ ?_
                rotate_left
                · simp only [Act.put, sa_, sz_, ss_, i64_w, i32_w]
                  rfl
                refine pure_ (i := 28) (N := some 69) (v := undef) (a' := ?_) (b_ 32 536870911) rfl rfl (any_of HT_.out (by kernel_rfl)) (fun _ _ _ h => h) (Or.inr ⟨by rfl, rfl⟩) ?_ ?_
                rotate_left
                · simp only [Act.put, sa_, sz_, ss_, i64_w, i32_w]
                  rfl
                refine pure_ (i := 29) (N := some 70) (v := undef) (a' := ?_) (b_ 32 1073741823) rfl rfl (any_of HT_.out (by kernel_rfl)) (fun _ _ _ h => h) (Or.inr ⟨by rfl, rfl⟩) ?_ ?_
                rotate_left
                · simp only [Act.put, sa_, sz_, ss_, i64_w, i32_w]
                  rfl
                refine pure_ (i := 30) (N := some 71) (v := ?_) (a' := ?_) (b_ 32 2147483647) rfl rfl (any_of HT_.out (by kernel_rfl)) (fun _ _ _ h => h) (Or.inl ⟨by rfl, ?_⟩) ?_ ?_; rotate_left; (· intro w'; go_simp; with_reducible rfl); rotate_left; (· simp only [Act.put, sa_, sz_, ss_, i64_w, i32_w]; rfl)
                refine pure_ (i := 31) (N := some 72) (v := ?_) (a' := ?_) (b_ 32 4294967295) rfl rfl (any_of HT_.out (by kernel_rfl)) (fun _ _ _ h => h) (Or.inl ⟨by rfl, ?_⟩) ?_ ?_; rotate_left; (· intro w'; go_simp; with_reducible rfl); rotate_left; (· simp only [Act.put, sa_, sz_, ss_, i64_w, i32_w]; rfl)
                refine done_ (done_of HT_.out (by kernel_rfl)) ?_
                try go_wp2
                go_meet
                case rel => exact ⟨_, (false), (by first | rfl | (simp; done) | (simp [*]; done)), H', ⟨by have := HJ4.out; first | omega | exact Nat.le_refl _⟩, ⟨by (with_reducible repeat (first | apply Kd.R_alloc | apply Kd.R_drewN | apply Kd.R_drew)); exact HO298.out⟩, ⟨by (with_reducible repeat (first | apply zn_ | apply zd_ | apply za_)); exact BK294.out⟩, ⟨by (with_reducible repeat (first | apply zn_ | apply zd_ | apply za_)); exact BK310.out⟩, ⟨by (with_reducible repeat (first | apply zn_ | apply zd_ | apply za_)); exact BK322.out⟩, ⟨by repeat (first | (with_reducible first | exact HB.out | apply pa_ | apply pd_ | apply p1_ | refine zs_ ?_ GE294.out | refine zs_ ?_ GE310.out | refine zs_ ?_ GE322.out) | exact HB.out)⟩⟩
              rw [if_neg c32] at H
              have c32b0 : (t309 == t321) = false := beq_eq_false_iff_ne.mpr c32
              have c32b1 : (t309 != t321) = true := bne_iff_ne.mpr c32
              exfalso
              revert H
              cases kj4 <;> simp [usufructlaw15_CodeSagas.j1, HTR_.out]
            rw [if_neg c31] at H
            have c31b0 : (t308 == t320) = false := beq_eq_false_iff_ne.mpr c31
            have c31b1 : (t308 != t320) = true := bne_iff_ne.mpr c31
            exfalso
            revert H
            cases kj4 <;> simp [usufructlaw15_CodeSagas.j1, HTR_.out]
          rw [if_neg c29] at H
          have c29b0 : ((strOfNums t296).toList == t323.toList) = false := beq_eq_false_iff_ne.mpr c29
          have c29b1 : ((strOfNums t296).toList != t323.toList) = true := bne_iff_ne.mpr c29
          (first | rw [c29b0] | (simp only [i64_w, i32_w]; rw [c29b0]) | skip)
          exfalso
          revert H
          cases kj4 <;> simp [usufructlaw15_CodeSagas.j1, HTR_.out]
        case rest =>
          clear HC15
          try clear c1
          try clear c2
          try clear p2
          try clear c3
          try clear hcv4
          try clear c8
          try clear c29
          try clear c29b0
          try clear c29b1
          try clear c31
          try clear c31b0
          try clear c31b1
          try clear c32
          try clear c32b0
          try clear c32b1
          try clear c33
          try clear c33b0
          try clear c33b1
          try clear hcv41
          try clear hcv42
          try clear hcv45
          try clear hcv46
          obtain ⟨kq, x72_14, rfl, HA, HJ14, HO_5, BK294, BK310, BK322, HB⟩ := hcut
          cases kq with
          | zero => exact absurd HA.out (by simp [usufructlaw15_CodeSagas.j1])
          | succ kj14 =>
            have H := HA.out
            clear HA
            simp only [usufructlaw15_CodeSagas.j1] at H
            by_cases c48 : x72_14 = true
            · subst c48
              have H1 : (some false) = some r := by rw [if_pos rfl] at H; exact H
              clear H
              have H := H1
              clear H1
              exact absurd ((Option.some.inj H).trans HTR_.out) (by decide)
            replace c48 := Bool.eq_false_iff.mpr c48
            subst c48
            have H1 : ((code_TakeSaga.f t296).bind fun bt327 => (if a0_0 < 0 then (usufructlaw15_CodeSagas.j2 kj14 bt327.2.2.2.2.2.2.2.2.2.2 true a0_0 a0_1 a0_2 a0_3 a0_4 a0_5 a0_6 a0_7 a0_8 bt327.1 bt327.2.1 bt327.2.2.1 bt327.2.2.2.1 bt327.2.2.2.2.1 bt327.2.2.2.2.2.1 bt327.2.2.2.2.2.2.1 bt327.2.2.2.2.2.2.2.1 bt327.2.2.2.2.2.2.2.2.1) else (if a0_2 < 0 then (usufructlaw15_CodeSagas.j2 kj14 bt327.2.2.2.2.2.2.2.2.2.2 true a0_0 a0_1 a0_2 a0_3 a0_4 a0_5 a0_6 a0_7 a0_8 bt327.1 bt327.2.1 bt327.2.2.1 bt327.2.2.2.1 bt327.2.2.2.2.1 bt327.2.2.2.2.2.1 bt327.2.2.2.2.2.2.1 bt327.2.2.2.2.2.2.2.1 bt327.2.2.2.2.2.2.2.2.1) else (if a0_3 < 0 then (usufructlaw15_CodeSagas.j2 kj14 bt327.2.2.2.2.2.2.2.2.2.2 true a0_0 a0_1 a0_2 a0_3 a0_4 a0_5 a0_6 a0_7 a0_8 bt327.1 bt327.2.1 bt327.2.2.1 bt327.2.2.2.1 bt327.2.2.2.2.1 bt327.2.2.2.2.2.1 bt327.2.2.2.2.2.2.1 bt327.2.2.2.2.2.2.2.1 bt327.2.2.2.2.2.2.2.2.1) else (if a0_4 < 0 then (usufructlaw15_CodeSagas.j2 kj14 bt327.2.2.2.2.2.2.2.2.2.2 true a0_0 a0_1 a0_2 a0_3 a0_4 a0_5 a0_6 a0_7 a0_8 bt327.1 bt327.2.1 bt327.2.2.1 bt327.2.2.2.1 bt327.2.2.2.2.1 bt327.2.2.2.2.2.1 bt327.2.2.2.2.2.2.1 bt327.2.2.2.2.2.2.2.1 bt327.2.2.2.2.2.2.2.2.1) else (if a0_5 < 0 then (usufructlaw15_CodeSagas.j2 kj14 bt327.2.2.2.2.2.2.2.2.2.2 true a0_0 a0_1 a0_2 a0_3 a0_4 a0_5 a0_6 a0_7 a0_8 bt327.1 bt327.2.1 bt327.2.2.1 bt327.2.2.2.1 bt327.2.2.2.2.1 bt327.2.2.2.2.2.1 bt327.2.2.2.2.2.2.1 bt327.2.2.2.2.2.2.2.1 bt327.2.2.2.2.2.2.2.2.1) else (if a0_7 < 0 then (usufructlaw15_CodeSagas.j2 kj14 bt327.2.2.2.2.2.2.2.2.2.2 true a0_0 a0_1 a0_2 a0_3 a0_4 a0_5 a0_6 a0_7 a0_8 bt327.1 bt327.2.1 bt327.2.2.1 bt327.2.2.2.1 bt327.2.2.2.2.1 bt327.2.2.2.2.2.1 bt327.2.2.2.2.2.2.1 bt327.2.2.2.2.2.2.2.1 bt327.2.2.2.2.2.2.2.2.1) else (usufructlaw15_CodeSagas.j2 kj14 bt327.2.2.2.2.2.2.2.2.2.2 (decide (a0_8 < 0)) a0_0 a0_1 a0_2 a0_3 a0_4 a0_5 a0_6 a0_7 a0_8 bt327.1 bt327.2.1 bt327.2.2.1 bt327.2.2.2.1 bt327.2.2.2.2.1 bt327.2.2.2.2.2.1 bt327.2.2.2.2.2.2.1 bt327.2.2.2.2.2.2.2.1 bt327.2.2.2.2.2.2.2.2.1)))))))) = some r := by rw [if_neg (show ¬ (false = true) by decide)] at H; exact H
            clear H
            have H := H1
            clear H1
            replace H := Option.bind_eq_some_iff.mp H
            obtain ⟨⟨t327, t328, t329, t330, t331, t332, t333, t334, t335, t336, t337⟩, A490, H⟩ := H
            replace H : (if a0_0 < 0 then (usufructlaw15_CodeSagas.j2 kj14 t337 true a0_0 a0_1 a0_2 a0_3 a0_4 a0_5 a0_6 a0_7 a0_8 t327 t328 t329 t330 t331 t332 t333 t334 t335) else (if a0_2 < 0 then (usufructlaw15_CodeSagas.j2 kj14 t337 true a0_0 a0_1 a0_2 a0_3 a0_4 a0_5 a0_6 a0_7 a0_8 t327 t328 t329 t330 t331 t332 t333 t334 t335) else (if a0_3 < 0 then (usufructlaw15_CodeSagas.j2 kj14 t337 true a0_0 a0_1 a0_2 a0_3 a0_4 a0_5 a0_6 a0_7 a0_8 t327 t328 t329 t330 t331 t332 t333 t334 t335) else (if a0_4 < 0 then (usufructlaw15_CodeSagas.j2 kj14 t337 true a0_0 a0_1 a0_2 a0_3 a0_4 a0_5 a0_6 a0_7 a0_8 t327 t328 t329 t330 t331 t332 t333 t334 t335) else (if a0_5 < 0 then (usufructlaw15_CodeSagas.j2 kj14 t337 true a0_0 a0_1 a0_2 a0_3 a0_4 a0_5 a0_6 a0_7 a0_8 t327 t328 t329 t330 t331 t332 t333 t334 t335) else (if a0_7 < 0 then (usufructlaw15_CodeSagas.j2 kj14 t337 true a0_0 a0_1 a0_2 a0_3 a0_4 a0_5 a0_6 a0_7 a0_8 t327 t328 t329 t330 t331 t332 t333 t334 t335) else (usufructlaw15_CodeSagas.j2 kj14 t337 (decide (a0_8 < 0)) a0_0 a0_1 a0_2 a0_3 a0_4 a0_5 a0_6 a0_7 a0_8 t327 t328 t329 t330 t331 t332 t333 t334 t335))))))) = some r := H
            have A49 := ak_ A490
            clear A490
            have HC50 := ak_ H
            clear H
            obtain ⟨Ao51, co51, eo51⟩ := Kd.R_slice HO_5.out
            subst eo51
            go_upto_region 11 with (first | ((with_reducible refine gate_callee (f := 6) rfl ?_); refine goesL_ (some 75) rfl rfl Try.func6 (by kernel_rfl) rfl #[.slice Ao51 t296.length co51] rfl (by (try simp only [List.map_toArray, List.map_cons, List.map_nil]); first | done | rfl | (simp only [List.length_drop, List.length_take]; rfl)) ?_; (with_reducible refine (code_TakeSaga.calls _ _ t296 t327 t328 t329 t330 t331 t332 t333 t334 t335 t336 t337 _ ?side1 ?side2 A49.out).mono ?_); (case side1 => repeat (first | exact (Kd.R_reads' HO_5.out).2.2 | (with_reducible refine Kd.C_alloc ?_ _) | (with_reducible refine Kd.C_drewN ?_ _) | (with_reducible refine Kd.C_drew ?_))); (case side2 => exact (Kd.R_reads' HO_5.out).2.1); rintro e w52 ⟨rfl, hb⟩; refine ⟨_, rfl, ?_⟩; have n0_ := ak_ (Kd.R_below (by (with_reducible repeat (first | apply Kd.R_alloc | apply Kd.R_drewN | apply Kd.R_drew)); exact HO_5.out) hb); have n1_ := ak_ (blk_below (g := gb294) (o := .cells #[.int .i64 a0_0, .string a0_1, .int .i64 a0_2, .int .i64 a0_3, .int .i64 a0_4, .int .i64 a0_5, .bool a0_6, .int .i64 a0_7, .int .i64 a0_8] 23 (0, 0)) (by (with_reducible repeat (first | apply zn_ | apply zd_ | apply za_)); exact BK294.out) hb); have n2_ := ak_ (blk_below (g := gb310) (o := .cells #[.int .i64 t299, .string t300, .int .i64 t301, .int .i64 t302, .int .i64 t303, .int .i64 t304, .bool t305, .int .i64 t306, .int .i64 t307] 23 (0, 0)) (by (with_reducible repeat (first | apply zn_ | apply zd_ | apply za_)); exact BK310.out) hb); have n3_ := ak_ (blk_below (g := gb322) (o := .cells #[.int .i64 t311, .string t312, .int .i64 t313, .int .i64 t314, .int .i64 t315, .int .i64 t316, .bool t317, .int .i64 t318, .int .i64 t319] 23 (0, 0)) (by (with_reducible repeat (first | apply zn_ | apply zd_ | apply za_)); exact BK322.out) hb); have n4_ := ak_ (ps_ (by repeat (first | (with_reducible first | exact HB.out | apply pa_ | apply pd_ | apply p1_ | refine zs_ ?_ GE294.out | refine zs_ ?_ GE310.out | refine zs_ ?_ GE322.out) | exact HB.out)) hb); clear HO_5; clear BK294; clear BK310; clear BK322; clear HB; have HO_5 := n0_; have BK294 := n1_; have BK310 := n2_; have BK322 := n3_; have HB := n4_; clear n0_ n1_ n2_ n3_ n4_; (try clear hb hk hi)) | ((with_reducible refine gate_dst (N := 12) rfl ?_); (try (refine gate_guard (by rfl) ?_; dsimp only)); refine box_event ?hg (N := 12) ?hd (cs := #[.int .i64 0, .string ⟨#[]⟩, .int .i64 0, .int .i64 0, .int .i64 0, .int .i64 0, .bool false, .int .i64 0, .int .i64 0]) (t := 23) ?hr ?_; (case hd => rfl); (case hg => rfl); (case hr => first | (go_simp; done) | (go_simp; rfl)); intro gb338 hg w53 hbox hb; have n0_ := ak_ (Kd.R_below (by (with_reducible repeat (first | apply Kd.R_alloc | apply Kd.R_drewN | apply Kd.R_drew)); exact HO_5.out) hb); have n1_ := ak_ (blk_below (g := gb294) (o := .cells #[.int .i64 a0_0, .string a0_1, .int .i64 a0_2, .int .i64 a0_3, .int .i64 a0_4, .int .i64 a0_5, .bool a0_6, .int .i64 a0_7, .int .i64 a0_8] 23 (0, 0)) (by (with_reducible repeat (first | apply zn_ | apply zd_ | apply za_)); exact BK294.out) hb); have n2_ := ak_ (blk_below (g := gb310) (o := .cells #[.int .i64 t299, .string t300, .int .i64 t301, .int .i64 t302, .int .i64 t303, .int .i64 t304, .bool t305, .int .i64 t306, .int .i64 t307] 23 (0, 0)) (by (with_reducible repeat (first | apply zn_ | apply zd_ | apply za_)); exact BK310.out) hb); have n3_ := ak_ (blk_below (g := gb322) (o := .cells #[.int .i64 t311, .string t312, .int .i64 t313, .int .i64 t314, .int .i64 t315, .int .i64 t316, .bool t317, .int .i64 t318, .int .i64 t319] 23 (0, 0)) (by (with_reducible repeat (first | apply zn_ | apply zd_ | apply za_)); exact BK322.out) hb); have n4_ := ak_ (ps_ (by repeat (first | (with_reducible first | exact HB.out | apply pa_ | apply pd_ | apply p1_ | refine zs_ ?_ GE294.out | refine zs_ ?_ GE310.out | refine zs_ ?_ GE322.out) | exact HB.out)) hb); have n5_ := ak_ (hbox); have n6_ := ak_ ((by rw [hg]; exact (below_size (by repeat (first | (with_reducible first | exact HB.out | apply pa_ | apply pd_ | apply p1_ | refine zs_ ?_ GE294.out | refine zs_ ?_ GE310.out | refine zs_ ?_ GE322.out) | exact HB.out))) : w.heap.size ≤ gb338)); have n7_ := ak_ ((by rw [hg]; exact (below_size (by repeat (first | (with_reducible first | exact HB.out | apply pa_ | apply pd_ | apply p1_ | refine zs_ ?_ GE294.out | refine zs_ ?_ GE310.out | refine zs_ ?_ GE322.out) | exact HB.out))) : w.heap.size ≤ gb338)); have n8_ := ak_ ((by rw [hg]; exact Nat.ne_of_lt (blk_lt (g := gb294) (o := .cells #[.int .i64 a0_0, .string a0_1, .int .i64 a0_2, .int .i64 a0_3, .int .i64 a0_4, .int .i64 a0_5, .bool a0_6, .int .i64 a0_7, .int .i64 a0_8] 23 (0, 0)) (by (with_reducible repeat (first | apply zn_ | apply zd_ | apply za_)); exact BK294.out)) : gb294 ≠ gb338)); have n9_ := ak_ ((by rw [hg]; exact Nat.ne_of_gt (blk_lt (g := gb294) (o := .cells #[.int .i64 a0_0, .string a0_1, .int .i64 a0_2, .int .i64 a0_3, .int .i64 a0_4, .int .i64 a0_5, .bool a0_6, .int .i64 a0_7, .int .i64 a0_8] 23 (0, 0)) (by (with_reducible repeat (first | apply zn_ | apply zd_ | apply za_)); exact BK294.out)) : gb338 ≠ gb294)); have n10_ := ak_ ((by rw [hg]; exact Nat.ne_of_lt (blk_lt (g := gb310) (o := .cells #[.int .i64 t299, .string t300, .int .i64 t301, .int .i64 t302, .int .i64 t303, .int .i64 t304, .bool t305, .int .i64 t306, .int .i64 t307] 23 (0, 0)) (by (with_reducible repeat (first | apply zn_ | apply zd_ | apply za_)); exact BK310.out)) : gb310 ≠ gb338)); have n11_ := ak_ ((by rw [hg]; exact Nat.ne_of_gt (blk_lt (g := gb310) (o := .cells #[.int .i64 t299, .string t300, .int .i64 t301, .int .i64 t302, .int .i64 t303, .int .i64 t304, .bool t305, .int .i64 t306, .int .i64 t307] 23 (0, 0)) (by (with_reducible repeat (first | apply zn_ | apply zd_ | apply za_)); exact BK310.out)) : gb338 ≠ gb310)); have n12_ := ak_ ((by rw [hg]; exact Nat.ne_of_lt (blk_lt (g := gb322) (o := .cells #[.int .i64 t311, .string t312, .int .i64 t313, .int .i64 t314, .int .i64 t315, .int .i64 t316, .bool t317, .int .i64 t318, .int .i64 t319] 23 (0, 0)) (by (with_reducible repeat (first | apply zn_ | apply zd_ | apply za_)); exact BK322.out)) : gb322 ≠ gb338)); have n13_ := ak_ ((by rw [hg]; exact Nat.ne_of_gt (blk_lt (g := gb322) (o := .cells #[.int .i64 t311, .string t312, .int .i64 t313, .int .i64 t314, .int .i64 t315, .int .i64 t316, .bool t317, .int .i64 t318, .int .i64 t319] 23 (0, 0)) (by (with_reducible repeat (first | apply zn_ | apply zd_ | apply za_)); exact BK322.out)) : gb338 ≠ gb322)); clear HO_5; clear BK294; clear BK310; clear BK322; clear HB; have HO_5 := n0_; have BK294 := n1_; have BK310 := n2_; have BK322 := n3_; have HB := n4_; have BK338 := n5_; have GW338 := n6_; have GE338 := n7_; have NB294_338 := n8_; have NB338_294 := n9_; have NB310_338 := n10_; have NB338_310 := n11_; have NB322_338 := n12_; have NB338_322 := n13_; clear n0_ n1_ n2_ n3_ n4_ n5_ n6_ n7_ n8_ n9_ n10_ n11_ n12_ n13_; clear hb hbox hg; have hnb54 := NB338_294.out; have hnc54 := NB294_338.out; have hnb55 := NB338_310.out; have hnc55 := NB310_338.out; have hnb56 := NB338_322.out; have hnc56 := NB322_338.out; have hcz57_0 : w53.cell? ⟨gb338, 0, none⟩ = some (.int .i64 0) := (zc_ BK338.out 0).trans rfl; have hcz57_1 : w53.cell? ⟨gb338, 1, none⟩ = some (.string ⟨#[]⟩) := (zc_ BK338.out 1).trans rfl; have hcz57_2 : w53.cell? ⟨gb338, 2, none⟩ = some (.int .i64 0) := (zc_ BK338.out 2).trans rfl; have hcz57_3 : w53.cell? ⟨gb338, 3, none⟩ = some (.int .i64 0) := (zc_ BK338.out 3).trans rfl; have hcz57_4 : w53.cell? ⟨gb338, 4, none⟩ = some (.int .i64 0) := (zc_ BK338.out 4).trans rfl; have hcz57_5 : w53.cell? ⟨gb338, 5, none⟩ = some (.int .i64 0) := (zc_ BK338.out 5).trans rfl; have hcz57_6 : w53.cell? ⟨gb338, 6, none⟩ = some (.bool false) := (zc_ BK338.out 6).trans rfl; have hcz57_7 : w53.cell? ⟨gb338, 7, none⟩ = some (.int .i64 0) := (zc_ BK338.out 7).trans rfl; have hcz57_8 : w53.cell? ⟨gb338, 8, none⟩ = some (.int .i64 0) := (zc_ BK338.out 8).trans rfl; have hfz57_0 := zf_ BK338.out 0; have hfz57_1 := zf_ BK338.out 1; have hfz57_2 := zf_ BK338.out 2; have hfz57_3 := zf_ BK338.out 3; have hfz57_4 := zf_ BK338.out 4; have hfz57_5 := zf_ BK338.out 5; have hfz57_6 := zf_ BK338.out 6; have hfz57_7 := zf_ BK338.out 7; have hfz57_8 := zf_ BK338.out 8))
            (try simp only [Act.put, sa_, sz_, ss_])
            go_cut [111] (fun v111 wc => ∃ (kq : Nat) (x111_49 : Bool), v111 = .bool x111_49 ∧ Aside0 (usufructlaw15_CodeSagas.j2 kq t337 x111_49 a0_0 a0_1 a0_2 a0_3 a0_4 a0_5 a0_6 a0_7 a0_8 t327 t328 t329 t330 t331 t332 t333 t334 t335 = some r) ∧ Aside0 (kq ≤ kj14) ∧ Aside0 (wc.heap[gb294]? = some (.cells #[.int .i64 a0_0, .string a0_1, .int .i64 a0_2, .int .i64 a0_3, .int .i64 a0_4, .int .i64 a0_5, .bool a0_6, .int .i64 a0_7, .int .i64 a0_8] 23 (0, 0))) ∧ Aside0 (wc.heap[gb310]? = some (.cells #[.int .i64 t299, .string t300, .int .i64 t301, .int .i64 t302, .int .i64 t303, .int .i64 t304, .bool t305, .int .i64 t306, .int .i64 t307] 23 (0, 0))) ∧ Aside0 (wc.heap[gb322]? = some (.cells #[.int .i64 t311, .string t312, .int .i64 t313, .int .i64 t314, .int .i64 t315, .int .i64 t316, .bool t317, .int .i64 t318, .int .i64 t319] 23 (0, 0))) ∧ Aside0 (wc.heap[gb338]? = some (.cells #[.int .i64 t327, .string t328, .int .i64 t329, .int .i64 t330, .int .i64 t331, .int .i64 t332, .bool t333, .int .i64 t334, .int .i64 t335] 23 (0, 0))) ∧ Aside0 (Below w.heap.size w wc))
            case first =>
              have H := HC50.out
              clear HC50
              by_cases c58 : a0_0 < 0
              · rw [if_pos c58] at H
                have c58b0 : decide (a0_0 < 0) = true := decide_eq_true c58
                clear c58
                (first | rw [c58b0] | (simp only [i64_w, i32_w]; rw [c58b0]) | skip)
                have H' := ak_ H
                clear H
                have hnb59 := NB294_310.out
                have hnc59 := NB310_294.out
                have hnb60 := NB294_322.out
                have hnc60 := NB322_294.out
                have hnb61 := NB294_338.out
                have hnc61 := NB338_294.out
                have hcz62_0 : w53.cell? ⟨gb294, 0, none⟩ = some (.int .i64 a0_0) := (zc_ BK294.out 0).trans rfl
                have hcz62_1 : w53.cell? ⟨gb294, 1, none⟩ = some (.string a0_1) := (zc_ BK294.out 1).trans rfl
                have hcz62_2 : w53.cell? ⟨gb294, 2, none⟩ = some (.int .i64 a0_2) := (zc_ BK294.out 2).trans rfl
                have hcz62_3 : w53.cell? ⟨gb294, 3, none⟩ = some (.int .i64 a0_3) := (zc_ BK294.out 3).trans rfl
                have hcz62_4 : w53.cell? ⟨gb294, 4, none⟩ = some (.int .i64 a0_4) := (zc_ BK294.out 4).trans rfl
                have hcz62_5 : w53.cell? ⟨gb294, 5, none⟩ = some (.int .i64 a0_5) := (zc_ BK294.out 5).trans rfl
                have hcz62_6 : w53.cell? ⟨gb294, 6, none⟩ = some (.bool a0_6) := (zc_ BK294.out 6).trans rfl
                have hcz62_7 : w53.cell? ⟨gb294, 7, none⟩ = some (.int .i64 a0_7) := (zc_ BK294.out 7).trans rfl
                have hcz62_8 : w53.cell? ⟨gb294, 8, none⟩ = some (.int .i64 a0_8) := (zc_ BK294.out 8).trans rfl
                have hfz62_0 := zf_ BK294.out 0
                have hfz62_1 := zf_ BK294.out 1
                have hfz62_2 := zf_ BK294.out 2
                have hfz62_3 := zf_ BK294.out 3
                have hfz62_4 := zf_ BK294.out 4
                have hfz62_5 := zf_ BK294.out 5
                have hfz62_6 := zf_ BK294.out 6
                have hfz62_7 := zf_ BK294.out 7
                have hfz62_8 := zf_ BK294.out 8
                go_wp2
                go_meet
                case rel => exact ⟨_, (true), (by first | rfl | (simp; done) | (simp [*]; done)), H', ⟨by have := HJ4.out; have := HJ14.out; first | omega | exact Nat.le_refl _⟩, ⟨by (repeat (first | (with_reducible first | apply zn_ | apply zd_ | apply za_) | refine zr_ ?_ NB294_338.out _)); (with_reducible repeat (first | apply zn_ | apply zd_ | apply za_)); exact BK294.out⟩, ⟨by (repeat (first | (with_reducible first | apply zn_ | apply zd_ | apply za_) | refine zr_ ?_ NB310_338.out _)); (with_reducible repeat (first | apply zn_ | apply zd_ | apply za_)); exact BK310.out⟩, ⟨by (repeat (first | (with_reducible first | apply zn_ | apply zd_ | apply za_) | refine zr_ ?_ NB322_338.out _)); (with_reducible repeat (first | apply zn_ | apply zd_ | apply za_)); exact BK322.out⟩, ⟨by (with_reducible repeat (first | apply zn_ | apply zd_ | apply za_)); refine zp_ (cs := #[.int .i64 t327, .string t328, .int .i64 t329, .int .i64 t330, .int .i64 t331, .int .i64 t332, .bool t333, .int .i64 t334, .int .i64 0]) ?_ 8 _ rfl; (with_reducible repeat (first | apply zn_ | apply zd_ | apply za_)); refine zp_ (cs := #[.int .i64 t327, .string t328, .int .i64 t329, .int .i64 t330, .int .i64 t331, .int .i64 t332, .bool t333, .int .i64 0, .int .i64 0]) ?_ 7 _ rfl; (with_reducible repeat (first | apply zn_ | apply zd_ | apply za_)); refine zp_ (cs := #[.int .i64 t327, .string t328, .int .i64 t329, .int .i64 t330, .int .i64 t331, .int .i64 t332, .bool false, .int .i64 0, .int .i64 0]) ?_ 6 _ rfl; (with_reducible repeat (first | apply zn_ | apply zd_ | apply za_)); refine zp_ (cs := #[.int .i64 t327, .string t328, .int .i64 t329, .int .i64 t330, .int .i64 t331, .int .i64 0, .bool false, .int .i64 0, .int .i64 0]) ?_ 5 _ rfl; (with_reducible repeat (first | apply zn_ | apply zd_ | apply za_)); refine zp_ (cs := #[.int .i64 t327, .string t328, .int .i64 t329, .int .i64 t330, .int .i64 0, .int .i64 0, .bool false, .int .i64 0, .int .i64 0]) ?_ 4 _ rfl; (with_reducible repeat (first | apply zn_ | apply zd_ | apply za_)); refine zp_ (cs := #[.int .i64 t327, .string t328, .int .i64 t329, .int .i64 0, .int .i64 0, .int .i64 0, .bool false, .int .i64 0, .int .i64 0]) ?_ 3 _ rfl; (with_reducible repeat (first | apply zn_ | apply zd_ | apply za_)); refine zp_ (cs := #[.int .i64 t327, .string t328, .int .i64 0, .int .i64 0, .int .i64 0, .int .i64 0, .bool false, .int .i64 0, .int .i64 0]) ?_ 2 _ rfl; (with_reducible repeat (first | apply zn_ | apply zd_ | apply za_)); refine zp_ (cs := #[.int .i64 t327, .string ⟨#[]⟩, .int .i64 0, .int .i64 0, .int .i64 0, .int .i64 0, .bool false, .int .i64 0, .int .i64 0]) ?_ 1 _ rfl; (with_reducible repeat (first | apply zn_ | apply zd_ | apply za_)); refine zp_ (cs := #[.int .i64 0, .string ⟨#[]⟩, .int .i64 0, .int .i64 0, .int .i64 0, .int .i64 0, .bool false, .int .i64 0, .int .i64 0]) ?_ 0 _ rfl; (with_reducible repeat (first | apply zn_ | apply zd_ | apply za_)); exact BK338.out⟩, ⟨by repeat (first | (with_reducible first | exact HB.out | apply pa_ | apply pd_ | apply p1_ | refine zs_ ?_ GE294.out | refine zs_ ?_ GE310.out | refine zs_ ?_ GE322.out | refine zs_ ?_ GE338.out) | exact HB.out)⟩⟩
              rw [if_neg c58] at H
              have c58b0 : decide (a0_0 < 0) = false := decide_eq_false c58
              clear c58
              (first | rw [c58b0] | (simp only [i64_w, i32_w]; rw [c58b0]) | skip)
              by_cases c63 : a0_2 < 0
              · rw [if_pos c63] at H
                have c63b0 : decide (a0_2 < 0) = true := decide_eq_true c63
                clear c63
                have H' := ak_ H
                clear H
                have hnb64 := NB294_310.out
                have hnc64 := NB310_294.out
                have hnb65 := NB294_322.out
                have hnc65 := NB322_294.out
                have hnb66 := NB294_338.out
                have hnc66 := NB338_294.out
                have hcz67_0 : w53.cell? ⟨gb294, 0, none⟩ = some (.int .i64 a0_0) := (zc_ BK294.out 0).trans rfl
                have hcz67_1 : w53.cell? ⟨gb294, 1, none⟩ = some (.string a0_1) := (zc_ BK294.out 1).trans rfl
                have hcz67_2 : w53.cell? ⟨gb294, 2, none⟩ = some (.int .i64 a0_2) := (zc_ BK294.out 2).trans rfl
                have hcz67_3 : w53.cell? ⟨gb294, 3, none⟩ = some (.int .i64 a0_3) := (zc_ BK294.out 3).trans rfl
                have hcz67_4 : w53.cell? ⟨gb294, 4, none⟩ = some (.int .i64 a0_4) := (zc_ BK294.out 4).trans rfl
                have hcz67_5 : w53.cell? ⟨gb294, 5, none⟩ = some (.int .i64 a0_5) := (zc_ BK294.out 5).trans rfl
                have hcz67_6 : w53.cell? ⟨gb294, 6, none⟩ = some (.bool a0_6) := (zc_ BK294.out 6).trans rfl
                have hcz67_7 : w53.cell? ⟨gb294, 7, none⟩ = some (.int .i64 a0_7) := (zc_ BK294.out 7).trans rfl
                have hcz67_8 : w53.cell? ⟨gb294, 8, none⟩ = some (.int .i64 a0_8) := (zc_ BK294.out 8).trans rfl
                have hfz67_0 := zf_ BK294.out 0
                have hfz67_1 := zf_ BK294.out 1
                have hfz67_2 := zf_ BK294.out 2
                have hfz67_3 := zf_ BK294.out 3
                have hfz67_4 := zf_ BK294.out 4
                have hfz67_5 := zf_ BK294.out 5
                have hfz67_6 := zf_ BK294.out 6
                have hfz67_7 := zf_ BK294.out 7
                have hfz67_8 := zf_ BK294.out 8
                go_wp2
                go_meet
                case rel => exact ⟨_, (true), (by first | rfl | (simp; done) | (simp [*]; done)), H', ⟨by have := HJ4.out; have := HJ14.out; first | omega | exact Nat.le_refl _⟩, ⟨by (repeat (first | (with_reducible first | apply zn_ | apply zd_ | apply za_) | refine zr_ ?_ NB294_338.out _)); (with_reducible repeat (first | apply zn_ | apply zd_ | apply za_)); exact BK294.out⟩, ⟨by (repeat (first | (with_reducible first | apply zn_ | apply zd_ | apply za_) | refine zr_ ?_ NB310_338.out _)); (with_reducible repeat (first | apply zn_ | apply zd_ | apply za_)); exact BK310.out⟩, ⟨by (repeat (first | (with_reducible first | apply zn_ | apply zd_ | apply za_) | refine zr_ ?_ NB322_338.out _)); (with_reducible repeat (first | apply zn_ | apply zd_ | apply za_)); exact BK322.out⟩, ⟨by (with_reducible repeat (first | apply zn_ | apply zd_ | apply za_)); refine zp_ (cs := #[.int .i64 t327, .string t328, .int .i64 t329, .int .i64 t330, .int .i64 t331, .int .i64 t332, .bool t333, .int .i64 t334, .int .i64 0]) ?_ 8 _ rfl; (with_reducible repeat (first | apply zn_ | apply zd_ | apply za_)); refine zp_ (cs := #[.int .i64 t327, .string t328, .int .i64 t329, .int .i64 t330, .int .i64 t331, .int .i64 t332, .bool t333, .int .i64 0, .int .i64 0]) ?_ 7 _ rfl; (with_reducible repeat (first | apply zn_ | apply zd_ | apply za_)); refine zp_ (cs := #[.int .i64 t327, .string t328, .int .i64 t329, .int .i64 t330, .int .i64 t331, .int .i64 t332, .bool false, .int .i64 0, .int .i64 0]) ?_ 6 _ rfl; (with_reducible repeat (first | apply zn_ | apply zd_ | apply za_)); refine zp_ (cs := #[.int .i64 t327, .string t328, .int .i64 t329, .int .i64 t330, .int .i64 t331, .int .i64 0, .bool false, .int .i64 0, .int .i64 0]) ?_ 5 _ rfl; (with_reducible repeat (first | apply zn_ | apply zd_ | apply za_)); refine zp_ (cs := #[.int .i64 t327, .string t328, .int .i64 t329, .int .i64 t330, .int .i64 0, .int .i64 0, .bool false, .int .i64 0, .int .i64 0]) ?_ 4 _ rfl; (with_reducible repeat (first | apply zn_ | apply zd_ | apply za_)); refine zp_ (cs := #[.int .i64 t327, .string t328, .int .i64 t329, .int .i64 0, .int .i64 0, .int .i64 0, .bool false, .int .i64 0, .int .i64 0]) ?_ 3 _ rfl; (with_reducible repeat (first | apply zn_ | apply zd_ | apply za_)); refine zp_ (cs := #[.int .i64 t327, .string t328, .int .i64 0, .int .i64 0, .int .i64 0, .int .i64 0, .bool false, .int .i64 0, .int .i64 0]) ?_ 2 _ rfl; (with_reducible repeat (first | apply zn_ | apply zd_ | apply za_)); refine zp_ (cs := #[.int .i64 t327, .string ⟨#[]⟩, .int .i64 0, .int .i64 0, .int .i64 0, .int .i64 0, .bool false, .int .i64 0, .int .i64 0]) ?_ 1 _ rfl; (with_reducible repeat (first | apply zn_ | apply zd_ | apply za_)); refine zp_ (cs := #[.int .i64 0, .string ⟨#[]⟩, .int .i64 0, .int .i64 0, .int .i64 0, .int .i64 0, .bool false, .int .i64 0, .int .i64 0]) ?_ 0 _ rfl; (with_reducible repeat (first | apply zn_ | apply zd_ | apply za_)); exact BK338.out⟩, ⟨by repeat (first | (with_reducible first | exact HB.out | apply pa_ | apply pd_ | apply p1_ | refine zs_ ?_ GE294.out | refine zs_ ?_ GE310.out | refine zs_ ?_ GE322.out | refine zs_ ?_ GE338.out) | exact HB.out)⟩⟩
              rw [if_neg c63] at H
              have c63b0 : decide (a0_2 < 0) = false := decide_eq_false c63
              clear c63
              by_cases c68 : a0_3 < 0
              · rw [if_pos c68] at H
                have c68b0 : decide (a0_3 < 0) = true := decide_eq_true c68
                clear c68
                have H' := ak_ H
                clear H
                have hnb69 := NB294_310.out
                have hnc69 := NB310_294.out
                have hnb70 := NB294_322.out
                have hnc70 := NB322_294.out
                have hnb71 := NB294_338.out
                have hnc71 := NB338_294.out
                have hcz72_0 : w53.cell? ⟨gb294, 0, none⟩ = some (.int .i64 a0_0) := (zc_ BK294.out 0).trans rfl
                have hcz72_1 : w53.cell? ⟨gb294, 1, none⟩ = some (.string a0_1) := (zc_ BK294.out 1).trans rfl
                have hcz72_2 : w53.cell? ⟨gb294, 2, none⟩ = some (.int .i64 a0_2) := (zc_ BK294.out 2).trans rfl
                have hcz72_3 : w53.cell? ⟨gb294, 3, none⟩ = some (.int .i64 a0_3) := (zc_ BK294.out 3).trans rfl
                have hcz72_4 : w53.cell? ⟨gb294, 4, none⟩ = some (.int .i64 a0_4) := (zc_ BK294.out 4).trans rfl
                have hcz72_5 : w53.cell? ⟨gb294, 5, none⟩ = some (.int .i64 a0_5) := (zc_ BK294.out 5).trans rfl
                have hcz72_6 : w53.cell? ⟨gb294, 6, none⟩ = some (.bool a0_6) := (zc_ BK294.out 6).trans rfl
                have hcz72_7 : w53.cell? ⟨gb294, 7, none⟩ = some (.int .i64 a0_7) := (zc_ BK294.out 7).trans rfl
                have hcz72_8 : w53.cell? ⟨gb294, 8, none⟩ = some (.int .i64 a0_8) := (zc_ BK294.out 8).trans rfl
                have hfz72_0 := zf_ BK294.out 0
                have hfz72_1 := zf_ BK294.out 1
                have hfz72_2 := zf_ BK294.out 2
                have hfz72_3 := zf_ BK294.out 3
                have hfz72_4 := zf_ BK294.out 4
                have hfz72_5 := zf_ BK294.out 5
                have hfz72_6 := zf_ BK294.out 6
                have hfz72_7 := zf_ BK294.out 7
                have hfz72_8 := zf_ BK294.out 8
                go_wp2
                go_meet
                case rel => exact ⟨_, (true), (by first | rfl | (simp; done) | (simp [*]; done)), H', ⟨by have := HJ4.out; have := HJ14.out; first | omega | exact Nat.le_refl _⟩, ⟨by (repeat (first | (with_reducible first | apply zn_ | apply zd_ | apply za_) | refine zr_ ?_ NB294_338.out _)); (with_reducible repeat (first | apply zn_ | apply zd_ | apply za_)); exact BK294.out⟩, ⟨by (repeat (first | (with_reducible first | apply zn_ | apply zd_ | apply za_) | refine zr_ ?_ NB310_338.out _)); (with_reducible repeat (first | apply zn_ | apply zd_ | apply za_)); exact BK310.out⟩, ⟨by (repeat (first | (with_reducible first | apply zn_ | apply zd_ | apply za_) | refine zr_ ?_ NB322_338.out _)); (with_reducible repeat (first | apply zn_ | apply zd_ | apply za_)); exact BK322.out⟩, ⟨by (with_reducible repeat (first | apply zn_ | apply zd_ | apply za_)); refine zp_ (cs := #[.int .i64 t327, .string t328, .int .i64 t329, .int .i64 t330, .int .i64 t331, .int .i64 t332, .bool t333, .int .i64 t334, .int .i64 0]) ?_ 8 _ rfl; (with_reducible repeat (first | apply zn_ | apply zd_ | apply za_)); refine zp_ (cs := #[.int .i64 t327, .string t328, .int .i64 t329, .int .i64 t330, .int .i64 t331, .int .i64 t332, .bool t333, .int .i64 0, .int .i64 0]) ?_ 7 _ rfl; (with_reducible repeat (first | apply zn_ | apply zd_ | apply za_)); refine zp_ (cs := #[.int .i64 t327, .string t328, .int .i64 t329, .int .i64 t330, .int .i64 t331, .int .i64 t332, .bool false, .int .i64 0, .int .i64 0]) ?_ 6 _ rfl; (with_reducible repeat (first | apply zn_ | apply zd_ | apply za_)); refine zp_ (cs := #[.int .i64 t327, .string t328, .int .i64 t329, .int .i64 t330, .int .i64 t331, .int .i64 0, .bool false, .int .i64 0, .int .i64 0]) ?_ 5 _ rfl; (with_reducible repeat (first | apply zn_ | apply zd_ | apply za_)); refine zp_ (cs := #[.int .i64 t327, .string t328, .int .i64 t329, .int .i64 t330, .int .i64 0, .int .i64 0, .bool false, .int .i64 0, .int .i64 0]) ?_ 4 _ rfl; (with_reducible repeat (first | apply zn_ | apply zd_ | apply za_)); refine zp_ (cs := #[.int .i64 t327, .string t328, .int .i64 t329, .int .i64 0, .int .i64 0, .int .i64 0, .bool false, .int .i64 0, .int .i64 0]) ?_ 3 _ rfl; (with_reducible repeat (first | apply zn_ | apply zd_ | apply za_)); refine zp_ (cs := #[.int .i64 t327, .string t328, .int .i64 0, .int .i64 0, .int .i64 0, .int .i64 0, .bool false, .int .i64 0, .int .i64 0]) ?_ 2 _ rfl; (with_reducible repeat (first | apply zn_ | apply zd_ | apply za_)); refine zp_ (cs := #[.int .i64 t327, .string ⟨#[]⟩, .int .i64 0, .int .i64 0, .int .i64 0, .int .i64 0, .bool false, .int .i64 0, .int .i64 0]) ?_ 1 _ rfl; (with_reducible repeat (first | apply zn_ | apply zd_ | apply za_)); refine zp_ (cs := #[.int .i64 0, .string ⟨#[]⟩, .int .i64 0, .int .i64 0, .int .i64 0, .int .i64 0, .bool false, .int .i64 0, .int .i64 0]) ?_ 0 _ rfl; (with_reducible repeat (first | apply zn_ | apply zd_ | apply za_)); exact BK338.out⟩, ⟨by repeat (first | (with_reducible first | exact HB.out | apply pa_ | apply pd_ | apply p1_ | refine zs_ ?_ GE294.out | refine zs_ ?_ GE310.out | refine zs_ ?_ GE322.out | refine zs_ ?_ GE338.out) | exact HB.out)⟩⟩
              rw [if_neg c68] at H
              have c68b0 : decide (a0_3 < 0) = false := decide_eq_false c68
              clear c68
              by_cases c73 : a0_4 < 0
              · rw [if_pos c73] at H
                have c73b0 : decide (a0_4 < 0) = true := decide_eq_true c73
                clear c73
                have H' := ak_ H
                clear H
                have hnb74 := NB294_310.out
                have hnc74 := NB310_294.out
                have hnb75 := NB294_322.out
                have hnc75 := NB322_294.out
                have hnb76 := NB294_338.out
                have hnc76 := NB338_294.out
                have hcz77_0 : w53.cell? ⟨gb294, 0, none⟩ = some (.int .i64 a0_0) := (zc_ BK294.out 0).trans rfl
                have hcz77_1 : w53.cell? ⟨gb294, 1, none⟩ = some (.string a0_1) := (zc_ BK294.out 1).trans rfl
                have hcz77_2 : w53.cell? ⟨gb294, 2, none⟩ = some (.int .i64 a0_2) := (zc_ BK294.out 2).trans rfl
                have hcz77_3 : w53.cell? ⟨gb294, 3, none⟩ = some (.int .i64 a0_3) := (zc_ BK294.out 3).trans rfl
                have hcz77_4 : w53.cell? ⟨gb294, 4, none⟩ = some (.int .i64 a0_4) := (zc_ BK294.out 4).trans rfl
                have hcz77_5 : w53.cell? ⟨gb294, 5, none⟩ = some (.int .i64 a0_5) := (zc_ BK294.out 5).trans rfl
                have hcz77_6 : w53.cell? ⟨gb294, 6, none⟩ = some (.bool a0_6) := (zc_ BK294.out 6).trans rfl
                have hcz77_7 : w53.cell? ⟨gb294, 7, none⟩ = some (.int .i64 a0_7) := (zc_ BK294.out 7).trans rfl
                have hcz77_8 : w53.cell? ⟨gb294, 8, none⟩ = some (.int .i64 a0_8) := (zc_ BK294.out 8).trans rfl
                have hfz77_0 := zf_ BK294.out 0
                have hfz77_1 := zf_ BK294.out 1
                have hfz77_2 := zf_ BK294.out 2
                have hfz77_3 := zf_ BK294.out 3
                have hfz77_4 := zf_ BK294.out 4
                have hfz77_5 := zf_ BK294.out 5
                have hfz77_6 := zf_ BK294.out 6
                have hfz77_7 := zf_ BK294.out 7
                have hfz77_8 := zf_ BK294.out 8
                go_wp2
                go_meet
                case rel => exact ⟨_, (true), (by first | rfl | (simp; done) | (simp [*]; done)), H', ⟨by have := HJ4.out; have := HJ14.out; first | omega | exact Nat.le_refl _⟩, ⟨by (repeat (first | (with_reducible first | apply zn_ | apply zd_ | apply za_) | refine zr_ ?_ NB294_338.out _)); (with_reducible repeat (first | apply zn_ | apply zd_ | apply za_)); exact BK294.out⟩, ⟨by (repeat (first | (with_reducible first | apply zn_ | apply zd_ | apply za_) | refine zr_ ?_ NB310_338.out _)); (with_reducible repeat (first | apply zn_ | apply zd_ | apply za_)); exact BK310.out⟩, ⟨by (repeat (first | (with_reducible first | apply zn_ | apply zd_ | apply za_) | refine zr_ ?_ NB322_338.out _)); (with_reducible repeat (first | apply zn_ | apply zd_ | apply za_)); exact BK322.out⟩, ⟨by (with_reducible repeat (first | apply zn_ | apply zd_ | apply za_)); refine zp_ (cs := #[.int .i64 t327, .string t328, .int .i64 t329, .int .i64 t330, .int .i64 t331, .int .i64 t332, .bool t333, .int .i64 t334, .int .i64 0]) ?_ 8 _ rfl; (with_reducible repeat (first | apply zn_ | apply zd_ | apply za_)); refine zp_ (cs := #[.int .i64 t327, .string t328, .int .i64 t329, .int .i64 t330, .int .i64 t331, .int .i64 t332, .bool t333, .int .i64 0, .int .i64 0]) ?_ 7 _ rfl; (with_reducible repeat (first | apply zn_ | apply zd_ | apply za_)); refine zp_ (cs := #[.int .i64 t327, .string t328, .int .i64 t329, .int .i64 t330, .int .i64 t331, .int .i64 t332, .bool false, .int .i64 0, .int .i64 0]) ?_ 6 _ rfl; (with_reducible repeat (first | apply zn_ | apply zd_ | apply za_)); refine zp_ (cs := #[.int .i64 t327, .string t328, .int .i64 t329, .int .i64 t330, .int .i64 t331, .int .i64 0, .bool false, .int .i64 0, .int .i64 0]) ?_ 5 _ rfl; (with_reducible repeat (first | apply zn_ | apply zd_ | apply za_)); refine zp_ (cs := #[.int .i64 t327, .string t328, .int .i64 t329, .int .i64 t330, .int .i64 0, .int .i64 0, .bool false, .int .i64 0, .int .i64 0]) ?_ 4 _ rfl; (with_reducible repeat (first | apply zn_ | apply zd_ | apply za_)); refine zp_ (cs := #[.int .i64 t327, .string t328, .int .i64 t329, .int .i64 0, .int .i64 0, .int .i64 0, .bool false, .int .i64 0, .int .i64 0]) ?_ 3 _ rfl; (with_reducible repeat (first | apply zn_ | apply zd_ | apply za_)); refine zp_ (cs := #[.int .i64 t327, .string t328, .int .i64 0, .int .i64 0, .int .i64 0, .int .i64 0, .bool false, .int .i64 0, .int .i64 0]) ?_ 2 _ rfl; (with_reducible repeat (first | apply zn_ | apply zd_ | apply za_)); refine zp_ (cs := #[.int .i64 t327, .string ⟨#[]⟩, .int .i64 0, .int .i64 0, .int .i64 0, .int .i64 0, .bool false, .int .i64 0, .int .i64 0]) ?_ 1 _ rfl; (with_reducible repeat (first | apply zn_ | apply zd_ | apply za_)); refine zp_ (cs := #[.int .i64 0, .string ⟨#[]⟩, .int .i64 0, .int .i64 0, .int .i64 0, .int .i64 0, .bool false, .int .i64 0, .int .i64 0]) ?_ 0 _ rfl; (with_reducible repeat (first | apply zn_ | apply zd_ | apply za_)); exact BK338.out⟩, ⟨by repeat (first | (with_reducible first | exact HB.out | apply pa_ | apply pd_ | apply p1_ | refine zs_ ?_ GE294.out | refine zs_ ?_ GE310.out | refine zs_ ?_ GE322.out | refine zs_ ?_ GE338.out) | exact HB.out)⟩⟩
              rw [if_neg c73] at H
              have c73b0 : decide (a0_4 < 0) = false := decide_eq_false c73
              clear c73
              by_cases c78 : a0_5 < 0
              · rw [if_pos c78] at H
                have c78b0 : decide (a0_5 < 0) = true := decide_eq_true c78
                clear c78
                have H' := ak_ H
                clear H
                have hnb79 := NB294_310.out
                have hnc79 := NB310_294.out
                have hnb80 := NB294_322.out
                have hnc80 := NB322_294.out
                have hnb81 := NB294_338.out
                have hnc81 := NB338_294.out
                have hcz82_0 : w53.cell? ⟨gb294, 0, none⟩ = some (.int .i64 a0_0) := (zc_ BK294.out 0).trans rfl
                have hcz82_1 : w53.cell? ⟨gb294, 1, none⟩ = some (.string a0_1) := (zc_ BK294.out 1).trans rfl
                have hcz82_2 : w53.cell? ⟨gb294, 2, none⟩ = some (.int .i64 a0_2) := (zc_ BK294.out 2).trans rfl
                have hcz82_3 : w53.cell? ⟨gb294, 3, none⟩ = some (.int .i64 a0_3) := (zc_ BK294.out 3).trans rfl
                have hcz82_4 : w53.cell? ⟨gb294, 4, none⟩ = some (.int .i64 a0_4) := (zc_ BK294.out 4).trans rfl
                have hcz82_5 : w53.cell? ⟨gb294, 5, none⟩ = some (.int .i64 a0_5) := (zc_ BK294.out 5).trans rfl
                have hcz82_6 : w53.cell? ⟨gb294, 6, none⟩ = some (.bool a0_6) := (zc_ BK294.out 6).trans rfl
                have hcz82_7 : w53.cell? ⟨gb294, 7, none⟩ = some (.int .i64 a0_7) := (zc_ BK294.out 7).trans rfl
                have hcz82_8 : w53.cell? ⟨gb294, 8, none⟩ = some (.int .i64 a0_8) := (zc_ BK294.out 8).trans rfl
                have hfz82_0 := zf_ BK294.out 0
                have hfz82_1 := zf_ BK294.out 1
                have hfz82_2 := zf_ BK294.out 2
                have hfz82_3 := zf_ BK294.out 3
                have hfz82_4 := zf_ BK294.out 4
                have hfz82_5 := zf_ BK294.out 5
                have hfz82_6 := zf_ BK294.out 6
                have hfz82_7 := zf_ BK294.out 7
                have hfz82_8 := zf_ BK294.out 8
                go_wp2
                go_meet
                case rel => exact ⟨_, (true), (by first | rfl | (simp; done) | (simp [*]; done)), H', ⟨by have := HJ4.out; have := HJ14.out; first | omega | exact Nat.le_refl _⟩, ⟨by (repeat (first | (with_reducible first | apply zn_ | apply zd_ | apply za_) | refine zr_ ?_ NB294_338.out _)); (with_reducible repeat (first | apply zn_ | apply zd_ | apply za_)); exact BK294.out⟩, ⟨by (repeat (first | (with_reducible first | apply zn_ | apply zd_ | apply za_) | refine zr_ ?_ NB310_338.out _)); (with_reducible repeat (first | apply zn_ | apply zd_ | apply za_)); exact BK310.out⟩, ⟨by (repeat (first | (with_reducible first | apply zn_ | apply zd_ | apply za_) | refine zr_ ?_ NB322_338.out _)); (with_reducible repeat (first | apply zn_ | apply zd_ | apply za_)); exact BK322.out⟩, ⟨by (with_reducible repeat (first | apply zn_ | apply zd_ | apply za_)); refine zp_ (cs := #[.int .i64 t327, .string t328, .int .i64 t329, .int .i64 t330, .int .i64 t331, .int .i64 t332, .bool t333, .int .i64 t334, .int .i64 0]) ?_ 8 _ rfl; (with_reducible repeat (first | apply zn_ | apply zd_ | apply za_)); refine zp_ (cs := #[.int .i64 t327, .string t328, .int .i64 t329, .int .i64 t330, .int .i64 t331, .int .i64 t332, .bool t333, .int .i64 0, .int .i64 0]) ?_ 7 _ rfl; (with_reducible repeat (first | apply zn_ | apply zd_ | apply za_)); refine zp_ (cs := #[.int .i64 t327, .string t328, .int .i64 t329, .int .i64 t330, .int .i64 t331, .int .i64 t332, .bool false, .int .i64 0, .int .i64 0]) ?_ 6 _ rfl; (with_reducible repeat (first | apply zn_ | apply zd_ | apply za_)); refine zp_ (cs := #[.int .i64 t327, .string t328, .int .i64 t329, .int .i64 t330, .int .i64 t331, .int .i64 0, .bool false, .int .i64 0, .int .i64 0]) ?_ 5 _ rfl; (with_reducible repeat (first | apply zn_ | apply zd_ | apply za_)); refine zp_ (cs := #[.int .i64 t327, .string t328, .int .i64 t329, .int .i64 t330, .int .i64 0, .int .i64 0, .bool false, .int .i64 0, .int .i64 0]) ?_ 4 _ rfl; (with_reducible repeat (first | apply zn_ | apply zd_ | apply za_)); refine zp_ (cs := #[.int .i64 t327, .string t328, .int .i64 t329, .int .i64 0, .int .i64 0, .int .i64 0, .bool false, .int .i64 0, .int .i64 0]) ?_ 3 _ rfl; (with_reducible repeat (first | apply zn_ | apply zd_ | apply za_)); refine zp_ (cs := #[.int .i64 t327, .string t328, .int .i64 0, .int .i64 0, .int .i64 0, .int .i64 0, .bool false, .int .i64 0, .int .i64 0]) ?_ 2 _ rfl; (with_reducible repeat (first | apply zn_ | apply zd_ | apply za_)); refine zp_ (cs := #[.int .i64 t327, .string ⟨#[]⟩, .int .i64 0, .int .i64 0, .int .i64 0, .int .i64 0, .bool false, .int .i64 0, .int .i64 0]) ?_ 1 _ rfl; (with_reducible repeat (first | apply zn_ | apply zd_ | apply za_)); refine zp_ (cs := #[.int .i64 0, .string ⟨#[]⟩, .int .i64 0, .int .i64 0, .int .i64 0, .int .i64 0, .bool false, .int .i64 0, .int .i64 0]) ?_ 0 _ rfl; (with_reducible repeat (first | apply zn_ | apply zd_ | apply za_)); exact BK338.out⟩, ⟨by repeat (first | (with_reducible first | exact HB.out | apply pa_ | apply pd_ | apply p1_ | refine zs_ ?_ GE294.out | refine zs_ ?_ GE310.out | refine zs_ ?_ GE322.out | refine zs_ ?_ GE338.out) | exact HB.out)⟩⟩
              rw [if_neg c78] at H
              have c78b0 : decide (a0_5 < 0) = false := decide_eq_false c78
              clear c78
              by_cases c83 : a0_7 < 0
              · rw [if_pos c83] at H
                have c83b0 : decide (a0_7 < 0) = true := decide_eq_true c83
                clear c83
                have H' := ak_ H
                clear H
                have hnb84 := NB294_310.out
                have hnc84 := NB310_294.out
                have hnb85 := NB294_322.out
                have hnc85 := NB322_294.out
                have hnb86 := NB294_338.out
                have hnc86 := NB338_294.out
                have hcz87_0 : w53.cell? ⟨gb294, 0, none⟩ = some (.int .i64 a0_0) := (zc_ BK294.out 0).trans rfl
                have hcz87_1 : w53.cell? ⟨gb294, 1, none⟩ = some (.string a0_1) := (zc_ BK294.out 1).trans rfl
                have hcz87_2 : w53.cell? ⟨gb294, 2, none⟩ = some (.int .i64 a0_2) := (zc_ BK294.out 2).trans rfl
                have hcz87_3 : w53.cell? ⟨gb294, 3, none⟩ = some (.int .i64 a0_3) := (zc_ BK294.out 3).trans rfl
                have hcz87_4 : w53.cell? ⟨gb294, 4, none⟩ = some (.int .i64 a0_4) := (zc_ BK294.out 4).trans rfl
                have hcz87_5 : w53.cell? ⟨gb294, 5, none⟩ = some (.int .i64 a0_5) := (zc_ BK294.out 5).trans rfl
                have hcz87_6 : w53.cell? ⟨gb294, 6, none⟩ = some (.bool a0_6) := (zc_ BK294.out 6).trans rfl
                have hcz87_7 : w53.cell? ⟨gb294, 7, none⟩ = some (.int .i64 a0_7) := (zc_ BK294.out 7).trans rfl
                have hcz87_8 : w53.cell? ⟨gb294, 8, none⟩ = some (.int .i64 a0_8) := (zc_ BK294.out 8).trans rfl
                have hfz87_0 := zf_ BK294.out 0
                have hfz87_1 := zf_ BK294.out 1
                have hfz87_2 := zf_ BK294.out 2
                have hfz87_3 := zf_ BK294.out 3
                have hfz87_4 := zf_ BK294.out 4
                have hfz87_5 := zf_ BK294.out 5
                have hfz87_6 := zf_ BK294.out 6
                have hfz87_7 := zf_ BK294.out 7
                have hfz87_8 := zf_ BK294.out 8
                go_wp2
                go_meet
                case rel => exact ⟨_, (true), (by first | rfl | (simp; done) | (simp [*]; done)), H', ⟨by have := HJ4.out; have := HJ14.out; first | omega | exact Nat.le_refl _⟩, ⟨by (repeat (first | (with_reducible first | apply zn_ | apply zd_ | apply za_) | refine zr_ ?_ NB294_338.out _)); (with_reducible repeat (first | apply zn_ | apply zd_ | apply za_)); exact BK294.out⟩, ⟨by (repeat (first | (with_reducible first | apply zn_ | apply zd_ | apply za_) | refine zr_ ?_ NB310_338.out _)); (with_reducible repeat (first | apply zn_ | apply zd_ | apply za_)); exact BK310.out⟩, ⟨by (repeat (first | (with_reducible first | apply zn_ | apply zd_ | apply za_) | refine zr_ ?_ NB322_338.out _)); (with_reducible repeat (first | apply zn_ | apply zd_ | apply za_)); exact BK322.out⟩, ⟨by (with_reducible repeat (first | apply zn_ | apply zd_ | apply za_)); refine zp_ (cs := #[.int .i64 t327, .string t328, .int .i64 t329, .int .i64 t330, .int .i64 t331, .int .i64 t332, .bool t333, .int .i64 t334, .int .i64 0]) ?_ 8 _ rfl; (with_reducible repeat (first | apply zn_ | apply zd_ | apply za_)); refine zp_ (cs := #[.int .i64 t327, .string t328, .int .i64 t329, .int .i64 t330, .int .i64 t331, .int .i64 t332, .bool t333, .int .i64 0, .int .i64 0]) ?_ 7 _ rfl; (with_reducible repeat (first | apply zn_ | apply zd_ | apply za_)); refine zp_ (cs := #[.int .i64 t327, .string t328, .int .i64 t329, .int .i64 t330, .int .i64 t331, .int .i64 t332, .bool false, .int .i64 0, .int .i64 0]) ?_ 6 _ rfl; (with_reducible repeat (first | apply zn_ | apply zd_ | apply za_)); refine zp_ (cs := #[.int .i64 t327, .string t328, .int .i64 t329, .int .i64 t330, .int .i64 t331, .int .i64 0, .bool false, .int .i64 0, .int .i64 0]) ?_ 5 _ rfl; (with_reducible repeat (first | apply zn_ | apply zd_ | apply za_)); refine zp_ (cs := #[.int .i64 t327, .string t328, .int .i64 t329, .int .i64 t330, .int .i64 0, .int .i64 0, .bool false, .int .i64 0, .int .i64 0]) ?_ 4 _ rfl; (with_reducible repeat (first | apply zn_ | apply zd_ | apply za_)); refine zp_ (cs := #[.int .i64 t327, .string t328, .int .i64 t329, .int .i64 0, .int .i64 0, .int .i64 0, .bool false, .int .i64 0, .int .i64 0]) ?_ 3 _ rfl; (with_reducible repeat (first | apply zn_ | apply zd_ | apply za_)); refine zp_ (cs := #[.int .i64 t327, .string t328, .int .i64 0, .int .i64 0, .int .i64 0, .int .i64 0, .bool false, .int .i64 0, .int .i64 0]) ?_ 2 _ rfl; (with_reducible repeat (first | apply zn_ | apply zd_ | apply za_)); refine zp_ (cs := #[.int .i64 t327, .string ⟨#[]⟩, .int .i64 0, .int .i64 0, .int .i64 0, .int .i64 0, .bool false, .int .i64 0, .int .i64 0]) ?_ 1 _ rfl; (with_reducible repeat (first | apply zn_ | apply zd_ | apply za_)); refine zp_ (cs := #[.int .i64 0, .string ⟨#[]⟩, .int .i64 0, .int .i64 0, .int .i64 0, .int .i64 0, .bool false, .int .i64 0, .int .i64 0]) ?_ 0 _ rfl; (with_reducible repeat (first | apply zn_ | apply zd_ | apply za_)); exact BK338.out⟩, ⟨by repeat (first | (with_reducible first | exact HB.out | apply pa_ | apply pd_ | apply p1_ | refine zs_ ?_ GE294.out | refine zs_ ?_ GE310.out | refine zs_ ?_ GE322.out | refine zs_ ?_ GE338.out) | exact HB.out)⟩⟩
              rw [if_neg c83] at H
              have c83b0 : decide (a0_7 < 0) = false := decide_eq_false c83
              clear c83
              have H' := ak_ H
              clear H
              have hnb88 := NB294_310.out
              have hnc88 := NB310_294.out
              have hnb89 := NB294_322.out
              have hnc89 := NB322_294.out
              have hnb90 := NB294_338.out
              have hnc90 := NB338_294.out
              have hcz91_0 : w53.cell? ⟨gb294, 0, none⟩ = some (.int .i64 a0_0) := (zc_ BK294.out 0).trans rfl
              have hcz91_1 : w53.cell? ⟨gb294, 1, none⟩ = some (.string a0_1) := (zc_ BK294.out 1).trans rfl
              have hcz91_2 : w53.cell? ⟨gb294, 2, none⟩ = some (.int .i64 a0_2) := (zc_ BK294.out 2).trans rfl
              have hcz91_3 : w53.cell? ⟨gb294, 3, none⟩ = some (.int .i64 a0_3) := (zc_ BK294.out 3).trans rfl
              have hcz91_4 : w53.cell? ⟨gb294, 4, none⟩ = some (.int .i64 a0_4) := (zc_ BK294.out 4).trans rfl
              have hcz91_5 : w53.cell? ⟨gb294, 5, none⟩ = some (.int .i64 a0_5) := (zc_ BK294.out 5).trans rfl
              have hcz91_6 : w53.cell? ⟨gb294, 6, none⟩ = some (.bool a0_6) := (zc_ BK294.out 6).trans rfl
              have hcz91_7 : w53.cell? ⟨gb294, 7, none⟩ = some (.int .i64 a0_7) := (zc_ BK294.out 7).trans rfl
              have hcz91_8 : w53.cell? ⟨gb294, 8, none⟩ = some (.int .i64 a0_8) := (zc_ BK294.out 8).trans rfl
              have hfz91_0 := zf_ BK294.out 0
              have hfz91_1 := zf_ BK294.out 1
              have hfz91_2 := zf_ BK294.out 2
              have hfz91_3 := zf_ BK294.out 3
              have hfz91_4 := zf_ BK294.out 4
              have hfz91_5 := zf_ BK294.out 5
              have hfz91_6 := zf_ BK294.out 6
              have hfz91_7 := zf_ BK294.out 7
              have hfz91_8 := zf_ BK294.out 8
              go_wp2
              go_meet
              case rel => exact ⟨_, (decide (a0_8 < 0)), (by first | rfl | (simp; done) | (simp [*]; done)), H', ⟨by have := HJ4.out; have := HJ14.out; first | omega | exact Nat.le_refl _⟩, ⟨by (repeat (first | (with_reducible first | apply zn_ | apply zd_ | apply za_) | refine zr_ ?_ NB294_338.out _)); (with_reducible repeat (first | apply zn_ | apply zd_ | apply za_)); exact BK294.out⟩, ⟨by (repeat (first | (with_reducible first | apply zn_ | apply zd_ | apply za_) | refine zr_ ?_ NB310_338.out _)); (with_reducible repeat (first | apply zn_ | apply zd_ | apply za_)); exact BK310.out⟩, ⟨by (repeat (first | (with_reducible first | apply zn_ | apply zd_ | apply za_) | refine zr_ ?_ NB322_338.out _)); (with_reducible repeat (first | apply zn_ | apply zd_ | apply za_)); exact BK322.out⟩, ⟨by (with_reducible repeat (first | apply zn_ | apply zd_ | apply za_)); refine zp_ (cs := #[.int .i64 t327, .string t328, .int .i64 t329, .int .i64 t330, .int .i64 t331, .int .i64 t332, .bool t333, .int .i64 t334, .int .i64 0]) ?_ 8 _ rfl; (with_reducible repeat (first | apply zn_ | apply zd_ | apply za_)); refine zp_ (cs := #[.int .i64 t327, .string t328, .int .i64 t329, .int .i64 t330, .int .i64 t331, .int .i64 t332, .bool t333, .int .i64 0, .int .i64 0]) ?_ 7 _ rfl; (with_reducible repeat (first | apply zn_ | apply zd_ | apply za_)); refine zp_ (cs := #[.int .i64 t327, .string t328, .int .i64 t329, .int .i64 t330, .int .i64 t331, .int .i64 t332, .bool false, .int .i64 0, .int .i64 0]) ?_ 6 _ rfl; (with_reducible repeat (first | apply zn_ | apply zd_ | apply za_)); refine zp_ (cs := #[.int .i64 t327, .string t328, .int .i64 t329, .int .i64 t330, .int .i64 t331, .int .i64 0, .bool false, .int .i64 0, .int .i64 0]) ?_ 5 _ rfl; (with_reducible repeat (first | apply zn_ | apply zd_ | apply za_)); refine zp_ (cs := #[.int .i64 t327, .string t328, .int .i64 t329, .int .i64 t330, .int .i64 0, .int .i64 0, .bool false, .int .i64 0, .int .i64 0]) ?_ 4 _ rfl; (with_reducible repeat (first | apply zn_ | apply zd_ | apply za_)); refine zp_ (cs := #[.int .i64 t327, .string t328, .int .i64 t329, .int .i64 0, .int .i64 0, .int .i64 0, .bool false, .int .i64 0, .int .i64 0]) ?_ 3 _ rfl; (with_reducible repeat (first | apply zn_ | apply zd_ | apply za_)); refine zp_ (cs := #[.int .i64 t327, .string t328, .int .i64 0, .int .i64 0, .int .i64 0, .int .i64 0, .bool false, .int .i64 0, .int .i64 0]) ?_ 2 _ rfl; (with_reducible repeat (first | apply zn_ | apply zd_ | apply za_)); refine zp_ (cs := #[.int .i64 t327, .string ⟨#[]⟩, .int .i64 0, .int .i64 0, .int .i64 0, .int .i64 0, .bool false, .int .i64 0, .int .i64 0]) ?_ 1 _ rfl; (with_reducible repeat (first | apply zn_ | apply zd_ | apply za_)); refine zp_ (cs := #[.int .i64 0, .string ⟨#[]⟩, .int .i64 0, .int .i64 0, .int .i64 0, .int .i64 0, .bool false, .int .i64 0, .int .i64 0]) ?_ 0 _ rfl; (with_reducible repeat (first | apply zn_ | apply zd_ | apply za_)); exact BK338.out⟩, ⟨by repeat (first | (with_reducible first | exact HB.out | apply pa_ | apply pd_ | apply p1_ | refine zs_ ?_ GE294.out | refine zs_ ?_ GE310.out | refine zs_ ?_ GE322.out | refine zs_ ?_ GE338.out) | exact HB.out)⟩⟩
            case rest =>
              clear HC50
              try clear c1
              try clear c2
              try clear p2
              try clear c3
              try clear c4
              try clear hcv4
              try clear c5
              try clear c6
              try clear c7
              try clear c8
              try clear c9
              try clear c29
              try clear c29b0
              try clear c29b1
              try clear c31
              try clear c31b0
              try clear c31b1
              try clear c32
              try clear c32b0
              try clear c32b1
              try clear c33
              try clear c33b0
              try clear c33b1
              try clear hcv41
              try clear hcv42
              try clear hcv45
              try clear hcv46
              try clear c48
              try clear c54
              try clear c55
              try clear c56
              try clear c58
              try clear c58b0
              try clear c59
              try clear c60
              try clear c61
              try clear c63
              try clear c63b0
              try clear c64
              try clear c65
              try clear c66
              try clear c68
              try clear c68b0
              try clear c69
              try clear c70
              try clear c71
              try clear c73
              try clear c73b0
              try clear c74
              try clear c75
              try clear c76
              try clear c78
              try clear c78b0
              try clear c79
              try clear c80
              try clear c81
              try clear c83
              try clear c83b0
              try clear c84
              try clear c85
              try clear c86
              try clear c88
              try clear c89
              try clear c90
              try clear hcz57_0
              try clear hcz57_1
              try clear hcz57_2
              try clear hcz57_3
              try clear hcz57_4
              try clear hcz57_5
              try clear hcz57_6
              try clear hcz57_7
              try clear hcz57_8
              try clear hcz62_0
              try clear hcz62_1
              try clear hcz62_2
              try clear hcz62_3
              try clear hcz62_4
              try clear hcz62_5
              try clear hcz62_6
              try clear hcz62_7
              try clear hcz62_8
              try clear hcz67_0
              try clear hcz67_1
              try clear hcz67_2
              try clear hcz67_3
              try clear hcz67_4
              try clear hcz67_5
              try clear hcz67_6
              try clear hcz67_7
              try clear hcz67_8
              try clear hcz72_0
              try clear hcz72_1
              try clear hcz72_2
              try clear hcz72_3
              try clear hcz72_4
              try clear hcz72_5
              try clear hcz72_6
              try clear hcz72_7
              try clear hcz72_8
              try clear hcz77_0
              try clear hcz77_1
              try clear hcz77_2
              try clear hcz77_3
              try clear hcz77_4
              try clear hcz77_5
              try clear hcz77_6
              try clear hcz77_7
              try clear hcz77_8
              try clear hcz82_0
              try clear hcz82_1
              try clear hcz82_2
              try clear hcz82_3
              try clear hcz82_4
              try clear hcz82_5
              try clear hcz82_6
              try clear hcz82_7
              try clear hcz82_8
              try clear hcz87_0
              try clear hcz87_1
              try clear hcz87_2
              try clear hcz87_3
              try clear hcz87_4
              try clear hcz87_5
              try clear hcz87_6
              try clear hcz87_7
              try clear hcz87_8
              try clear hcz91_0
              try clear hcz91_1
              try clear hcz91_2
              try clear hcz91_3
              try clear hcz91_4
              try clear hcz91_5
              try clear hcz91_6
              try clear hcz91_7
              try clear hcz91_8
              try clear hfz57_0
              try clear hfz57_1
              try clear hfz57_2
              try clear hfz57_3
              try clear hfz57_4
              try clear hfz57_5
              try clear hfz57_6
              try clear hfz57_7
              try clear hfz57_8
              try clear hfz62_0
              try clear hfz62_1
              try clear hfz62_2
              try clear hfz62_3
              try clear hfz62_4
              try clear hfz62_5
              try clear hfz62_6
              try clear hfz62_7
              try clear hfz62_8
              try clear hfz67_0
              try clear hfz67_1
              try clear hfz67_2
              try clear hfz67_3
              try clear hfz67_4
              try clear hfz67_5
              try clear hfz67_6
              try clear hfz67_7
              try clear hfz67_8
              try clear hfz72_0
              try clear hfz72_1
              try clear hfz72_2
              try clear hfz72_3
              try clear hfz72_4
              try clear hfz72_5
              try clear hfz72_6
              try clear hfz72_7
              try clear hfz72_8
              try clear hfz77_0
              try clear hfz77_1
              try clear hfz77_2
              try clear hfz77_3
              try clear hfz77_4
              try clear hfz77_5
              try clear hfz77_6
              try clear hfz77_7
              try clear hfz77_8
              try clear hfz82_0
              try clear hfz82_1
              try clear hfz82_2
              try clear hfz82_3
              try clear hfz82_4
              try clear hfz82_5
              try clear hfz82_6
              try clear hfz82_7
              try clear hfz82_8
              try clear hfz87_0
              try clear hfz87_1
              try clear hfz87_2
              try clear hfz87_3
              try clear hfz87_4
              try clear hfz87_5
              try clear hfz87_6
              try clear hfz87_7
              try clear hfz87_8
              try clear hfz91_0
              try clear hfz91_1
              try clear hfz91_2
              try clear hfz91_3
              try clear hfz91_4
              try clear hfz91_5
              try clear hfz91_6
              try clear hfz91_7
              try clear hfz91_8
              try clear p2
              obtain ⟨kq, x111_49, rfl, HA, HJ49, BK294, BK310, BK322, BK338, HB⟩ := hcut
              cases kq with
              | zero => exact absurd HA.out (by simp [usufructlaw15_CodeSagas.j2])
              | succ kj49 =>
                have H := HA.out
                clear HA
                simp only [usufructlaw15_CodeSagas.j2] at H
                by_cases c92 : x111_49 = true
                · subst c92
                  have H1 : (some (t337 == 0)) = some r := by rw [if_pos rfl] at H; exact H
                  clear H
                  have H := H1
                  clear H1
                  obtain rfl := Option.some.inj H
                  go_wp2
                  go_ret
                  exact ⟨by first | rfl | (simp [errW_none, errW_some] <;> rfl) | (simp [*, errW_none, errW_some] <;> rfl), by repeat (first | (with_reducible first | exact HB.out | apply pa_ | apply pd_ | apply p1_ | refine zs_ ?_ GE294.out | refine zs_ ?_ GE310.out | refine zs_ ?_ GE322.out | refine zs_ ?_ GE338.out) | exact HB.out)⟩
                replace c92 := Bool.eq_false_iff.mpr c92
                subst c92
                have H1 : (if (mx (mx (mx (mx (mx (mx a0_0 a0_2) a0_3) a0_4) a0_5) a0_7) a0_8) > 4611686018427387904 then (some (t337 == 0)) else (if t337 = 0 then (some (t327 == a0_0 && (t328.toList == a0_1.toList && (t329 == a0_2 && (t330 == a0_3 && (t331 == a0_4 && (t332 == a0_5 && (t333 == a0_6 && (t334 == a0_7 && (t335 == a0_8)))))))))) else (some false))) = some r := by rw [if_neg (show ¬ (false = true) by decide)] at H; exact H
                clear H
                have H := H1
                clear H1
                obtain ⟨ji93, hji93⟩ : ∃ j_ : Int, (mx a0_0 a0_2) = j_ := ⟨_, rfl⟩
                replace H : (if (mx (mx (mx (mx (mx (ji93) a0_3) a0_4) a0_5) a0_7) a0_8) > 4611686018427387904 then (some (t337 == 0)) else (if t337 = 0 then (some (t327 == a0_0 && (t328.toList == a0_1.toList && (t329 == a0_2 && (t330 == a0_3 && (t331 == a0_4 && (t332 == a0_5 && (t333 == a0_6 && (t334 == a0_7 && (t335 == a0_8)))))))))) else (some false))) = some r := by first | (rw [hji93] at H; exact H) | (simp only [hji93] at H ⊢; exact H)
                have hji93_ : (if a0_0 < a0_2 then a0_2 else a0_0) = ji93 := hji93
                obtain ⟨ji94, hji94⟩ : ∃ j_ : Int, (mx (ji93) a0_3) = j_ := ⟨_, rfl⟩
                replace H : (if (mx (mx (mx (mx (ji94) a0_4) a0_5) a0_7) a0_8) > 4611686018427387904 then (some (t337 == 0)) else (if t337 = 0 then (some (t327 == a0_0 && (t328.toList == a0_1.toList && (t329 == a0_2 && (t330 == a0_3 && (t331 == a0_4 && (t332 == a0_5 && (t333 == a0_6 && (t334 == a0_7 && (t335 == a0_8)))))))))) else (some false))) = some r := by first | (rw [hji94] at H; exact H) | (simp only [hji94] at H ⊢; exact H)
                have hji94_ : (if (ji93) < a0_3 then a0_3 else (ji93)) = ji94 := hji94
                obtain ⟨ji95, hji95⟩ : ∃ j_ : Int, (mx (ji94) a0_4) = j_ := ⟨_, rfl⟩
                replace H : (if (mx (mx (mx (ji95) a0_5) a0_7) a0_8) > 4611686018427387904 then (some (t337 == 0)) else (if t337 = 0 then (some (t327 == a0_0 && (t328.toList == a0_1.toList && (t329 == a0_2 && (t330 == a0_3 && (t331 == a0_4 && (t332 == a0_5 && (t333 == a0_6 && (t334 == a0_7 && (t335 == a0_8)))))))))) else (some false))) = some r := by first | (rw [hji95] at H; exact H) | (simp only [hji95] at H ⊢; exact H)
                have hji95_ : (if (ji94) < a0_4 then a0_4 else (ji94)) = ji95 := hji95
                obtain ⟨ji96, hji96⟩ : ∃ j_ : Int, (mx (ji95) a0_5) = j_ := ⟨_, rfl⟩
                replace H : (if (mx (mx (ji96) a0_7) a0_8) > 4611686018427387904 then (some (t337 == 0)) else (if t337 = 0 then (some (t327 == a0_0 && (t328.toList == a0_1.toList && (t329 == a0_2 && (t330 == a0_3 && (t331 == a0_4 && (t332 == a0_5 && (t333 == a0_6 && (t334 == a0_7 && (t335 == a0_8)))))))))) else (some false))) = some r := by first | (rw [hji96] at H; exact H) | (simp only [hji96] at H ⊢; exact H)
                have hji96_ : (if (ji95) < a0_5 then a0_5 else (ji95)) = ji96 := hji96
                obtain ⟨ji97, hji97⟩ : ∃ j_ : Int, (mx (ji96) a0_7) = j_ := ⟨_, rfl⟩
                replace H : (if (mx (ji97) a0_8) > 4611686018427387904 then (some (t337 == 0)) else (if t337 = 0 then (some (t327 == a0_0 && (t328.toList == a0_1.toList && (t329 == a0_2 && (t330 == a0_3 && (t331 == a0_4 && (t332 == a0_5 && (t333 == a0_6 && (t334 == a0_7 && (t335 == a0_8)))))))))) else (some false))) = some r := by first | (rw [hji97] at H; exact H) | (simp only [hji97] at H ⊢; exact H)
                have hji97_ : (if (ji96) < a0_7 then a0_7 else (ji96)) = ji97 := hji97
                obtain ⟨ji98, hji98⟩ : ∃ j_ : Int, (mx (ji97) a0_8) = j_ := ⟨_, rfl⟩
                replace H : (if (ji98) > 4611686018427387904 then (some (t337 == 0)) else (if t337 = 0 then (some (t327 == a0_0 && (t328.toList == a0_1.toList && (t329 == a0_2 && (t330 == a0_3 && (t331 == a0_4 && (t332 == a0_5 && (t333 == a0_6 && (t334 == a0_7 && (t335 == a0_8)))))))))) else (some false))) = some r := by first | (rw [hji98] at H; exact H) | (simp only [hji98] at H ⊢; exact H)
                have hji98_ : (if (ji97) < a0_8 then a0_8 else (ji97)) = ji98 := hji98
                by_cases c99 : (ji98) > 4611686018427387904
                · rw [if_pos c99] at H
                  have c99b0 : decide (4611686018427387904 < (ji98)) = true := decide_eq_true c99
                  clear c99
                  obtain rfl := Option.some.inj H
                  have hnb100 := NB294_310.out
                  have hnc100 := NB310_294.out
                  have hnb101 := NB294_322.out
                  have hnc101 := NB322_294.out
                  have hnb102 := NB294_338.out
                  have hnc102 := NB338_294.out
                  have hcz103_0 : wc.cell? ⟨gb294, 0, none⟩ = some (.int .i64 a0_0) := (zc_ BK294.out 0).trans rfl
                  have hcz103_1 : wc.cell? ⟨gb294, 1, none⟩ = some (.string a0_1) := (zc_ BK294.out 1).trans rfl
                  have hcz103_2 : wc.cell? ⟨gb294, 2, none⟩ = some (.int .i64 a0_2) := (zc_ BK294.out 2).trans rfl
                  have hcz103_3 : wc.cell? ⟨gb294, 3, none⟩ = some (.int .i64 a0_3) := (zc_ BK294.out 3).trans rfl
                  have hcz103_4 : wc.cell? ⟨gb294, 4, none⟩ = some (.int .i64 a0_4) := (zc_ BK294.out 4).trans rfl
                  have hcz103_5 : wc.cell? ⟨gb294, 5, none⟩ = some (.int .i64 a0_5) := (zc_ BK294.out 5).trans rfl
                  have hcz103_6 : wc.cell? ⟨gb294, 6, none⟩ = some (.bool a0_6) := (zc_ BK294.out 6).trans rfl
                  have hcz103_7 : wc.cell? ⟨gb294, 7, none⟩ = some (.int .i64 a0_7) := (zc_ BK294.out 7).trans rfl
                  have hcz103_8 : wc.cell? ⟨gb294, 8, none⟩ = some (.int .i64 a0_8) := (zc_ BK294.out 8).trans rfl
                  have hfz103_0 := zf_ BK294.out 0
                  have hfz103_1 := zf_ BK294.out 1
                  have hfz103_2 := zf_ BK294.out 2
                  have hfz103_3 := zf_ BK294.out 3
                  have hfz103_4 := zf_ BK294.out 4
                  have hfz103_5 := zf_ BK294.out 5
                  have hfz103_6 := zf_ BK294.out 6
                  have hfz103_7 := zf_ BK294.out 7
                  have hfz103_8 := zf_ BK294.out 8
                  go_wp2
                  go_ret
                  exact ⟨by first | rfl | (simp [errW_none, errW_some] <;> rfl) | (simp only [← hji93, ← hji94, ← hji95, ← hji96, ← hji97, ← hji98]; first | rfl | (simp [errW_none, errW_some] <;> rfl)) | (simp [*, errW_none, errW_some] <;> rfl), by repeat (first | (with_reducible first | exact HB.out | apply pa_ | apply pd_ | apply p1_ | refine zs_ ?_ GE294.out | refine zs_ ?_ GE310.out | refine zs_ ?_ GE322.out | refine zs_ ?_ GE338.out) | exact HB.out)⟩
                rw [if_neg c99] at H
                have c99b0 : decide (4611686018427387904 < (ji98)) = false := decide_eq_false c99
                clear c99
                by_cases c104 : t337 = 0
                · rw [if_pos c104] at H
                  have c104b0 : (t337 == 0) = true := beq_iff_eq.mpr c104
                  have c104b1 : (t337 != 0) = false := bne_eq_false_iff_eq.mpr c104
                  clear c104
                  obtain rfl := Option.some.inj H
                  have hnb105 := NB294_310.out
                  have hnc105 := NB310_294.out
                  have hnb106 := NB294_322.out
                  have hnc106 := NB322_294.out
                  have hnb107 := NB294_338.out
                  have hnc107 := NB338_294.out
                  have hcz108_0 : wc.cell? ⟨gb294, 0, none⟩ = some (.int .i64 a0_0) := (zc_ BK294.out 0).trans rfl
                  have hcz108_1 : wc.cell? ⟨gb294, 1, none⟩ = some (.string a0_1) := (zc_ BK294.out 1).trans rfl
                  have hcz108_2 : wc.cell? ⟨gb294, 2, none⟩ = some (.int .i64 a0_2) := (zc_ BK294.out 2).trans rfl
                  have hcz108_3 : wc.cell? ⟨gb294, 3, none⟩ = some (.int .i64 a0_3) := (zc_ BK294.out 3).trans rfl
                  have hcz108_4 : wc.cell? ⟨gb294, 4, none⟩ = some (.int .i64 a0_4) := (zc_ BK294.out 4).trans rfl
                  have hcz108_5 : wc.cell? ⟨gb294, 5, none⟩ = some (.int .i64 a0_5) := (zc_ BK294.out 5).trans rfl
                  have hcz108_6 : wc.cell? ⟨gb294, 6, none⟩ = some (.bool a0_6) := (zc_ BK294.out 6).trans rfl
                  have hcz108_7 : wc.cell? ⟨gb294, 7, none⟩ = some (.int .i64 a0_7) := (zc_ BK294.out 7).trans rfl
                  have hcz108_8 : wc.cell? ⟨gb294, 8, none⟩ = some (.int .i64 a0_8) := (zc_ BK294.out 8).trans rfl
                  have hfz108_0 := zf_ BK294.out 0
                  have hfz108_1 := zf_ BK294.out 1
                  have hfz108_2 := zf_ BK294.out 2
                  have hfz108_3 := zf_ BK294.out 3
                  have hfz108_4 := zf_ BK294.out 4
                  have hfz108_5 := zf_ BK294.out 5
                  have hfz108_6 := zf_ BK294.out 6
                  have hfz108_7 := zf_ BK294.out 7
                  have hfz108_8 := zf_ BK294.out 8
                  have hnb109 := NB338_310.out
                  have hnc109 := NB310_338.out
                  have hnb110 := NB338_322.out
                  have hnc110 := NB322_338.out
                  have hcz111_0 : wc.cell? ⟨gb338, 0, none⟩ = some (.int .i64 t327) := (zc_ BK338.out 0).trans rfl
                  have hcz111_1 : wc.cell? ⟨gb338, 1, none⟩ = some (.string t328) := (zc_ BK338.out 1).trans rfl
                  have hcz111_2 : wc.cell? ⟨gb338, 2, none⟩ = some (.int .i64 t329) := (zc_ BK338.out 2).trans rfl
                  have hcz111_3 : wc.cell? ⟨gb338, 3, none⟩ = some (.int .i64 t330) := (zc_ BK338.out 3).trans rfl
                  have hcz111_4 : wc.cell? ⟨gb338, 4, none⟩ = some (.int .i64 t331) := (zc_ BK338.out 4).trans rfl
                  have hcz111_5 : wc.cell? ⟨gb338, 5, none⟩ = some (.int .i64 t332) := (zc_ BK338.out 5).trans rfl
                  have hcz111_6 : wc.cell? ⟨gb338, 6, none⟩ = some (.bool t333) := (zc_ BK338.out 6).trans rfl
                  have hcz111_7 : wc.cell? ⟨gb338, 7, none⟩ = some (.int .i64 t334) := (zc_ BK338.out 7).trans rfl
                  have hcz111_8 : wc.cell? ⟨gb338, 8, none⟩ = some (.int .i64 t335) := (zc_ BK338.out 8).trans rfl
                  have hfz111_0 := zf_ BK338.out 0
                  have hfz111_1 := zf_ BK338.out 1
                  have hfz111_2 := zf_ BK338.out 2
                  have hfz111_3 := zf_ BK338.out 3
                  have hfz111_4 := zf_ BK338.out 4
                  have hfz111_5 := zf_ BK338.out 5
                  have hfz111_6 := zf_ BK338.out 6
                  have hfz111_7 := zf_ BK338.out 7
                  have hfz111_8 := zf_ BK338.out 8
                  go_wp2
                  go_ret
                  exact ⟨by first | rfl | (simp [errW_none, errW_some] <;> rfl) | (simp only [← hji93, ← hji94, ← hji95, ← hji96, ← hji97, ← hji98]; first | rfl | (simp [errW_none, errW_some] <;> rfl)) | (simp [*, errW_none, errW_some] <;> rfl), by repeat (first | (with_reducible first | exact HB.out | apply pa_ | apply pd_ | apply p1_ | refine zs_ ?_ GE294.out | refine zs_ ?_ GE310.out | refine zs_ ?_ GE322.out | refine zs_ ?_ GE338.out) | exact HB.out)⟩
                rw [if_neg c104] at H
                have c104b0 : (t337 == 0) = false := beq_eq_false_iff_ne.mpr c104
                have c104b1 : (t337 != 0) = true := bne_iff_ne.mpr c104
                exact absurd ((Option.some.inj H).trans HTR_.out) (by decide)
  replace c4 := Bool.eq_false_iff.mpr c4
  subst c4
  have H1 : (some false) = some r := by rw [if_neg (show ¬ (false = true) by decide)] at H; exact H
  clear H
  have H := H1
  clear H1
  exact absurd ((Option.some.inj H).trans HTR_.out) (by decide)

end Go.Proofs.Ytcgpbakimkhdpaa.Q
