-- written for this claim by a program of the session
import Derived.Test.YtookpfpmobbhiaaQx0
import Derived.Test.YtookpfpmobbhiaaQx3
import Derived.Test.YtookpfpmobbhiaaQx4
import Derived.Test.YtookpfpmobbhiaaQx5
import Derived.Test.YtookpfpmobbhiaaQx6
import Derived.Test.YtookpfpmobbhiaaQx7
import Derived.Test.YtookpfpmobbhiaaQx8
import Derived.Test.YtookpfpmobbhiaaQx10
import Derived.Test.YtookpfpmobbhiaaQx11
import Derived.Test.YtookpfpmobbhiaaQx13
import Derived.Test.YtookpfpmobbhiaaGAwakeBound
import Derived.Test.YtookpfpmobbhiaaGBoundEmis
import Derived.Test.YtookpfpmobbhiaaGBoundLive
import Derived.Test.YtookpfpmobbhiaaGBoundLong
import Derived.Test.YtookpfpmobbhiaaGBoundTick2
import Derived.Test.YtookpfpmobbhiaaGBoundTotal
namespace Go.Proofs.Ytookpfpmobbhiaa.Q
open Go.RowKit Go.Proofs.YtookpfpmobbhiaaW.PrintWords Go.Proofs.YtookpfpmobbhiaaW.PrintLast Go.Proofs.YtookpfpmobbhiaaW.PrintMore
attribute [local go_sem] max2_int min2_int max_two min_two max_three min_three max_four min_four   -- for this text's walks alone
set_option linter.unusedVariables false
set_option linter.unusedSimpArgs false

/-! ### usufructlaw25_BoundTells: function 3 -/
def usufructlaw25_BoundTells.j0 : Nat → List (S51) → Int → Bool → List (S28) → List (S44) → Int → ByteArray → Int → List (S49) → Option (Bool)
  | 0, _, _, _, _, _, _, _, _, _ => none
  | k + 1, x2, x3, x25, x163000, x163001, x163002, x164000, x164001, x164002 => if x25 = true then (some true) else ((usufructref01_Of.f x3).bind fun t167 => ((usufructref25_Emissions.f k x164000 x164001 x164002).bind fun t168 => ((usufructref01_Times.f k t168 t167).bind fun t169 => ((usufructref25_Longest.f k (([(⟨x164000, x164001, x164002⟩ : S28)] : List (S28))) x2).bind fun t173 => ((usufructref25_All.f k t169 t167 t173).bind fun t174 => ((bound_Emissions.f x164000 x164001 x164002).bind fun t175 => ((usufructref25_Emissions.f k x164000 x164001 x164002).bind fun t176 => (if t175 = t176 then ((bound_Longest.f x163000 x2).bind fun t177 => ((usufructref25_Longest.f k x163000 x2).bind fun t178 => (if t177 = t178 then ((bound_Live.f x163000 x163001 x163002).bind fun t179 => ((usufructref25_Live.f k x163000 x163001 x163002).bind fun t180 => (if t179 = t180 then ((bound_Ticks.f x163000 x163001 x163002 x2).bind fun t181 => ((usufructref25_Ticks.f k x163000 x163001 x163002 x2).bind fun t182 => (if t181 = t182 then ((bound_Total.f x164000 x164001 x164002 x2 x3).bind fun t183 => (some (t183 == t174))) else (some false)))) else (some false)))) else (some false)))) else (some false)))))))))
def usufructlaw25_BoundTells.f (k : Nat) (l0_0 : List (S28)) (l0_1 : List (S44)) (a0_2 : Int) (a1_0 : ByteArray) (a1_1 : Int) (l1_2 : List (S49)) (l2 : List (S51)) (a3 : Int) : Option (Bool) := (usufructlaw25_awake.f).bind fun t164 => (if t164 = true then ((usufructlaw16_Small.f k l0_0 l0_1 a0_2).bind fun t165 => (if t165 = 0 then ((usufructlaw13_Small.f k a1_0 a1_1 l1_2).bind fun t166 => (if t166 = 0 then (usufructlaw25_BoundTells.j0 k l2 a3 (decide ((l2.length : Int) > 20)) l0_0 l0_1 a0_2 a1_0 a1_1 l1_2) else (usufructlaw25_BoundTells.j0 k l2 a3 true l0_0 l0_1 a0_2 a1_0 a1_1 l1_2))) else (usufructlaw25_BoundTells.j0 k l2 a3 true l0_0 l0_1 a0_2 a1_0 a1_1 l1_2))) else (some false))
theorem usufructlaw25_BoundTells.mono_l : ∀ k, (∀ y0 y1 y2 y3 y4 y5 y6 y7 y8, LeO (usufructlaw25_BoundTells.j0 k y0 y1 y2 y3 y4 y5 y6 y7 y8) (usufructlaw25_BoundTells.j0 (k + 1) y0 y1 y2 y3 y4 y5 y6 y7 y8))
  | 0 => fun _ _ _ _ _ _ _ _ _ r h => by simp [usufructlaw25_BoundTells.j0] at h
  | k + 1 => by
    have ih0 := usufructlaw25_BoundTells.mono_l k
    · intro y0 y1 y2 y3 y4 y5 y6 y7 y8
      unfold usufructlaw25_BoundTells.j0
      repeat' first
      | (with_reducible exact ih0 _ _ _ _ _ _ _ _ _)
      | (with_reducible exact usufructlaw13_Small.mono _ _ _ _)
      | (with_reducible exact usufructlaw16_Small.mono _ _ _ _)
      | (with_reducible exact usufructref01_Times.mono _ _ _)
      | (with_reducible exact usufructref25_All.mono _ _ _ _)
      | (with_reducible exact usufructref25_Emissions.mono _ _ _ _)
      | (with_reducible exact usufructref25_Live.mono _ _ _ _)
      | (with_reducible exact usufructref25_Longest.mono _ _ _)
      | (with_reducible exact usufructref25_Ticks.mono _ _ _ _ _)
      | (with_reducible exact LeO.refl _)
      | (with_reducible exact LeO.none _)
      | (with_reducible refine LeO.ite ?_ ?_)
      | (with_reducible refine LeO.bind ?_ (fun _ => ?_))
      | exact ih0 _ _ _ _ _ _ _ _ _
      | exact usufructlaw13_Small.mono _ _ _ _
      | exact usufructlaw16_Small.mono _ _ _ _
      | exact usufructref01_Times.mono _ _ _
      | exact usufructref25_All.mono _ _ _ _
      | exact usufructref25_Emissions.mono _ _ _ _
      | exact usufructref25_Live.mono _ _ _ _
      | exact usufructref25_Longest.mono _ _ _
      | exact usufructref25_Ticks.mono _ _ _ _ _
      | exact LeO.none _
      | refine LeO.ite ?_ ?_
      | refine LeO.bind ?_ (fun _ => ?_)
theorem usufructlaw25_BoundTells.mono : ∀ a0 a1 a2 a3 a4 a5 a6 a7 k, LeO (usufructlaw25_BoundTells.f k a0 a1 a2 a3 a4 a5 a6 a7) (usufructlaw25_BoundTells.f (k + 1) a0 a1 a2 a3 a4 a5 a6 a7) := by
  intro a0 a1 a2 a3 a4 a5 a6 a7 k
  have ih0 := usufructlaw25_BoundTells.mono_l k
  unfold usufructlaw25_BoundTells.f
  repeat' first
      | (with_reducible exact ih0 _ _ _ _ _ _ _ _ _)
      | (with_reducible exact usufructlaw13_Small.mono _ _ _ _)
      | (with_reducible exact usufructlaw16_Small.mono _ _ _ _)
      | (with_reducible exact usufructref01_Times.mono _ _ _)
      | (with_reducible exact usufructref25_All.mono _ _ _ _)
      | (with_reducible exact usufructref25_Emissions.mono _ _ _ _)
      | (with_reducible exact usufructref25_Live.mono _ _ _ _)
      | (with_reducible exact usufructref25_Longest.mono _ _ _)
      | (with_reducible exact usufructref25_Ticks.mono _ _ _ _ _)
      | (with_reducible exact LeO.refl _)
      | (with_reducible exact LeO.none _)
      | (with_reducible refine LeO.ite ?_ ?_)
      | (with_reducible refine LeO.bind ?_ (fun _ => ?_))
      | exact ih0 _ _ _ _ _ _ _ _ _
      | exact usufructlaw13_Small.mono _ _ _ _
      | exact usufructlaw16_Small.mono _ _ _ _
      | exact usufructref01_Times.mono _ _ _
      | exact usufructref25_All.mono _ _ _ _
      | exact usufructref25_Emissions.mono _ _ _ _
      | exact usufructref25_Live.mono _ _ _ _
      | exact usufructref25_Longest.mono _ _ _
      | exact usufructref25_Ticks.mono _ _ _ _ _
      | exact LeO.none _
      | refine LeO.ite ?_ ?_
      | refine LeO.bind ?_ (fun _ => ?_)
def usufructlaw25_BoundTells.T6 : Bool × List (List Nat × List Nat) := (true, [([], []), ([0], [0]), ([], []), ([1, 2, 1], [1, 2]), ([], []), ([], []), ([5], [5]), ([], []), ([6, 7, 3], [6, 7]), ([3, 4, 8, 8], [3, 4, 8]), ([9, 9, 0, 1, 2, 3, 4, 5, 6, 7, 8, 9], [9])])
def usufructlaw25_BoundTells.B6 : List Nat := [0, 1, 0, 7, 0, 0, 32, 0, 239, 511, 1023]
theorem usufructlaw25_BoundTells.tab6 : rtab .any (opsOf Try.f3 6) = usufructlaw25_BoundTells.T6 := by kernel_rfl
theorem usufructlaw25_BoundTells.bits6 : waitsOk usufructlaw25_BoundTells.T6.2 usufructlaw25_BoundTells.B6 = true := by kernel_rfl
def usufructlaw25_BoundTells.T7 : Bool × List (List Nat × List Nat) := (true, [([], []), ([0], [0]), ([], []), ([2, 1], [2]), ([1, 3], [1, 3]), ([4, 3], [4]), ([5], [5]), ([6, 5], [5, 6]), ([5], [5]), ([7, 8, 5, 5], [5, 7, 8]), ([5], [5]), ([10, 5], [5, 10]), ([5], [5]), ([11, 12, 9, 5], [5, 11, 12]), ([9, 13, 5], [5, 9, 13]), ([5, 14], [5, 14]), ([15, 13], [15]), ([16], [16]), ([17, 16, 16], [16, 17]), ([16], [16]), ([19, 18, 16], [16, 19]), ([18, 20, 16], [16, 18, 20]), ([16, 21], [16, 21]), ([22, 20], [22]), ([23], [23]), ([23], [23]), ([24, 25, 23, 23], [23, 24, 25]), ([23], [23]), ([23], [23]), ([27, 28, 26, 23], [23, 27, 28]), ([26, 29, 23], [23, 26, 29]), ([23, 30], [23, 30]), ([31, 29], [31]), ([32], [32]), ([32], [32]), ([32], [32]), ([33, 34, 35, 32, 32], [32, 33, 34, 35]), ([32], [32]), ([36, 37, 32], [32, 36, 37]), ([32, 38], [32, 38]), ([39, 36, 0, 1, 2, 3, 4, 5, 6, 7, 8, 9, 10, 11, 12, 13, 14, 15, 16, 17, 18, 19, 20, 21, 22, 23, 24, 25, 26, 27, 28, 29, 30, 31, 32, 33, 34, 35, 36, 37, 38, 39], [39])])
def usufructlaw25_BoundTells.B7 : List Nat := [0, 1, 0, 7, 15, 31, 63, 127, 63, 511, 63, 1087, 63, 8191, 16383, 32767, 65535, 131071, 262143, 131071, 1048575, 2097151, 4194303, 8388607, 16777215, 16777215, 67108863, 16777215, 16777215, 536870911, 1073741823, 2147483647, 4294967295, 8589934591, 8589934591, 8589934591, 68719476735, 8589934591, 274877906943, 549755813887, 1099511627775]
theorem usufructlaw25_BoundTells.tab7 : rtab .any (opsOf Try.f3 7) = usufructlaw25_BoundTells.T7 := by kernel_rfl
theorem usufructlaw25_BoundTells.bits7 : waitsOk usufructlaw25_BoundTells.T7.2 usufructlaw25_BoundTells.B7 = true := by kernel_rfl
namespace usufructlaw25_BoundTells
theorem mt_ {α β : Type} {f : α → β} {l : List α} : l.toArray.map f = (l.map f).toArray := List.map_toArray
theorem mc_ {α β : Type} {f : α → β} {a : α} {l : List α} : (a :: l).map f = f a :: l.map f := rfl
theorem mn_ {α β : Type} {f : α → β} : ([] : List α).map f = [] := rfl
abbrev zn_ := @blk_drewN
abbrev zd_ := @blk_drew
abbrev za_ := @blk_alloc
abbrev zf_ := @blk_frozen
abbrev zc_ := @blk_cell
abbrev zs_ := @below_set
abbrev zr_ := @blk_far
abbrev zp_ := @blk_put
abbrev pd_ := @pw_below_drewN
abbrev p1_ := @below_drew1
abbrev pa_ := @below_alloc
abbrev ak_ := @Aside0.mk
abbrev bl_ := @World.block_lt_of_cell?
abbrev ps_ := @below_step
def b_ (n k : Nat) : Array Bool := ((List.range n).map fun i => k.testBit i).toArray
theorem sa_ {α : Type} {l : List α} {i : Nat} {a : α} : l.toArray.setIfInBounds i a = (l.set i a).toArray := List.setIfInBounds_toArray l i a
theorem sz_ {α : Type} {a b : α} {l : List α} : (a :: l).set 0 b = b :: l := rfl
theorem ss_ {α : Type} {a b : α} {l : List α} {n : Nat} : (a :: l).set (n + 1) b = a :: l.set n b := rfl
end usufructlaw25_BoundTells
open usufructlaw25_BoundTells in
set_option maxHeartbeats 8000000 in
set_option maxRecDepth 100000 in
theorem usufructlaw25_BoundTells.calls (k : Nat) (A0_0 : Option Addr) (c0_0 : Nat) (l0_0 : List (S28)) (A0_1 : Option Addr) (c0_1 : Nat) (l0_1 : List (S44)) (a0_2 : Int) (a1_0 : ByteArray) (a1_1 : Int) (P1_2_ : Nat → Prop) (A1_2 : Option Addr) (c1_2 : Nat) (l1_2 : List (S49)) (A2 : Option Addr) (c2 : Nat) (l2 : List (S51)) (a3 : Int) (r : Bool) (w : World) (hr0_0 : Kd.C k28 w A0_0 l0_0.length l0_0) (hc0_0 : l0_0.length ≤ c0_0) (hr0_1 : Kd.C k44 w A0_1 l0_1.length l0_1) (hc0_1 : l0_1.length ≤ c0_1) (hs1_2 : Kd.V k49 49 w w.heap.size (fun k_ => P1_2_ k_) (.slice A1_2 l1_2.length c1_2) l1_2) (hr2 : Kd.C k51 w A2 l2.length l2) (hc2 : l2.length ≤ c2) (h : usufructlaw25_BoundTells.f k l0_0 l0_1 a0_2 a1_0 a1_1 l1_2 l2 a3 = some r) (hT_ : r = true) :
    Calls Try.prog 3 #[.agg #[.slice A0_0 l0_0.length c0_0, .slice A0_1 l0_1.length c0_1, .int .i64 a0_2], .agg #[.string a1_0, .int .i64 a1_1, .slice A1_2 l1_2.length c1_2], .slice A2 l2.length c2, .int .i64 a3] w fun e w' => e = .returned (.bool r) ∧ Below w.heap.size w w' := by
  have HTR_ := ak_ hT_
  clear hT_
  have hu25 := Try.underlying25
  have hu28 := Try.underlying28
  have HR0_0 := ak_ hr0_0
  have HC0_0 := ak_ hc0_0
  clear hr0_0 hc0_0
  have HR0_1 := ak_ hr0_1
  have HC0_1 := ak_ hc0_1
  clear hr0_1 hc0_1
  have HO1_2 := ak_ (show Kd.V k49 49 w w.heap.size (fun k_ => (P1_2_ k_ ∨ w.heap.size ≤ k_)) (.slice A1_2 l1_2.length c1_2) l1_2 from Kd.V_mono hs1_2 (fun k_ hk => .inl hk))
  have HR2 := ak_ hr2
  have HC2 := ak_ hc2
  clear hr2 hc2
  have HB := ak_ (Below.refl w.heap.size w)
  have H : ((usufructlaw25_awake.f).bind fun t164 => (if t164 = true then ((usufructlaw16_Small.f k l0_0 l0_1 a0_2).bind fun t165 => (if t165 = 0 then ((usufructlaw13_Small.f k a1_0 a1_1 l1_2).bind fun t166 => (if t166 = 0 then (usufructlaw25_BoundTells.j0 k l2 a3 (decide ((l2.length : Int) > 20)) l0_0 l0_1 a0_2 a1_0 a1_1 l1_2) else (usufructlaw25_BoundTells.j0 k l2 a3 true l0_0 l0_1 a0_2 a1_0 a1_1 l1_2))) else (usufructlaw25_BoundTells.j0 k l2 a3 true l0_0 l0_1 a0_2 a1_0 a1_1 l1_2))) else (some false))) = some r := h
  clear h
  replace H := Option.bind_eq_some_iff.mp H
  obtain ⟨t164, A50, H⟩ := H
  replace H : (if t164 = true then ((usufructlaw16_Small.f k l0_0 l0_1 a0_2).bind fun t165 => (if t165 = 0 then ((usufructlaw13_Small.f k a1_0 a1_1 l1_2).bind fun t166 => (if t166 = 0 then (usufructlaw25_BoundTells.j0 k l2 a3 (decide ((l2.length : Int) > 20)) l0_0 l0_1 a0_2 a1_0 a1_1 l1_2) else (usufructlaw25_BoundTells.j0 k l2 a3 true l0_0 l0_1 a0_2 a1_0 a1_1 l1_2))) else (usufructlaw25_BoundTells.j0 k l2 a3 true l0_0 l0_1 a0_2 a1_0 a1_1 l1_2))) else (some false)) = some r := H
  have A5 := ak_ A50
  clear A50
  by_cases c6 : t164 = true
  · subst c6
    have H1 : ((usufructlaw16_Small.f k l0_0 l0_1 a0_2).bind fun t165 => (if t165 = 0 then ((usufructlaw13_Small.f k a1_0 a1_1 l1_2).bind fun t166 => (if t166 = 0 then (usufructlaw25_BoundTells.j0 k l2 a3 (decide ((l2.length : Int) > 20)) l0_0 l0_1 a0_2 a1_0 a1_1 l1_2) else (usufructlaw25_BoundTells.j0 k l2 a3 true l0_0 l0_1 a0_2 a1_0 a1_1 l1_2))) else (usufructlaw25_BoundTells.j0 k l2 a3 true l0_0 l0_1 a0_2 a1_0 a1_1 l1_2))) = some r := by rw [if_pos rfl] at H; exact H
    clear H
    have H := H1
    clear H1
    have HC7 := ak_ H
    clear H
    go_enter Try.func3, Try.ntmps3
    go_upto_region 3 with (first | ((with_reducible refine gate_dst (N := 4) rfl ?_); (try (refine gate_guard (by rfl) ?_; dsimp only)); refine box_event ?hg (N := 4) ?hd (cs := #[.slice A0_0 l0_0.length c0_0, .slice A0_1 l0_1.length c0_1, .int .i64 a0_2]) (t := 25) ?hr ?_; (case hd => rfl); (case hg => rfl); (case hr => first | (go_simp; done) | (go_simp; rfl)); intro gb162 hg w8 hbox hb; have n0_ := ak_ (Kd.V_below (Kd.V_elderB (by (with_reducible repeat (first | apply Kd.V_alloc | apply Kd.V_drewN | apply Kd.V_drew)); exact HO1_2.out) gb162 (Nat.le_of_eq hg.symm)) hb); have n1_ := ak_ (ps_ (by repeat (first | (with_reducible first | exact HB.out | apply pa_ | apply pd_ | apply p1_) | exact HB.out)) hb); have n2_ := ak_ (hbox); have n3_ := ak_ ((by rw [hg]; exact (below_size (by repeat (first | (with_reducible first | exact HB.out | apply pa_ | apply pd_ | apply p1_) | exact HB.out))) : w.heap.size ≤ gb162)); have n4_ := ak_ ((by rw [hg]; exact (below_size (by repeat (first | (with_reducible first | exact HB.out | apply pa_ | apply pd_ | apply p1_) | exact HB.out))) : w.heap.size ≤ gb162)); clear HO1_2; clear HB; have HO1_2 := n0_; have HB := n1_; have BK162 := n2_; have GW162 := n3_; have GE162 := n4_; clear n0_ n1_ n2_ n3_ n4_; clear hb hbox hg) | ((with_reducible refine gate_dst (N := 5) rfl ?_); (try (refine gate_guard (by rfl) ?_; dsimp only)); refine box_event ?hg (N := 5) ?hd (cs := #[.string a1_0, .int .i64 a1_1, .slice A1_2 l1_2.length c1_2]) (t := 28) ?hr ?_; (case hd => rfl); (case hg => rfl); (case hr => first | (go_simp; done) | (go_simp; rfl)); intro gb163 hg w9 hbox hb; have n0_ := ak_ (Kd.V_below (Kd.V_elderB (by (with_reducible repeat (first | apply Kd.V_alloc | apply Kd.V_drewN | apply Kd.V_drew)); exact HO1_2.out) gb163 (Nat.le_of_eq hg.symm)) hb); have n1_ := ak_ (blk_below (g := gb162) (o := .cells #[.slice A0_0 l0_0.length c0_0, .slice A0_1 l0_1.length c0_1, .int .i64 a0_2] 25 (0, 0)) (by (with_reducible repeat (first | apply zn_ | apply zd_ | apply za_)); exact BK162.out) hb); have n2_ := ak_ (ps_ (by repeat (first | (with_reducible first | exact HB.out | apply pa_ | apply pd_ | apply p1_ | refine zs_ ?_ GE162.out) | exact HB.out)) hb); have n3_ := ak_ (hbox); have n4_ := ak_ ((by rw [hg]; exact (below_size (by repeat (first | (with_reducible first | exact HB.out | apply pa_ | apply pd_ | apply p1_ | refine zs_ ?_ GE162.out) | exact HB.out))) : w.heap.size ≤ gb163)); have n5_ := ak_ ((by rw [hg]; exact (below_size (by repeat (first | (with_reducible first | exact HB.out | apply pa_ | apply pd_ | apply p1_ | refine zs_ ?_ GE162.out) | exact HB.out))) : w.heap.size ≤ gb163)); have n6_ := ak_ ((by rw [hg]; exact Nat.ne_of_lt (blk_lt (g := gb162) (o := .cells #[.slice A0_0 l0_0.length c0_0, .slice A0_1 l0_1.length c0_1, .int .i64 a0_2] 25 (0, 0)) (by (with_reducible repeat (first | apply zn_ | apply zd_ | apply za_)); exact BK162.out)) : gb162 ≠ gb163)); have n7_ := ak_ ((by rw [hg]; exact Nat.ne_of_gt (blk_lt (g := gb162) (o := .cells #[.slice A0_0 l0_0.length c0_0, .slice A0_1 l0_1.length c0_1, .int .i64 a0_2] 25 (0, 0)) (by (with_reducible repeat (first | apply zn_ | apply zd_ | apply za_)); exact BK162.out)) : gb163 ≠ gb162)); clear HO1_2; clear BK162; clear HB; have HO1_2 := n0_; have BK162 := n1_; have HB := n2_; have BK163 := n3_; have GW163 := n4_; have GE163 := n5_; have NB162_163 := n6_; have NB163_162 := n7_; clear n0_ n1_ n2_ n3_ n4_ n5_ n6_ n7_; clear hb hbox hg) | ((with_reducible refine gate_callee (f := 5) rfl ?_); refine goesL_ (some 11) rfl rfl Try.func5 (by kernel_rfl) rfl #[] rfl (by simp only [mt_, mc_, mn_] <;> rfl) ?_; (with_reducible refine (usufructlaw25_awake.calls  true _ A5.out).mono ?_); rintro e w10 ⟨rfl, hb⟩; refine ⟨_, rfl, ?_⟩; have n0_ := ak_ (Kd.V_below (by (with_reducible repeat (first | apply Kd.V_alloc | apply Kd.V_drewN | apply Kd.V_drew)); exact HO1_2.out) hb); have n1_ := ak_ (blk_below (g := gb162) (o := .cells #[.slice A0_0 l0_0.length c0_0, .slice A0_1 l0_1.length c0_1, .int .i64 a0_2] 25 (0, 0)) (by (with_reducible repeat (first | apply zn_ | apply zd_ | apply za_)); exact BK162.out) hb); have n2_ := ak_ (blk_below (g := gb163) (o := .cells #[.string a1_0, .int .i64 a1_1, .slice A1_2 l1_2.length c1_2] 28 (0, 0)) (by (with_reducible repeat (first | apply zn_ | apply zd_ | apply za_)); exact BK163.out) hb); have n3_ := ak_ (ps_ (by repeat (first | (with_reducible first | exact HB.out | apply pa_ | apply pd_ | apply p1_ | refine zs_ ?_ GE162.out | refine zs_ ?_ GE163.out) | exact HB.out)) hb); clear HO1_2; clear BK162; clear BK163; clear HB; have HO1_2 := n0_; have BK162 := n1_; have BK163 := n2_; have HB := n3_; clear n0_ n1_ n2_ n3_; (try clear hb hk hi)))
    (try simp only [Act.put, sa_, sz_, ss_])
    go_cut [25] (fun v25 wc => ∃ (kq : Nat) (x25_6 : Bool), v25 = .bool x25_6 ∧ Aside0 (usufructlaw25_BoundTells.j0 kq l2 a3 x25_6 l0_0 l0_1 a0_2 a1_0 a1_1 l1_2 = some r) ∧ Aside0 (kq ≤ k) ∧ Aside0 (Kd.V k49 49 wc w.heap.size (fun k_ => (P1_2_ k_ ∨ w.heap.size ≤ k_) ∧ k_ ≠ gb162 ∧ k_ ≠ gb163) (.slice A1_2 l1_2.length c1_2) l1_2) ∧ Aside0 (wc.heap[gb162]? = some (.cells #[(.slice A0_0 l0_0.length c0_0), (.slice A0_1 l0_1.length c0_1), .int .i64 a0_2] 25 (0, 0))) ∧ Aside0 (wc.heap[gb163]? = some (.cells #[.string a1_0, .int .i64 a1_1, (.slice A1_2 l1_2.length c1_2)] 28 (0, 0))) ∧ Aside0 (Below w.heap.size w wc))
    case first =>
      have H := HC7.out
      clear HC7
      replace H := Option.bind_eq_some_iff.mp H
      obtain ⟨t165, A110, H⟩ := H
      replace H : (if t165 = 0 then ((usufructlaw13_Small.f k a1_0 a1_1 l1_2).bind fun t166 => (if t166 = 0 then (usufructlaw25_BoundTells.j0 k l2 a3 (decide ((l2.length : Int) > 20)) l0_0 l0_1 a0_2 a1_0 a1_1 l1_2) else (usufructlaw25_BoundTells.j0 k l2 a3 true l0_0 l0_1 a0_2 a1_0 a1_1 l1_2))) else (usufructlaw25_BoundTells.j0 k l2 a3 true l0_0 l0_1 a0_2 a1_0 a1_1 l1_2)) = some r := H
      have A11 := ak_ A110
      clear A110
      by_cases c12 : t165 = 0
      · rw [if_pos c12] at H
        have c12b0 : (t165 == 0) = true := beq_iff_eq.mpr c12
        have c12b1 : (t165 != 0) = false := bne_eq_false_iff_eq.mpr c12
        clear c12
        (first | rw [c12b0] | (simp only [i64_w, i32_w]; rw [c12b0]) | skip)
        replace H := Option.bind_eq_some_iff.mp H
        obtain ⟨t166, A130, H⟩ := H
        replace H : (if t166 = 0 then (usufructlaw25_BoundTells.j0 k l2 a3 (decide ((l2.length : Int) > 20)) l0_0 l0_1 a0_2 a1_0 a1_1 l1_2) else (usufructlaw25_BoundTells.j0 k l2 a3 true l0_0 l0_1 a0_2 a1_0 a1_1 l1_2)) = some r := H
        have A13 := ak_ A130
        clear A130
        by_cases c14 : t166 = 0
        · rw [if_pos c14] at H
          have c14b0 : (t166 == 0) = true := beq_iff_eq.mpr c14
          have c14b1 : (t166 != 0) = false := bne_eq_false_iff_eq.mpr c14
          clear c14
          have H' := ak_ H
          clear H
          have hnb15 := NB162_163.out
          have hnc15 := NB163_162.out
          have hcz16_0 : w10.cell? ⟨gb162, 0, none⟩ = some (.slice A0_0 l0_0.length c0_0) := (zc_ BK162.out 0).trans rfl
          have hcz16_1 : w10.cell? ⟨gb162, 1, none⟩ = some (.slice A0_1 l0_1.length c0_1) := (zc_ BK162.out 1).trans rfl
          have hcz16_2 : w10.cell? ⟨gb162, 2, none⟩ = some (.int .i64 a0_2) := (zc_ BK162.out 2).trans rfl
          have hfz16_0 := zf_ BK162.out 0
          have hfz16_1 := zf_ BK162.out 1
          have hfz16_2 := zf_ BK162.out 2
          go_wp2_with (first | ((with_reducible refine gate_callee (f := 6) rfl ?_); refine goesL_ (some 14) rfl rfl Try.func6 (by kernel_rfl) rfl #[.agg #[.slice A0_0 l0_0.length c0_0, .slice A0_1 l0_1.length c0_1, .int .i64 a0_2]] rfl (by (try simp only [List.map_toArray, List.map_cons, List.map_nil]); first | done | rfl | (simp only [List.length_drop, List.length_take]; rfl)) ?_; (with_reducible refine (usufructlaw16_Small.calls k _ _ l0_0 _ _ l0_1 a0_2 t165 _ ?side1 ?side2 ?side3 ?side4 A11.out).mono ?_); (case side1 => repeat (first | exact (Kd.C_below HR0_0.out HB.out) | (with_reducible refine Kd.C_alloc ?_ _) | (with_reducible refine Kd.C_drewN ?_ _) | (with_reducible refine Kd.C_drew ?_))); (case side2 => exact HC0_0.out); (case side3 => repeat (first | exact (Kd.C_below HR0_1.out HB.out) | (with_reducible refine Kd.C_alloc ?_ _) | (with_reducible refine Kd.C_drewN ?_ _) | (with_reducible refine Kd.C_drew ?_))); (case side4 => exact HC0_1.out); rintro e w17 ⟨rfl, hb⟩; refine ⟨_, rfl, ?_⟩; have n0_ := ak_ (Kd.V_below (by (with_reducible repeat (first | apply Kd.V_alloc | apply Kd.V_drewN | apply Kd.V_drew)); exact HO1_2.out) hb); have n1_ := ak_ (blk_below (g := gb162) (o := .cells #[.slice A0_0 l0_0.length c0_0, .slice A0_1 l0_1.length c0_1, .int .i64 a0_2] 25 (0, 0)) (by (with_reducible repeat (first | apply zn_ | apply zd_ | apply za_)); exact BK162.out) hb); have n2_ := ak_ (blk_below (g := gb163) (o := .cells #[.string a1_0, .int .i64 a1_1, .slice A1_2 l1_2.length c1_2] 28 (0, 0)) (by (with_reducible repeat (first | apply zn_ | apply zd_ | apply za_)); exact BK163.out) hb); have n3_ := ak_ (ps_ (by repeat (first | (with_reducible first | exact HB.out | apply pa_ | apply pd_ | apply p1_ | refine zs_ ?_ GE162.out | refine zs_ ?_ GE163.out) | exact HB.out)) hb); clear HO1_2; clear BK162; clear BK163; clear HB; have HO1_2 := n0_; have BK162 := n1_; have BK163 := n2_; have HB := n3_; clear n0_ n1_ n2_ n3_; (try clear hb hk hi); have hcz18_0 : w17.cell? ⟨gb163, 0, none⟩ = some (.string a1_0) := (zc_ BK163.out 0).trans rfl; have hcz18_1 : w17.cell? ⟨gb163, 1, none⟩ = some (.int .i64 a1_1) := (zc_ BK163.out 1).trans rfl; have hcz18_2 : w17.cell? ⟨gb163, 2, none⟩ = some (.slice A1_2 l1_2.length c1_2) := (zc_ BK163.out 2).trans rfl; have hfz18_0 := zf_ BK163.out 0; have hfz18_1 := zf_ BK163.out 1; have hfz18_2 := zf_ BK163.out 2) | (go_at_call 7; (with_reducible refine (usufructlaw13_Small.calls k a1_0 a1_1 _ _ l1_2 t166 _ ?side1 ?side2 A13.out).mono ?_); (case side1 => repeat (first | exact (Kd.V_reads' HO1_2.out).2.2 | (with_reducible refine Kd.C_alloc ?_ _) | (with_reducible refine Kd.C_drewN ?_ _) | (with_reducible refine Kd.C_drew ?_))); (case side2 => exact (Kd.V_reads' HO1_2.out).2.1); rintro e w19 ⟨rfl, hb⟩; have n0_ := ak_ (Kd.V_below (by (with_reducible repeat (first | apply Kd.V_alloc | apply Kd.V_drewN | apply Kd.V_drew)); exact HO1_2.out) hb); have n1_ := ak_ (blk_below (g := gb162) (o := .cells #[.slice A0_0 l0_0.length c0_0, .slice A0_1 l0_1.length c0_1, .int .i64 a0_2] 25 (0, 0)) (by (with_reducible repeat (first | apply zn_ | apply zd_ | apply za_)); exact BK162.out) hb); have n2_ := ak_ (blk_below (g := gb163) (o := .cells #[.string a1_0, .int .i64 a1_1, .slice A1_2 l1_2.length c1_2] 28 (0, 0)) (by (with_reducible repeat (first | apply zn_ | apply zd_ | apply za_)); exact BK163.out) hb); have n3_ := ak_ (ps_ (by repeat (first | (with_reducible first | exact HB.out | apply pa_ | apply pd_ | apply p1_ | refine zs_ ?_ GE162.out | refine zs_ ?_ GE163.out) | exact HB.out)) hb); clear HO1_2; clear BK162; clear BK163; clear HB; have HO1_2 := n0_; have BK162 := n1_; have BK163 := n2_; have HB := n3_; clear n0_ n1_ n2_ n3_; (try clear hb hk hi)))
          go_meet
          case rel => exact ⟨_, (decide ((l2.length : Int) > 20)), (by first | rfl | (simp; done) | (simp [*]; done)), H', ⟨by first | omega | exact Nat.le_refl _⟩, ⟨by (with_reducible repeat (first | apply Kd.V_alloc | apply Kd.V_drewN | apply Kd.V_drew)); exact Kd.V_mono HO1_2.out (fun _ hk => ⟨hk.1.1, ⟨hk.1.2, hk.2⟩⟩)⟩, ⟨by (with_reducible repeat (first | apply zn_ | apply zd_ | apply za_)); exact BK162.out⟩, ⟨by (with_reducible repeat (first | apply zn_ | apply zd_ | apply za_)); exact BK163.out⟩, ⟨by repeat (first | (with_reducible first | exact HB.out | apply pa_ | apply pd_ | apply p1_ | refine zs_ ?_ GE162.out | refine zs_ ?_ GE163.out) | exact HB.out)⟩⟩
        rw [if_neg c14] at H
        have c14b0 : (t166 == 0) = false := beq_eq_false_iff_ne.mpr c14
        have c14b1 : (t166 != 0) = true := bne_iff_ne.mpr c14
        have H' := ak_ H
        clear H
        have hnb20 := NB162_163.out
        have hnc20 := NB163_162.out
        have hcz21_0 : w10.cell? ⟨gb162, 0, none⟩ = some (.slice A0_0 l0_0.length c0_0) := (zc_ BK162.out 0).trans rfl
        have hcz21_1 : w10.cell? ⟨gb162, 1, none⟩ = some (.slice A0_1 l0_1.length c0_1) := (zc_ BK162.out 1).trans rfl
        have hcz21_2 : w10.cell? ⟨gb162, 2, none⟩ = some (.int .i64 a0_2) := (zc_ BK162.out 2).trans rfl
        have hfz21_0 := zf_ BK162.out 0
        have hfz21_1 := zf_ BK162.out 1
        have hfz21_2 := zf_ BK162.out 2
        go_wp2_with (first | ((with_reducible refine gate_callee (f := 6) rfl ?_); refine goesL_ (some 14) rfl rfl Try.func6 (by kernel_rfl) rfl #[.agg #[.slice A0_0 l0_0.length c0_0, .slice A0_1 l0_1.length c0_1, .int .i64 a0_2]] rfl (by (try simp only [List.map_toArray, List.map_cons, List.map_nil]); first | done | rfl | (simp only [List.length_drop, List.length_take]; rfl)) ?_; (with_reducible refine (usufructlaw16_Small.calls k _ _ l0_0 _ _ l0_1 a0_2 t165 _ ?side1 ?side2 ?side3 ?side4 A11.out).mono ?_); (case side1 => repeat (first | exact (Kd.C_below HR0_0.out HB.out) | (with_reducible refine Kd.C_alloc ?_ _) | (with_reducible refine Kd.C_drewN ?_ _) | (with_reducible refine Kd.C_drew ?_))); (case side2 => exact HC0_0.out); (case side3 => repeat (first | exact (Kd.C_below HR0_1.out HB.out) | (with_reducible refine Kd.C_alloc ?_ _) | (with_reducible refine Kd.C_drewN ?_ _) | (with_reducible refine Kd.C_drew ?_))); (case side4 => exact HC0_1.out); rintro e w22 ⟨rfl, hb⟩; refine ⟨_, rfl, ?_⟩; have n0_ := ak_ (Kd.V_below (by (with_reducible repeat (first | apply Kd.V_alloc | apply Kd.V_drewN | apply Kd.V_drew)); exact HO1_2.out) hb); have n1_ := ak_ (blk_below (g := gb162) (o := .cells #[.slice A0_0 l0_0.length c0_0, .slice A0_1 l0_1.length c0_1, .int .i64 a0_2] 25 (0, 0)) (by (with_reducible repeat (first | apply zn_ | apply zd_ | apply za_)); exact BK162.out) hb); have n2_ := ak_ (blk_below (g := gb163) (o := .cells #[.string a1_0, .int .i64 a1_1, .slice A1_2 l1_2.length c1_2] 28 (0, 0)) (by (with_reducible repeat (first | apply zn_ | apply zd_ | apply za_)); exact BK163.out) hb); have n3_ := ak_ (ps_ (by repeat (first | (with_reducible first | exact HB.out | apply pa_ | apply pd_ | apply p1_ | refine zs_ ?_ GE162.out | refine zs_ ?_ GE163.out) | exact HB.out)) hb); clear HO1_2; clear BK162; clear BK163; clear HB; have HO1_2 := n0_; have BK162 := n1_; have BK163 := n2_; have HB := n3_; clear n0_ n1_ n2_ n3_; (try clear hb hk hi); have hcz23_0 : w22.cell? ⟨gb163, 0, none⟩ = some (.string a1_0) := (zc_ BK163.out 0).trans rfl; have hcz23_1 : w22.cell? ⟨gb163, 1, none⟩ = some (.int .i64 a1_1) := (zc_ BK163.out 1).trans rfl; have hcz23_2 : w22.cell? ⟨gb163, 2, none⟩ = some (.slice A1_2 l1_2.length c1_2) := (zc_ BK163.out 2).trans rfl; have hfz23_0 := zf_ BK163.out 0; have hfz23_1 := zf_ BK163.out 1; have hfz23_2 := zf_ BK163.out 2) | (go_at_call 7; (with_reducible refine (usufructlaw13_Small.calls k a1_0 a1_1 _ _ l1_2 t166 _ ?side1 ?side2 A13.out).mono ?_); (case side1 => repeat (first | exact (Kd.V_reads' HO1_2.out).2.2 | (with_reducible refine Kd.C_alloc ?_ _) | (with_reducible refine Kd.C_drewN ?_ _) | (with_reducible refine Kd.C_drew ?_))); (case side2 => exact (Kd.V_reads' HO1_2.out).2.1); rintro e w24 ⟨rfl, hb⟩; have n0_ := ak_ (Kd.V_below (by (with_reducible repeat (first | apply Kd.V_alloc | apply Kd.V_drewN | apply Kd.V_drew)); exact HO1_2.out) hb); have n1_ := ak_ (blk_below (g := gb162) (o := .cells #[.slice A0_0 l0_0.length c0_0, .slice A0_1 l0_1.length c0_1, .int .i64 a0_2] 25 (0, 0)) (by (with_reducible repeat (first | apply zn_ | apply zd_ | apply za_)); exact BK162.out) hb); have n2_ := ak_ (blk_below (g := gb163) (o := .cells #[.string a1_0, .int .i64 a1_1, .slice A1_2 l1_2.length c1_2] 28 (0, 0)) (by (with_reducible repeat (first | apply zn_ | apply zd_ | apply za_)); exact BK163.out) hb); have n3_ := ak_ (ps_ (by repeat (first | (with_reducible first | exact HB.out | apply pa_ | apply pd_ | apply p1_ | refine zs_ ?_ GE162.out | refine zs_ ?_ GE163.out) | exact HB.out)) hb); clear HO1_2; clear BK162; clear BK163; clear HB; have HO1_2 := n0_; have BK162 := n1_; have BK163 := n2_; have HB := n3_; clear n0_ n1_ n2_ n3_; (try clear hb hk hi)))
        go_meet
        case rel => exact ⟨_, (true), (by first | rfl | (simp; done) | (simp [*]; done)), H', ⟨by first | omega | exact Nat.le_refl _⟩, ⟨by (with_reducible repeat (first | apply Kd.V_alloc | apply Kd.V_drewN | apply Kd.V_drew)); exact Kd.V_mono HO1_2.out (fun _ hk => ⟨hk.1.1, ⟨hk.1.2, hk.2⟩⟩)⟩, ⟨by (with_reducible repeat (first | apply zn_ | apply zd_ | apply za_)); exact BK162.out⟩, ⟨by (with_reducible repeat (first | apply zn_ | apply zd_ | apply za_)); exact BK163.out⟩, ⟨by repeat (first | (with_reducible first | exact HB.out | apply pa_ | apply pd_ | apply p1_ | refine zs_ ?_ GE162.out | refine zs_ ?_ GE163.out) | exact HB.out)⟩⟩
      rw [if_neg c12] at H
      have c12b0 : (t165 == 0) = false := beq_eq_false_iff_ne.mpr c12
      have c12b1 : (t165 != 0) = true := bne_iff_ne.mpr c12
      (first | rw [c12b0] | (simp only [i64_w, i32_w]; rw [c12b0]) | skip)
      have H' := ak_ H
      clear H
      have hnb25 := NB162_163.out
      have hnc25 := NB163_162.out
      have hcz26_0 : w10.cell? ⟨gb162, 0, none⟩ = some (.slice A0_0 l0_0.length c0_0) := (zc_ BK162.out 0).trans rfl
      have hcz26_1 : w10.cell? ⟨gb162, 1, none⟩ = some (.slice A0_1 l0_1.length c0_1) := (zc_ BK162.out 1).trans rfl
      have hcz26_2 : w10.cell? ⟨gb162, 2, none⟩ = some (.int .i64 a0_2) := (zc_ BK162.out 2).trans rfl
      have hfz26_0 := zf_ BK162.out 0
      have hfz26_1 := zf_ BK162.out 1
      have hfz26_2 := zf_ BK162.out 2
      go_wp2_with (first | ((with_reducible refine gate_callee (f := 6) rfl ?_); refine goesL_ (some 14) rfl rfl Try.func6 (by kernel_rfl) rfl #[.agg #[.slice A0_0 l0_0.length c0_0, .slice A0_1 l0_1.length c0_1, .int .i64 a0_2]] rfl (by (try simp only [List.map_toArray, List.map_cons, List.map_nil]); first | done | rfl | (simp only [List.length_drop, List.length_take]; rfl)) ?_; (with_reducible refine (usufructlaw16_Small.calls k _ _ l0_0 _ _ l0_1 a0_2 t165 _ ?side1 ?side2 ?side3 ?side4 A11.out).mono ?_); (case side1 => repeat (first | exact (Kd.C_below HR0_0.out HB.out) | (with_reducible refine Kd.C_alloc ?_ _) | (with_reducible refine Kd.C_drewN ?_ _) | (with_reducible refine Kd.C_drew ?_))); (case side2 => exact HC0_0.out); (case side3 => repeat (first | exact (Kd.C_below HR0_1.out HB.out) | (with_reducible refine Kd.C_alloc ?_ _) | (with_reducible refine Kd.C_drewN ?_ _) | (with_reducible refine Kd.C_drew ?_))); (case side4 => exact HC0_1.out); rintro e w27 ⟨rfl, hb⟩; refine ⟨_, rfl, ?_⟩; have n0_ := ak_ (Kd.V_below (by (with_reducible repeat (first | apply Kd.V_alloc | apply Kd.V_drewN | apply Kd.V_drew)); exact HO1_2.out) hb); have n1_ := ak_ (blk_below (g := gb162) (o := .cells #[.slice A0_0 l0_0.length c0_0, .slice A0_1 l0_1.length c0_1, .int .i64 a0_2] 25 (0, 0)) (by (with_reducible repeat (first | apply zn_ | apply zd_ | apply za_)); exact BK162.out) hb); have n2_ := ak_ (blk_below (g := gb163) (o := .cells #[.string a1_0, .int .i64 a1_1, .slice A1_2 l1_2.length c1_2] 28 (0, 0)) (by (with_reducible repeat (first | apply zn_ | apply zd_ | apply za_)); exact BK163.out) hb); have n3_ := ak_ (ps_ (by repeat (first | (with_reducible first | exact HB.out | apply pa_ | apply pd_ | apply p1_ | refine zs_ ?_ GE162.out | refine zs_ ?_ GE163.out) | exact HB.out)) hb); clear HO1_2; clear BK162; clear BK163; clear HB; have HO1_2 := n0_; have BK162 := n1_; have BK163 := n2_; have HB := n3_; clear n0_ n1_ n2_ n3_; (try clear hb hk hi)))
      go_meet
      case rel => exact ⟨_, (true), (by first | rfl | (simp; done) | (simp [*]; done)), H', ⟨by first | omega | exact Nat.le_refl _⟩, ⟨by (with_reducible repeat (first | apply Kd.V_alloc | apply Kd.V_drewN | apply Kd.V_drew)); exact Kd.V_mono HO1_2.out (fun _ hk => ⟨hk.1.1, ⟨hk.1.2, hk.2⟩⟩)⟩, ⟨by (with_reducible repeat (first | apply zn_ | apply zd_ | apply za_)); exact BK162.out⟩, ⟨by (with_reducible repeat (first | apply zn_ | apply zd_ | apply za_)); exact BK163.out⟩, ⟨by repeat (first | (with_reducible first | exact HB.out | apply pa_ | apply pd_ | apply p1_ | refine zs_ ?_ GE162.out | refine zs_ ?_ GE163.out) | exact HB.out)⟩⟩
    case rest =>
      clear HC7
      try clear c1
      try clear c2
      try clear p2
      try clear c3
      try clear c5
      try clear c6
      try clear c12
      try clear c12b0
      try clear c12b1
      try clear c14
      try clear c14b0
      try clear c14b1
      try clear c15
      try clear c20
      try clear c25
      try clear hcz16_0
      try clear hcz16_1
      try clear hcz16_2
      try clear hcz18_0
      try clear hcz18_1
      try clear hcz18_2
      try clear hcz21_0
      try clear hcz21_1
      try clear hcz21_2
      try clear hcz23_0
      try clear hcz23_1
      try clear hcz23_2
      try clear hcz26_0
      try clear hcz26_1
      try clear hcz26_2
      try clear hfz16_0
      try clear hfz16_1
      try clear hfz16_2
      try clear hfz18_0
      try clear hfz18_1
      try clear hfz18_2
      try clear hfz21_0
      try clear hfz21_1
      try clear hfz21_2
      try clear hfz23_0
      try clear hfz23_1
      try clear hfz23_2
      try clear hfz26_0
      try clear hfz26_1
      try clear hfz26_2
      obtain ⟨kq, x25_6, rfl, HA, HJ6, HO_164002, BK162, BK163, HB⟩ := hcut
      cases kq with
      | zero => exact absurd HA.out (by simp [usufructlaw25_BoundTells.j0])
      | succ kj6 =>
        have H := HA.out
        clear HA
        simp only [usufructlaw25_BoundTells.j0] at H
        by_cases c28 : x25_6 = true
        · subst c28
          have H1 : (some true) = some r := by rw [if_pos rfl] at H; exact H
          clear H
          have H := H1
          clear H1
          obtain rfl := Option.some.inj H
          go_wp2
          go_ret
          exact ⟨by first | rfl | (simp [errW_none, errW_some] <;> rfl) | (simp [*, errW_none, errW_some] <;> rfl), by repeat (first | (with_reducible first | exact HB.out | apply pa_ | apply pd_ | apply p1_ | refine zs_ ?_ GE162.out | refine zs_ ?_ GE163.out) | exact HB.out)⟩
        replace c28 := Bool.eq_false_iff.mpr c28
        subst c28
        have H1 : ((usufructref01_Of.f a3).bind fun t167 => ((usufructref25_Emissions.f kj6 a1_0 a1_1 l1_2).bind fun t168 => ((usufructref01_Times.f kj6 t168 t167).bind fun t169 => ((usufructref25_Longest.f kj6 (([(⟨a1_0, a1_1, l1_2⟩ : S28)] : List (S28))) l2).bind fun t173 => ((usufructref25_All.f kj6 t169 t167 t173).bind fun t174 => ((bound_Emissions.f a1_0 a1_1 l1_2).bind fun t175 => ((usufructref25_Emissions.f kj6 a1_0 a1_1 l1_2).bind fun t176 => (if t175 = t176 then ((bound_Longest.f l0_0 l2).bind fun t177 => ((usufructref25_Longest.f kj6 l0_0 l2).bind fun t178 => (if t177 = t178 then ((bound_Live.f l0_0 l0_1 a0_2).bind fun t179 => ((usufructref25_Live.f kj6 l0_0 l0_1 a0_2).bind fun t180 => (if t179 = t180 then ((bound_Ticks.f l0_0 l0_1 a0_2 l2).bind fun t181 => ((usufructref25_Ticks.f kj6 l0_0 l0_1 a0_2 l2).bind fun t182 => (if t181 = t182 then ((bound_Total.f a1_0 a1_1 l1_2 l2 a3).bind fun t183 => (some (t183 == t174))) else (some false)))) else (some false)))) else (some false)))) else (some false))))))))) = some r := by rw [if_neg (show ¬ (false = true) by decide)] at H; exact H
        clear H
        have H := H1
        clear H1
        replace H := Option.bind_eq_some_iff.mp H
        obtain ⟨t167, A290, H⟩ := H
        replace H : ((usufructref25_Emissions.f kj6 a1_0 a1_1 l1_2).bind fun t168 => ((usufructref01_Times.f kj6 t168 t167).bind fun t169 => ((usufructref25_Longest.f kj6 (([(⟨a1_0, a1_1, l1_2⟩ : S28)] : List (S28))) l2).bind fun t173 => ((usufructref25_All.f kj6 t169 t167 t173).bind fun t174 => ((bound_Emissions.f a1_0 a1_1 l1_2).bind fun t175 => ((usufructref25_Emissions.f kj6 a1_0 a1_1 l1_2).bind fun t176 => (if t175 = t176 then ((bound_Longest.f l0_0 l2).bind fun t177 => ((usufructref25_Longest.f kj6 l0_0 l2).bind fun t178 => (if t177 = t178 then ((bound_Live.f l0_0 l0_1 a0_2).bind fun t179 => ((usufructref25_Live.f kj6 l0_0 l0_1 a0_2).bind fun t180 => (if t179 = t180 then ((bound_Ticks.f l0_0 l0_1 a0_2 l2).bind fun t181 => ((usufructref25_Ticks.f kj6 l0_0 l0_1 a0_2 l2).bind fun t182 => (if t181 = t182 then ((bound_Total.f a1_0 a1_1 l1_2 l2 a3).bind fun t183 => (some (t183 == t174))) else (some false)))) else (some false)))) else (some false)))) else (some false)))))))) = some r := H
        have A29 := ak_ A290
        clear A290
        replace H := Option.bind_eq_some_iff.mp H
        obtain ⟨t168, A300, H⟩ := H
        replace H : ((usufructref01_Times.f kj6 t168 t167).bind fun t169 => ((usufructref25_Longest.f kj6 (([(⟨a1_0, a1_1, l1_2⟩ : S28)] : List (S28))) l2).bind fun t173 => ((usufructref25_All.f kj6 t169 t167 t173).bind fun t174 => ((bound_Emissions.f a1_0 a1_1 l1_2).bind fun t175 => ((usufructref25_Emissions.f kj6 a1_0 a1_1 l1_2).bind fun t176 => (if t175 = t176 then ((bound_Longest.f l0_0 l2).bind fun t177 => ((usufructref25_Longest.f kj6 l0_0 l2).bind fun t178 => (if t177 = t178 then ((bound_Live.f l0_0 l0_1 a0_2).bind fun t179 => ((usufructref25_Live.f kj6 l0_0 l0_1 a0_2).bind fun t180 => (if t179 = t180 then ((bound_Ticks.f l0_0 l0_1 a0_2 l2).bind fun t181 => ((usufructref25_Ticks.f kj6 l0_0 l0_1 a0_2 l2).bind fun t182 => (if t181 = t182 then ((bound_Total.f a1_0 a1_1 l1_2 l2 a3).bind fun t183 => (some (t183 == t174))) else (some false)))) else (some false)))) else (some false)))) else (some false))))))) = some r := H
        have A30 := ak_ A300
        clear A300
        replace H := Option.bind_eq_some_iff.mp H
        obtain ⟨t169, A310, H⟩ := H
        replace H : ((usufructref25_Longest.f kj6 (([(⟨a1_0, a1_1, l1_2⟩ : S28)] : List (S28))) l2).bind fun t173 => ((usufructref25_All.f kj6 t169 t167 t173).bind fun t174 => ((bound_Emissions.f a1_0 a1_1 l1_2).bind fun t175 => ((usufructref25_Emissions.f kj6 a1_0 a1_1 l1_2).bind fun t176 => (if t175 = t176 then ((bound_Longest.f l0_0 l2).bind fun t177 => ((usufructref25_Longest.f kj6 l0_0 l2).bind fun t178 => (if t177 = t178 then ((bound_Live.f l0_0 l0_1 a0_2).bind fun t179 => ((usufructref25_Live.f kj6 l0_0 l0_1 a0_2).bind fun t180 => (if t179 = t180 then ((bound_Ticks.f l0_0 l0_1 a0_2 l2).bind fun t181 => ((usufructref25_Ticks.f kj6 l0_0 l0_1 a0_2 l2).bind fun t182 => (if t181 = t182 then ((bound_Total.f a1_0 a1_1 l1_2 l2 a3).bind fun t183 => (some (t183 == t174))) else (some false)))) else (some false)))) else (some false)))) else (some false)))))) = some r := H
        have A31 := ak_ A310
        clear A310
        obtain ⟨y170, hy170⟩ : ∃ y_ : List (S28), y_ = (([(⟨a1_0, a1_1, l1_2⟩ : S28)] : List (S28))) := ⟨_, rfl⟩
        replace H : ((usufructref25_Longest.f kj6 y170 l2).bind fun t173 => ((usufructref25_All.f kj6 t169 t167 t173).bind fun t174 => ((bound_Emissions.f a1_0 a1_1 l1_2).bind fun t175 => ((usufructref25_Emissions.f kj6 a1_0 a1_1 l1_2).bind fun t176 => (if t175 = t176 then ((bound_Longest.f l0_0 l2).bind fun t177 => ((usufructref25_Longest.f kj6 l0_0 l2).bind fun t178 => (if t177 = t178 then ((bound_Live.f l0_0 l0_1 a0_2).bind fun t179 => ((usufructref25_Live.f kj6 l0_0 l0_1 a0_2).bind fun t180 => (if t179 = t180 then ((bound_Ticks.f l0_0 l0_1 a0_2 l2).bind fun t181 => ((usufructref25_Ticks.f kj6 l0_0 l0_1 a0_2 l2).bind fun t182 => (if t181 = t182 then ((bound_Total.f a1_0 a1_1 l1_2 l2 a3).bind fun t183 => (some (t183 == t174))) else (some false)))) else (some false)))) else (some false)))) else (some false)))))) = some r := by first | (rw [hy170]; with_reducible exact H) | (have H2_ := (Option.bind_some _ _).symm.trans H; rw [hy170]; with_reducible exact H2_) | (have H2_ := (Option.bind_some _ _).symm.trans H; with_reducible exact H2_) | with_reducible exact H | (rw [hy170]; exact H) | exact H
        have Ny170 := ak_ hy170
        clear hy170
        replace H := Option.bind_eq_some_iff.mp H
        obtain ⟨t173, A320, H⟩ := H
        replace H : ((usufructref25_All.f kj6 t169 t167 t173).bind fun t174 => ((bound_Emissions.f a1_0 a1_1 l1_2).bind fun t175 => ((usufructref25_Emissions.f kj6 a1_0 a1_1 l1_2).bind fun t176 => (if t175 = t176 then ((bound_Longest.f l0_0 l2).bind fun t177 => ((usufructref25_Longest.f kj6 l0_0 l2).bind fun t178 => (if t177 = t178 then ((bound_Live.f l0_0 l0_1 a0_2).bind fun t179 => ((usufructref25_Live.f kj6 l0_0 l0_1 a0_2).bind fun t180 => (if t179 = t180 then ((bound_Ticks.f l0_0 l0_1 a0_2 l2).bind fun t181 => ((usufructref25_Ticks.f kj6 l0_0 l0_1 a0_2 l2).bind fun t182 => (if t181 = t182 then ((bound_Total.f a1_0 a1_1 l1_2 l2 a3).bind fun t183 => (some (t183 == t174))) else (some false)))) else (some false)))) else (some false)))) else (some false))))) = some r := H
        have A32 := ak_ A320
        clear A320
        replace H := Option.bind_eq_some_iff.mp H
        obtain ⟨t174, A330, H⟩ := H
        replace H : ((bound_Emissions.f a1_0 a1_1 l1_2).bind fun t175 => ((usufructref25_Emissions.f kj6 a1_0 a1_1 l1_2).bind fun t176 => (if t175 = t176 then ((bound_Longest.f l0_0 l2).bind fun t177 => ((usufructref25_Longest.f kj6 l0_0 l2).bind fun t178 => (if t177 = t178 then ((bound_Live.f l0_0 l0_1 a0_2).bind fun t179 => ((usufructref25_Live.f kj6 l0_0 l0_1 a0_2).bind fun t180 => (if t179 = t180 then ((bound_Ticks.f l0_0 l0_1 a0_2 l2).bind fun t181 => ((usufructref25_Ticks.f kj6 l0_0 l0_1 a0_2 l2).bind fun t182 => (if t181 = t182 then ((bound_Total.f a1_0 a1_1 l1_2 l2 a3).bind fun t183 => (some (t183 == t174))) else (some false)))) else (some false)))) else (some false)))) else (some false)))) = some r := H
        have A33 := ak_ A330
        clear A330
        replace H := Option.bind_eq_some_iff.mp H
        obtain ⟨t175, A340, H⟩ := H
        replace H : ((usufructref25_Emissions.f kj6 a1_0 a1_1 l1_2).bind fun t176 => (if t175 = t176 then ((bound_Longest.f l0_0 l2).bind fun t177 => ((usufructref25_Longest.f kj6 l0_0 l2).bind fun t178 => (if t177 = t178 then ((bound_Live.f l0_0 l0_1 a0_2).bind fun t179 => ((usufructref25_Live.f kj6 l0_0 l0_1 a0_2).bind fun t180 => (if t179 = t180 then ((bound_Ticks.f l0_0 l0_1 a0_2 l2).bind fun t181 => ((usufructref25_Ticks.f kj6 l0_0 l0_1 a0_2 l2).bind fun t182 => (if t181 = t182 then ((bound_Total.f a1_0 a1_1 l1_2 l2 a3).bind fun t183 => (some (t183 == t174))) else (some false)))) else (some false)))) else (some false)))) else (some false))) = some r := H
        have A34 := ak_ A340
        clear A340
        replace H := Option.bind_eq_some_iff.mp H
        obtain ⟨t176, A350, H⟩ := H
        replace H : (if t175 = t176 then ((bound_Longest.f l0_0 l2).bind fun t177 => ((usufructref25_Longest.f kj6 l0_0 l2).bind fun t178 => (if t177 = t178 then ((bound_Live.f l0_0 l0_1 a0_2).bind fun t179 => ((usufructref25_Live.f kj6 l0_0 l0_1 a0_2).bind fun t180 => (if t179 = t180 then ((bound_Ticks.f l0_0 l0_1 a0_2 l2).bind fun t181 => ((usufructref25_Ticks.f kj6 l0_0 l0_1 a0_2 l2).bind fun t182 => (if t181 = t182 then ((bound_Total.f a1_0 a1_1 l1_2 l2 a3).bind fun t183 => (some (t183 == t174))) else (some false)))) else (some false)))) else (some false)))) else (some false)) = some r := H
        have A35 := ak_ A350
        have E35 := ak_ (Option.some.inj (A35.out.symm.trans A30.out))
        clear A350
        by_cases c36 : t175 = t176
        · rw [if_pos c36] at H
          have c36b0 : (t175 == t176) = true := beq_iff_eq.mpr c36
          have c36b1 : (t175 != t176) = false := bne_eq_false_iff_eq.mpr c36
          clear c36
          replace H := Option.bind_eq_some_iff.mp H
          obtain ⟨t177, A370, H⟩ := H
          replace H : ((usufructref25_Longest.f kj6 l0_0 l2).bind fun t178 => (if t177 = t178 then ((bound_Live.f l0_0 l0_1 a0_2).bind fun t179 => ((usufructref25_Live.f kj6 l0_0 l0_1 a0_2).bind fun t180 => (if t179 = t180 then ((bound_Ticks.f l0_0 l0_1 a0_2 l2).bind fun t181 => ((usufructref25_Ticks.f kj6 l0_0 l0_1 a0_2 l2).bind fun t182 => (if t181 = t182 then ((bound_Total.f a1_0 a1_1 l1_2 l2 a3).bind fun t183 => (some (t183 == t174))) else (some false)))) else (some false)))) else (some false))) = some r := H
          have A37 := ak_ A370
          clear A370
          replace H := Option.bind_eq_some_iff.mp H
          obtain ⟨t178, A380, H⟩ := H
          replace H : (if t177 = t178 then ((bound_Live.f l0_0 l0_1 a0_2).bind fun t179 => ((usufructref25_Live.f kj6 l0_0 l0_1 a0_2).bind fun t180 => (if t179 = t180 then ((bound_Ticks.f l0_0 l0_1 a0_2 l2).bind fun t181 => ((usufructref25_Ticks.f kj6 l0_0 l0_1 a0_2 l2).bind fun t182 => (if t181 = t182 then ((bound_Total.f a1_0 a1_1 l1_2 l2 a3).bind fun t183 => (some (t183 == t174))) else (some false)))) else (some false)))) else (some false)) = some r := H
          have A38 := ak_ A380
          clear A380
          by_cases c39 : t177 = t178
          · rw [if_pos c39] at H
            have c39b0 : (t177 == t178) = true := beq_iff_eq.mpr c39
            have c39b1 : (t177 != t178) = false := bne_eq_false_iff_eq.mpr c39
            clear c39
            replace H := Option.bind_eq_some_iff.mp H
            obtain ⟨t179, A400, H⟩ := H
            replace H : ((usufructref25_Live.f kj6 l0_0 l0_1 a0_2).bind fun t180 => (if t179 = t180 then ((bound_Ticks.f l0_0 l0_1 a0_2 l2).bind fun t181 => ((usufructref25_Ticks.f kj6 l0_0 l0_1 a0_2 l2).bind fun t182 => (if t181 = t182 then ((bound_Total.f a1_0 a1_1 l1_2 l2 a3).bind fun t183 => (some (t183 == t174))) else (some false)))) else (some false))) = some r := H
            have A40 := ak_ A400
            clear A400
            replace H := Option.bind_eq_some_iff.mp H
            obtain ⟨t180, A410, H⟩ := H
            replace H : (if t179 = t180 then ((bound_Ticks.f l0_0 l0_1 a0_2 l2).bind fun t181 => ((usufructref25_Ticks.f kj6 l0_0 l0_1 a0_2 l2).bind fun t182 => (if t181 = t182 then ((bound_Total.f a1_0 a1_1 l1_2 l2 a3).bind fun t183 => (some (t183 == t174))) else (some false)))) else (some false)) = some r := H
            have A41 := ak_ A410
            clear A410
            by_cases c42 : t179 = t180
            · rw [if_pos c42] at H
              have c42b0 : (t179 == t180) = true := beq_iff_eq.mpr c42
              have c42b1 : (t179 != t180) = false := bne_eq_false_iff_eq.mpr c42
              clear c42
              replace H := Option.bind_eq_some_iff.mp H
              obtain ⟨t181, A430, H⟩ := H
              replace H : ((usufructref25_Ticks.f kj6 l0_0 l0_1 a0_2 l2).bind fun t182 => (if t181 = t182 then ((bound_Total.f a1_0 a1_1 l1_2 l2 a3).bind fun t183 => (some (t183 == t174))) else (some false))) = some r := H
              have A43 := ak_ A430
              clear A430
              replace H := Option.bind_eq_some_iff.mp H
              obtain ⟨t182, A440, H⟩ := H
              replace H : (if t181 = t182 then ((bound_Total.f a1_0 a1_1 l1_2 l2 a3).bind fun t183 => (some (t183 == t174))) else (some false)) = some r := H
              have A44 := ak_ A440
              clear A440
              by_cases c45 : t181 = t182
              · rw [if_pos c45] at H
                have c45b0 : (t181 == t182) = true := beq_iff_eq.mpr c45
                have c45b1 : (t181 != t182) = false := bne_eq_false_iff_eq.mpr c45
                clear c45
                replace H := Option.bind_eq_some_iff.mp H
                obtain ⟨t183, A460, H⟩ := H
                replace H : (some (t183 == t174)) = some r := H
                have A46 := ak_ A460
                clear A460
                obtain rfl := Option.some.inj H
                try go_wp2_with (first | ((with_reducible refine gate_callee (f := 8) rfl ?_); refine goesL_ (some 27) rfl rfl Try.func8 (by kernel_rfl) rfl #[.int .i64 a3] rfl (by simp only [mt_, mc_, mn_] <;> rfl) ?_; (with_reducible refine (usufructref01_Of.calls a3 t167 _ A29.out).mono ?_); rintro e w' ⟨rfl, ⟨nd, rfl⟩⟩; refine ⟨_, rfl, ?_⟩))
                (try (rw [drewN_self wc]; generalize hq_ : World.drewN wc _ = wc; have n0_ : Aside0 (Kd.V k49 49 wc w.heap.size (fun k_ => (P1_2_ k_ ∨ w.heap.size ≤ k_) ∧ k_ ≠ gb162 ∧ k_ ≠ gb163) (.slice A1_2 l1_2.length c1_2) l1_2) := ⟨by rw [← hq_]; exact (by (with_reducible repeat (first | apply Kd.V_alloc | apply Kd.V_drewN | apply Kd.V_drew)); exact HO_164002.out)⟩; have n1_ : Aside0 (wc.heap[gb162]? = some (.cells #[.slice A0_0 l0_0.length c0_0, .slice A0_1 l0_1.length c0_1, .int .i64 a0_2] 25 (0, 0))) := ⟨by rw [← hq_]; exact (by (with_reducible repeat (first | apply zn_ | apply zd_ | apply za_)); exact BK162.out)⟩; have n2_ : Aside0 (wc.heap[gb163]? = some (.cells #[.string a1_0, .int .i64 a1_1, .slice A1_2 l1_2.length c1_2] 28 (0, 0))) := ⟨by rw [← hq_]; exact (by (with_reducible repeat (first | apply zn_ | apply zd_ | apply za_)); exact BK163.out)⟩; have n3_ : Aside0 (Below w.heap.size w wc) := ⟨by rw [← hq_]; exact (by repeat (first | (with_reducible first | exact HB.out | apply pa_ | apply pd_ | apply p1_ | refine zs_ ?_ GE162.out | refine zs_ ?_ GE163.out) | exact HB.out))⟩; clear HO_164002 BK162 BK163 HB hq_; have HO_164002 := n0_; have BK162 := n1_; have BK163 := n2_; have HB := n3_; clear n0_ n1_ n2_ n3_))
                have n0_ := ak_ (Kd.V_drew HO_164002.out)
                have n1_ := ak_ (zd_ BK162.out)
                have n2_ := ak_ (zd_ BK163.out)
                have n3_ := ak_ (p1_ HB.out)
                clear HO_164002
                clear BK162
                clear BK163
                clear HB
                have HO_164002 := n0_
                have BK162 := n1_
                have BK163 := n2_
                have HB := n3_
                clear n0_ n1_ n2_ n3_
                refine start_ (n := 11) (S := fun w' => w'.cell? ⟨gb163, 0, none⟩ = some (.string a1_0) ∧ w'.cell? ⟨gb163, 1, none⟩ = some (.int .i64 a1_1) ∧ w'.cell? ⟨gb163, 2, none⟩ = some (.slice A1_2 l1_2.length c1_2)) (ds := []) #[false, false, false, false, false, false, false, false, false, false, false] (by kernel_rfl) rfl rfl ⟨(zc_ BK163.out 0).trans rfl, (zc_ BK163.out 1).trans rfl, (zc_ BK163.out 2).trans rfl⟩ (fun hHeld => ?_); refine with_tabW usufructlaw25_BoundTells.tab6 usufructlaw25_BoundTells.bits6 (fun HT_ HW_ => ?_)
                generalize wc.drew = w47 at HO_164002 BK162 BK163 HB hHeld ⊢
                refine pure_ (i := 2) (N := some 30) (v := ?_) (a' := ?_) (b_ 11 4) rfl rfl (any_of HT_.out (by kernel_rfl)) (fun _ _ _ h => h) (Or.inl ⟨by rfl, ?_⟩) ?_ ?_; rotate_left; (· intro w'; go_simp; with_reducible rfl); rotate_left; (· simp only [Act.put, sa_, sz_, ss_, i64_w, i32_w]; rfl)
                refine pure_ (i := 4) (N := some 32) (v := ?_) (a' := ?_) (b_ 11 20) rfl rfl (any_of HT_.out (by kernel_rfl)) (fun _ _ _ h => h) (Or.inl ⟨by rfl, ?_⟩) ?_ ?_; rotate_left; (· intro w'; go_simp; with_reducible rfl); rotate_left; (· simp only [Act.put, sa_, sz_, ss_, i64_w, i32_w]; rfl)
                refine pure_ (i := 7) (N := some 35) (v := ?_) (a' := ?_) (b_ 11 148) rfl rfl (any_of HT_.out (by kernel_rfl)) (fun _ _ _ h => h) (Or.inl ⟨by rfl, ?_⟩) ?_ ?_; rotate_left; (· intro w'; go_simp; with_reducible rfl); rotate_left; (· simp only [Act.put, sa_, sz_, ss_, i64_w, i32_w]; rfl)
                refine take_ (i := 0) (N := some 28) (v := ?_) (a' := ?_) (b_ 11 149) rfl rfl (take_ofW HT_.out HW_.out (by kernel_rfl)) (fun _ _ _ h => h) (Or.inl ⟨by rfl, ?_⟩) hHeld ?_ ?_
                rotate_left
                · rintro w' ⟨s0, s1, s2⟩
                  go_simp
                  with_reducible rfl
                rotate_left
                · simp only [Act.put, sa_, sz_, ss_, i64_w, i32_w]
                  rfl
                refine take_ (i := 5) (N := some 33) (v := ?_) (a' := ?_) (b_ 11 181) rfl rfl (take_ofW HT_.out HW_.out (by kernel_rfl)) (fun _ _ _ h => h) (Or.inl ⟨by rfl, ?_⟩) hHeld ?_ ?_
                rotate_left
                · rintro w' ⟨s0, s1, s2⟩
                  go_simp
                  with_reducible rfl
                rotate_left
                · simp only [Act.put, sa_, sz_, ss_, i64_w, i32_w]
                  rfl
                refine join_ (σ := Value) 3 (b_ 11 255) (fun s_ => [(29, .int .i64 t168), (31, .int .i64 t169), (34, s_)]) (fun s_ w' => (w'.cell? ⟨gb163, 0, none⟩ = some (.string a1_0) ∧ w'.cell? ⟨gb163, 1, none⟩ = some (.int .i64 a1_1) ∧ w'.cell? ⟨gb163, 2, none⟩ = some (.slice A1_2 l1_2.length c1_2)) ∧ (Kd.N k28 28 w' w.heap.size (fun k_ => (P1_2_ k_ ∨ w.heap.size ≤ k_) ∧ k_ ≠ gb162 ∧ k_ ≠ gb163) s_ y170) ∧ (Kd.V k49 49 w' w.heap.size (fun k_ => (P1_2_ k_ ∨ w.heap.size ≤ k_) ∧ some k_ ≠ (s_ : Value).ownBlock ∧ k_ ≠ gb162 ∧ k_ ≠ gb163) (.slice A1_2 l1_2.length c1_2) l1_2) ∧ (w'.heap[gb162]? = some (.cells #[.slice A0_0 l0_0.length c0_0, .slice A0_1 l0_1.length c0_1, .int .i64 a0_2] 25 (0, 0))) ∧ (w'.heap[gb163]? = some (.cells #[.string a1_0, .int .i64 a1_1, .slice A1_2 l1_2.length c1_2] 28 (0, 0))) ∧ (Below w.heap.size w w')) ?_ ?_
                rotate_left
                · intro hCont
                  refine two_ (i := 1) (j := 6) (Ni := some 29) (Nj := some 34) (b_ 11 183) (b_ 11 245) rfl rfl rfl rfl (two_of HT_.out (by kernel_rfl)) (by decide) (by decide) (fun K hK => ?_) (fun K hK => ?_)
                  · skip
                    refine goes_ Try.func11 (by kernel_rfl) rfl #[.agg #[.string a1_0, .int .i64 a1_1, .slice A1_2 l1_2.length c1_2]] (by rfl) rfl rfl (by (try simp only [List.map_toArray, List.map_cons, List.map_nil]); first | done | rfl | (simp only [List.length_drop, List.length_take]; rfl)) ?_
                    with_reducible refine (usufructref25_Emissions.calls kj6 a1_0 a1_1 _ _ l1_2 t168 _ ?side1 ?side2 A30.out).mono ?_
                    (case side1 => repeat (first | exact (Kd.V_reads' HO_164002.out).2.2 | (with_reducible refine Kd.C_alloc ?_ _) | (with_reducible refine Kd.C_drewN ?_ _) | (with_reducible refine Kd.C_drew ?_)))
                    (case side2 => exact (Kd.V_reads' HO_164002.out).2.1)
                    rintro e w48 ⟨rfl, hb⟩
                    refine ⟨_, rfl, ?_⟩
                    have n0_ := ak_ (Kd.V_below (by (with_reducible repeat (first | apply Kd.V_alloc | apply Kd.V_drewN | apply Kd.V_drew)); exact HO_164002.out) hb)
                    have n1_ := ak_ (blk_below (g := gb162) (o := .cells #[.slice A0_0 l0_0.length c0_0, .slice A0_1 l0_1.length c0_1, .int .i64 a0_2] 25 (0, 0)) (by (with_reducible repeat (first | apply zn_ | apply zd_ | apply za_)); exact BK162.out) hb)
                    have n2_ := ak_ (blk_below (g := gb163) (o := .cells #[.string a1_0, .int .i64 a1_1, .slice A1_2 l1_2.length c1_2] 28 (0, 0)) (by (with_reducible repeat (first | apply zn_ | apply zd_ | apply za_)); exact BK163.out) hb)
                    have n3_ := ak_ (ps_ (by repeat (first | (with_reducible first | exact HB.out | apply pa_ | apply pd_ | apply p1_ | refine zs_ ?_ GE162.out | refine zs_ ?_ GE163.out) | exact HB.out)) hb)
                    clear HO_164002
                    clear BK162
                    clear BK163
                    clear HB
                    have HO_164002 := n0_
                    have BK162 := n1_
                    have BK163 := n2_
                    have HB := n3_
                    clear n0_ n1_ n2_ n3_
                    (try clear hb hk hi)
                    refine hK.out _ _ ⟨(zc_ BK163.out 0).trans rfl, (zc_ BK163.out 1).trans rfl, (zc_ BK163.out 2).trans rfl⟩ (fun hHeld => ?_)
                    clear hK K
                    refine norm_ (a' := ?_) ?_ ?_
                    rotate_left
                    · show Act.put _ (some 29) _ = _
                      simp only [Act.put, sa_, sz_, ss_, i64_w, i32_w]
                      rfl
                    refine two_ (i := 3) (j := 6) (Ni := some 31) (Nj := some 34) (b_ 11 191) (b_ 11 247) rfl rfl rfl rfl (two_of HT_.out (by kernel_rfl)) (by decide) (by decide) (fun K hK => ?_) (fun K hK => ?_)
                    · skip
                      refine goes_ Try.func10 (by kernel_rfl) rfl #[.int .i64 t168, .int .i64 t167] (by rfl) rfl rfl (by (try simp only [List.map_toArray, List.map_cons, List.map_nil]); first | done | rfl | (simp only [List.length_drop, List.length_take]; rfl)) ?_
                      with_reducible refine (usufructref01_Times.calls kj6 t168 t167 t169 _ A31.out).mono ?_
                      rintro e w' ⟨rfl, ⟨nd, rfl⟩⟩
                      refine ⟨_, rfl, ?_⟩
                      refine hK.out _ _ ⟨(zc_ BK163.out 0).trans rfl, (zc_ BK163.out 1).trans rfl, (zc_ BK163.out 2).trans rfl⟩ (fun hHeld => ?_)
                      clear hK K
                      refine norm_ (a' := ?_) ?_ ?_
                      rotate_left
                      · show Act.put _ (some 31) _ = _
                        simp only [Act.put, sa_, sz_, ss_, i64_w, i32_w]
                        rfl
                      refine one_ (i := 6) (N := some 34) (b_ 11 255) rfl rfl (one_of HT_.out (by kernel_rfl)) (by decide) (fun K hK => ?_)
                      refine Kd.N_lit_step k28 _ 28 ?hg (N' := 34) ?hd (xs := ([(⟨a1_0, a1_1, l1_2⟩ : S28)] : List (S28))) (inner := [.string a1_0, .int .i64 a1_1, .slice A1_2 l1_2.length c1_2]) (ok := (fun k_ => (P1_2_ k_ ∨ w.heap.size ≤ k_) ∧ k_ ≠ gb162 ∧ k_ ≠ gb163)) (okp := (fun k_ => (P1_2_ k_ ∨ w.heap.size ≤ k_) ∧ k_ ≠ gb162 ∧ k_ ≠ gb163)) ?hr ?hp (fun _ hk => hk) ((show ∀ k_, w48.heap.size ≤ k_ → (fun k_ => (P1_2_ k_ ∨ w.heap.size ≤ k_) ∧ k_ ≠ gb162 ∧ k_ ≠ gb163) k_ from fun k_ hk => ⟨(.inr (Nat.le_trans (below_size (by repeat (first | (with_reducible first | exact HB.out | apply pa_ | apply pd_ | apply p1_ | refine zs_ ?_ GE162.out | refine zs_ ?_ GE163.out) | exact HB.out))) hk)), Kd.freshB (g := gb162) (o := .cells #[.slice A0_0 l0_0.length c0_0, .slice A0_1 l0_1.length c0_1, .int .i64 a0_2] 25 (0, 0)) (by (with_reducible repeat (first | apply zn_ | apply zd_ | apply za_)); exact BK162.out) k_ hk, Kd.freshB (g := gb163) (o := .cells #[.string a1_0, .int .i64 a1_1, .slice A1_2 l1_2.length c1_2] 28 (0, 0)) (by (with_reducible repeat (first | apply zn_ | apply zd_ | apply za_)); exact BK163.out) k_ hk⟩) _ (Nat.le_refl _)) (Below.refl _ _) (Nat.le_refl _) (by simp) ?_; (case hd => rfl); (case hg => rfl); (case hr => first | (go_simp; done) | (go_simp; rfl)); (case hp => exact (Reps.c3 (show Kd.FK k28 _ _ (⟨a1_0, a1_1, l1_2⟩ : S28) [.string a1_0, .int .i64 a1_1, .slice A1_2 l1_2.length c1_2] from (k28_mkF _ _ (⟨a1_0, a1_1, l1_2⟩ : S28) (Kd.V_reads' (Kd.V_mono (ok' := (fun k_ => (P1_2_ k_ ∨ w.heap.size ≤ k_) ∧ k_ ≠ gb162 ∧ k_ ≠ gb163)) (HO_164002.out) (fun k_ hk => ⟨hk.1, ⟨hk.2.1, hk.2.2⟩⟩))).2.1 (Kd.V_F (e := 0) (base := 0) (Kd.V_mono (e := 0) (base := 0) (ok' := (fun k_ => (P1_2_ k_ ∨ w.heap.size ≤ k_) ∧ k_ ≠ gb162 ∧ k_ ≠ gb163)) (HO_164002.out) (fun k_ hk => ⟨hk.1, ⟨hk.2.1, hk.2.2⟩⟩))))) (Reps.none _ _)))
                      intro v171 w49 ho50 hb hg_ hnew_
                      clear hg_ hnew_
                      (first | rw [← Ny170.out] at ho50 | (simp only [Int.reduceToNat] at ho50; rw [← Ny170.out] at ho50))
                      have n0_ := ak_ (Kd.V_elder' (by (with_reducible repeat (first | apply Kd.V_alloc | apply Kd.V_drewN | apply Kd.V_drew)); exact HO_164002.out) (Kd.N_base ho50) hb)
                      have n1_ := ak_ (Kd.N_lower ho50 (below_size (by repeat (first | (with_reducible first | exact HB.out | apply pa_ | apply pd_ | apply p1_ | refine zs_ ?_ GE162.out | refine zs_ ?_ GE163.out) | exact HB.out))))
                      have n2_ := ak_ (blk_below (g := gb162) (o := .cells #[.slice A0_0 l0_0.length c0_0, .slice A0_1 l0_1.length c0_1, .int .i64 a0_2] 25 (0, 0)) (by (with_reducible repeat (first | apply zn_ | apply zd_ | apply za_)); exact BK162.out) hb)
                      have n3_ := ak_ (blk_below (g := gb163) (o := .cells #[.string a1_0, .int .i64 a1_1, .slice A1_2 l1_2.length c1_2] 28 (0, 0)) (by (with_reducible repeat (first | apply zn_ | apply zd_ | apply za_)); exact BK163.out) hb)
                      have n4_ := ak_ (ps_ (by repeat (first | (with_reducible first | exact HB.out | apply pa_ | apply pd_ | apply p1_ | refine zs_ ?_ GE162.out | refine zs_ ?_ GE163.out) | exact HB.out)) hb)
                      clear HO_164002
                      clear BK162
                      clear BK163
                      clear HB
                      have HO_164002 := n0_
                      have HO172 := n1_
                      have BK162 := n2_
                      have BK163 := n3_
                      have HB := n4_
                      clear n0_ n1_ n2_ n3_ n4_
                      clear hb ho50
                      refine hK.out _ _ ⟨(zc_ BK163.out 0).trans rfl, (zc_ BK163.out 1).trans rfl, (zc_ BK163.out 2).trans rfl⟩ (fun hHeld => ?_)
                      clear hK K
                      refine norm_ (a' := ?_) ?_ ?_
                      rotate_left
                      · show Act.put _ (some 34) _ = _
                        simp only [Act.put, sa_, sz_, ss_, i64_w, i32_w]
                        rfl
                      exact norm_ (by simp only [putAll, Act.put, sa_, sz_, ss_]) (hCont (v171) _ ⟨hHeld, (by (with_reducible repeat (first | apply Kd.N_alloc | apply Kd.N_drewN | apply Kd.N_drew)); exact HO172.out), (by (with_reducible repeat (first | apply Kd.V_alloc | apply Kd.V_drewN | apply Kd.V_drew)); exact Kd.V_mono HO_164002.out (fun _ hk => ⟨hk.1.1, ⟨hk.2, ⟨hk.1.2.1, hk.1.2.2⟩⟩⟩)), (by (with_reducible repeat (first | apply zn_ | apply zd_ | apply za_)); exact BK162.out), (by (with_reducible repeat (first | apply zn_ | apply zd_ | apply za_)); exact BK163.out), (by repeat (first | (with_reducible first | exact HB.out | apply pa_ | apply pd_ | apply p1_ | refine zs_ ?_ GE162.out | refine zs_ ?_ GE163.out) | exact HB.out))⟩)
                    skip
                    refine Kd.N_lit_step k28 _ 28 ?hg (N' := 34) ?hd (xs := ([(⟨a1_0, a1_1, l1_2⟩ : S28)] : List (S28))) (inner := [.string a1_0, .int .i64 a1_1, .slice A1_2 l1_2.length c1_2]) (ok := (fun k_ => (P1_2_ k_ ∨ w.heap.size ≤ k_) ∧ k_ ≠ gb162 ∧ k_ ≠ gb163)) (okp := (fun k_ => (P1_2_ k_ ∨ w.heap.size ≤ k_) ∧ k_ ≠ gb162 ∧ k_ ≠ gb163)) ?hr ?hp (fun _ hk => hk) ((show ∀ k_, w48.heap.size ≤ k_ → (fun k_ => (P1_2_ k_ ∨ w.heap.size ≤ k_) ∧ k_ ≠ gb162 ∧ k_ ≠ gb163) k_ from fun k_ hk => ⟨(.inr (Nat.le_trans (below_size (by repeat (first | (with_reducible first | exact HB.out | apply pa_ | apply pd_ | apply p1_ | refine zs_ ?_ GE162.out | refine zs_ ?_ GE163.out) | exact HB.out))) hk)), Kd.freshB (g := gb162) (o := .cells #[.slice A0_0 l0_0.length c0_0, .slice A0_1 l0_1.length c0_1, .int .i64 a0_2] 25 (0, 0)) (by (with_reducible repeat (first | apply zn_ | apply zd_ | apply za_)); exact BK162.out) k_ hk, Kd.freshB (g := gb163) (o := .cells #[.string a1_0, .int .i64 a1_1, .slice A1_2 l1_2.length c1_2] 28 (0, 0)) (by (with_reducible repeat (first | apply zn_ | apply zd_ | apply za_)); exact BK163.out) k_ hk⟩) _ (Nat.le_refl _)) (Below.refl _ _) (Nat.le_refl _) (by simp) ?_; (case hd => rfl); (case hg => rfl); (case hr => first | (go_simp; done) | (go_simp; rfl)); (case hp => exact (Reps.c3 (show Kd.FK k28 _ _ (⟨a1_0, a1_1, l1_2⟩ : S28) [.string a1_0, .int .i64 a1_1, .slice A1_2 l1_2.length c1_2] from (k28_mkF _ _ (⟨a1_0, a1_1, l1_2⟩ : S28) (Kd.V_reads' (Kd.V_mono (ok' := (fun k_ => (P1_2_ k_ ∨ w.heap.size ≤ k_) ∧ k_ ≠ gb162 ∧ k_ ≠ gb163)) (HO_164002.out) (fun k_ hk => ⟨hk.1, ⟨hk.2.1, hk.2.2⟩⟩))).2.1 (Kd.V_F (e := 0) (base := 0) (Kd.V_mono (e := 0) (base := 0) (ok' := (fun k_ => (P1_2_ k_ ∨ w.heap.size ≤ k_) ∧ k_ ≠ gb162 ∧ k_ ≠ gb163)) (HO_164002.out) (fun k_ hk => ⟨hk.1, ⟨hk.2.1, hk.2.2⟩⟩))))) (Reps.none _ _)))
                    intro v171 w49 ho50 hb hg_ hnew_
                    clear hg_ hnew_
                    (first | rw [← Ny170.out] at ho50 | (simp only [Int.reduceToNat] at ho50; rw [← Ny170.out] at ho50))
                    have n0_ := ak_ (Kd.V_elder' (by (with_reducible repeat (first | apply Kd.V_alloc | apply Kd.V_drewN | apply Kd.V_drew)); exact HO_164002.out) (Kd.N_base ho50) hb)
                    have n1_ := ak_ (Kd.N_lower ho50 (below_size (by repeat (first | (with_reducible first | exact HB.out | apply pa_ | apply pd_ | apply p1_ | refine zs_ ?_ GE162.out | refine zs_ ?_ GE163.out) | exact HB.out))))
                    have n2_ := ak_ (blk_below (g := gb162) (o := .cells #[.slice A0_0 l0_0.length c0_0, .slice A0_1 l0_1.length c0_1, .int .i64 a0_2] 25 (0, 0)) (by (with_reducible repeat (first | apply zn_ | apply zd_ | apply za_)); exact BK162.out) hb)
                    have n3_ := ak_ (blk_below (g := gb163) (o := .cells #[.string a1_0, .int .i64 a1_1, .slice A1_2 l1_2.length c1_2] 28 (0, 0)) (by (with_reducible repeat (first | apply zn_ | apply zd_ | apply za_)); exact BK163.out) hb)
                    have n4_ := ak_ (ps_ (by repeat (first | (with_reducible first | exact HB.out | apply pa_ | apply pd_ | apply p1_ | refine zs_ ?_ GE162.out | refine zs_ ?_ GE163.out) | exact HB.out)) hb)
                    clear HO_164002
                    clear BK162
                    clear BK163
                    clear HB
                    have HO_164002 := n0_
                    have HO172 := n1_
                    have BK162 := n2_
                    have BK163 := n3_
                    have HB := n4_
                    clear n0_ n1_ n2_ n3_ n4_
                    clear hb ho50
                    refine hK.out _ _ ⟨(zc_ BK163.out 0).trans rfl, (zc_ BK163.out 1).trans rfl, (zc_ BK163.out 2).trans rfl⟩ (fun hHeld => ?_)
                    clear hK K
                    refine norm_ (a' := ?_) ?_ ?_
                    rotate_left
                    · show Act.put _ (some 34) _ = _
                      simp only [Act.put, sa_, sz_, ss_, i64_w, i32_w]
                      rfl
                    refine one_ (i := 3) (N := some 31) (b_ 11 255) rfl rfl (one_of HT_.out (by kernel_rfl)) (by decide) (fun K hK => ?_)
                    refine goes_ Try.func10 (by kernel_rfl) rfl #[.int .i64 t168, .int .i64 t167] (by rfl) rfl rfl (by (try simp only [List.map_toArray, List.map_cons, List.map_nil]); first | done | rfl | (simp only [List.length_drop, List.length_take]; rfl)) ?_
                    with_reducible refine (usufructref01_Times.calls kj6 t168 t167 t169 _ A31.out).mono ?_
                    rintro e w' ⟨rfl, ⟨nd, rfl⟩⟩
                    refine ⟨_, rfl, ?_⟩
                    refine hK.out _ _ ⟨(zc_ BK163.out 0).trans rfl, (zc_ BK163.out 1).trans rfl, (zc_ BK163.out 2).trans rfl⟩ (fun hHeld => ?_)
                    clear hK K
                    refine norm_ (a' := ?_) ?_ ?_
                    rotate_left
                    · show Act.put _ (some 31) _ = _
                      simp only [Act.put, sa_, sz_, ss_, i64_w, i32_w]
                      rfl
                    exact norm_ (by simp only [putAll, Act.put, sa_, sz_, ss_]) (hCont (v171) _ ⟨hHeld, (by (with_reducible repeat (first | apply Kd.N_alloc | apply Kd.N_drewN | apply Kd.N_drew)); exact HO172.out), (by (with_reducible repeat (first | apply Kd.V_alloc | apply Kd.V_drewN | apply Kd.V_drew)); exact Kd.V_mono HO_164002.out (fun _ hk => ⟨hk.1.1, ⟨hk.2, ⟨hk.1.2.1, hk.1.2.2⟩⟩⟩)), (by (with_reducible repeat (first | apply zn_ | apply zd_ | apply za_)); exact BK162.out), (by (with_reducible repeat (first | apply zn_ | apply zd_ | apply za_)); exact BK163.out), (by repeat (first | (with_reducible first | exact HB.out | apply pa_ | apply pd_ | apply p1_ | refine zs_ ?_ GE162.out | refine zs_ ?_ GE163.out) | exact HB.out))⟩)
                  skip
                  refine Kd.N_lit_step k28 _ 28 ?hg (N' := 34) ?hd (xs := ([(⟨a1_0, a1_1, l1_2⟩ : S28)] : List (S28))) (inner := [.string a1_0, .int .i64 a1_1, .slice A1_2 l1_2.length c1_2]) (ok := (fun k_ => (P1_2_ k_ ∨ w.heap.size ≤ k_) ∧ k_ ≠ gb162 ∧ k_ ≠ gb163)) (okp := (fun k_ => (P1_2_ k_ ∨ w.heap.size ≤ k_) ∧ k_ ≠ gb162 ∧ k_ ≠ gb163)) ?hr ?hp (fun _ hk => hk) ((show ∀ k_, w47.heap.size ≤ k_ → (fun k_ => (P1_2_ k_ ∨ w.heap.size ≤ k_) ∧ k_ ≠ gb162 ∧ k_ ≠ gb163) k_ from fun k_ hk => ⟨(.inr (Nat.le_trans (below_size (by repeat (first | (with_reducible first | exact HB.out | apply pa_ | apply pd_ | apply p1_ | refine zs_ ?_ GE162.out | refine zs_ ?_ GE163.out) | exact HB.out))) hk)), Kd.freshB (g := gb162) (o := .cells #[.slice A0_0 l0_0.length c0_0, .slice A0_1 l0_1.length c0_1, .int .i64 a0_2] 25 (0, 0)) (by (with_reducible repeat (first | apply zn_ | apply zd_ | apply za_)); exact BK162.out) k_ hk, Kd.freshB (g := gb163) (o := .cells #[.string a1_0, .int .i64 a1_1, .slice A1_2 l1_2.length c1_2] 28 (0, 0)) (by (with_reducible repeat (first | apply zn_ | apply zd_ | apply za_)); exact BK163.out) k_ hk⟩) _ (Nat.le_refl _)) (Below.refl _ _) (Nat.le_refl _) (by simp) ?_; (case hd => rfl); (case hg => rfl); (case hr => first | (go_simp; done) | (go_simp; rfl)); (case hp => exact (Reps.c3 (show Kd.FK k28 _ _ (⟨a1_0, a1_1, l1_2⟩ : S28) [.string a1_0, .int .i64 a1_1, .slice A1_2 l1_2.length c1_2] from (k28_mkF _ _ (⟨a1_0, a1_1, l1_2⟩ : S28) (Kd.V_reads' (Kd.V_mono (ok' := (fun k_ => (P1_2_ k_ ∨ w.heap.size ≤ k_) ∧ k_ ≠ gb162 ∧ k_ ≠ gb163)) (HO_164002.out) (fun k_ hk => ⟨hk.1, ⟨hk.2.1, hk.2.2⟩⟩))).2.1 (Kd.V_F (e := 0) (base := 0) (Kd.V_mono (e := 0) (base := 0) (ok' := (fun k_ => (P1_2_ k_ ∨ w.heap.size ≤ k_) ∧ k_ ≠ gb162 ∧ k_ ≠ gb163)) (HO_164002.out) (fun k_ hk => ⟨hk.1, ⟨hk.2.1, hk.2.2⟩⟩))))) (Reps.none _ _)))
                  intro v171 w48 ho49 hb hg_ hnew_
                  clear hg_ hnew_
                  (first | rw [← Ny170.out] at ho49 | (simp only [Int.reduceToNat] at ho49; rw [← Ny170.out] at ho49))
                  have n0_ := ak_ (Kd.V_elder' (by (with_reducible repeat (first | apply Kd.V_alloc | apply Kd.V_drewN | apply Kd.V_drew)); exact HO_164002.out) (Kd.N_base ho49) hb)
                  have n1_ := ak_ (Kd.N_lower ho49 (below_size (by repeat (first | (with_reducible first | exact HB.out | apply pa_ | apply pd_ | apply p1_ | refine zs_ ?_ GE162.out | refine zs_ ?_ GE163.out) | exact HB.out))))
                  have n2_ := ak_ (blk_below (g := gb162) (o := .cells #[.slice A0_0 l0_0.length c0_0, .slice A0_1 l0_1.length c0_1, .int .i64 a0_2] 25 (0, 0)) (by (with_reducible repeat (first | apply zn_ | apply zd_ | apply za_)); exact BK162.out) hb)
                  have n3_ := ak_ (blk_below (g := gb163) (o := .cells #[.string a1_0, .int .i64 a1_1, .slice A1_2 l1_2.length c1_2] 28 (0, 0)) (by (with_reducible repeat (first | apply zn_ | apply zd_ | apply za_)); exact BK163.out) hb)
                  have n4_ := ak_ (ps_ (by repeat (first | (with_reducible first | exact HB.out | apply pa_ | apply pd_ | apply p1_ | refine zs_ ?_ GE162.out | refine zs_ ?_ GE163.out) | exact HB.out)) hb)
                  clear HO_164002
                  clear BK162
                  clear BK163
                  clear HB
                  have HO_164002 := n0_
                  have HO172 := n1_
                  have BK162 := n2_
                  have BK163 := n3_
                  have HB := n4_
                  clear n0_ n1_ n2_ n3_ n4_
                  clear hb ho49
                  refine hK.out _ _ ⟨(zc_ BK163.out 0).trans rfl, (zc_ BK163.out 1).trans rfl, (zc_ BK163.out 2).trans rfl⟩ (fun hHeld => ?_)
                  clear hK K
                  refine norm_ (a' := ?_) ?_ ?_
                  rotate_left
                  · show Act.put _ (some 34) _ = _
                    simp only [Act.put, sa_, sz_, ss_, i64_w, i32_w]
                    rfl
                  refine one_ (i := 1) (N := some 29) (b_ 11 247) rfl rfl (one_of HT_.out (by kernel_rfl)) (by decide) (fun K hK => ?_)
                  refine goes_ Try.func11 (by kernel_rfl) rfl #[.agg #[.string a1_0, .int .i64 a1_1, .slice A1_2 l1_2.length c1_2]] (by rfl) rfl rfl (by (try simp only [List.map_toArray, List.map_cons, List.map_nil]); first | done | rfl | (simp only [List.length_drop, List.length_take]; rfl)) ?_
                  with_reducible refine (usufructref25_Emissions.calls kj6 a1_0 a1_1 _ _ l1_2 t168 _ ?side1 ?side2 A30.out).mono ?_
                  (case side1 => repeat (first | exact (Kd.V_reads' HO_164002.out).2.2 | (with_reducible refine Kd.C_alloc ?_ _) | (with_reducible refine Kd.C_drewN ?_ _) | (with_reducible refine Kd.C_drew ?_)))
                  (case side2 => exact (Kd.V_reads' HO_164002.out).2.1)
                  rintro e w50 ⟨rfl, hb⟩
                  refine ⟨_, rfl, ?_⟩
                  have n0_ := ak_ (Kd.V_below (by (with_reducible repeat (first | apply Kd.V_alloc | apply Kd.V_drewN | apply Kd.V_drew)); exact HO_164002.out) hb)
                  have n1_ := ak_ (Kd.N_below (by (with_reducible repeat (first | apply Kd.N_alloc | apply Kd.N_drewN | apply Kd.N_drew)); exact HO172.out) hb)
                  have n2_ := ak_ (blk_below (g := gb162) (o := .cells #[.slice A0_0 l0_0.length c0_0, .slice A0_1 l0_1.length c0_1, .int .i64 a0_2] 25 (0, 0)) (by (with_reducible repeat (first | apply zn_ | apply zd_ | apply za_)); exact BK162.out) hb)
                  have n3_ := ak_ (blk_below (g := gb163) (o := .cells #[.string a1_0, .int .i64 a1_1, .slice A1_2 l1_2.length c1_2] 28 (0, 0)) (by (with_reducible repeat (first | apply zn_ | apply zd_ | apply za_)); exact BK163.out) hb)
                  have n4_ := ak_ (ps_ (by repeat (first | (with_reducible first | exact HB.out | apply pa_ | apply pd_ | apply p1_ | refine zs_ ?_ GE162.out | refine zs_ ?_ GE163.out) | exact HB.out)) hb)
                  clear HO_164002
                  clear HO172
                  clear BK162
                  clear BK163
                  clear HB
                  have HO_164002 := n0_
                  have HO172 := n1_
                  have BK162 := n2_
                  have BK163 := n3_
                  have HB := n4_
                  clear n0_ n1_ n2_ n3_ n4_
                  (try clear hb hk hi)
                  refine hK.out _ _ ⟨(zc_ BK163.out 0).trans rfl, (zc_ BK163.out 1).trans rfl, (zc_ BK163.out 2).trans rfl⟩ (fun hHeld => ?_)
                  clear hK K
                  refine norm_ (a' := ?_) ?_ ?_
                  rotate_left
                  · show Act.put _ (some 29) _ = _
                    simp only [Act.put, sa_, sz_, ss_, i64_w, i32_w]
                    rfl
                  refine one_ (i := 3) (N := some 31) (b_ 11 255) rfl rfl (one_of HT_.out (by kernel_rfl)) (by decide) (fun K hK => ?_)
                  refine goes_ Try.func10 (by kernel_rfl) rfl #[.int .i64 t168, .int .i64 t167] (by rfl) rfl rfl (by (try simp only [List.map_toArray, List.map_cons, List.map_nil]); first | done | rfl | (simp only [List.length_drop, List.length_take]; rfl)) ?_
                  with_reducible refine (usufructref01_Times.calls kj6 t168 t167 t169 _ A31.out).mono ?_
                  rintro e w' ⟨rfl, ⟨nd, rfl⟩⟩
                  refine ⟨_, rfl, ?_⟩
                  refine hK.out _ _ ⟨(zc_ BK163.out 0).trans rfl, (zc_ BK163.out 1).trans rfl, (zc_ BK163.out 2).trans rfl⟩ (fun hHeld => ?_)
                  clear hK K
                  refine norm_ (a' := ?_) ?_ ?_
                  rotate_left
                  · show Act.put _ (some 31) _ = _
                    simp only [Act.put, sa_, sz_, ss_, i64_w, i32_w]
                    rfl
                  exact norm_ (by simp only [putAll, Act.put, sa_, sz_, ss_]) (hCont (v171) _ ⟨hHeld, (by (with_reducible repeat (first | apply Kd.N_alloc | apply Kd.N_drewN | apply Kd.N_drew)); exact HO172.out), (by (with_reducible repeat (first | apply Kd.V_alloc | apply Kd.V_drewN | apply Kd.V_drew)); exact Kd.V_mono HO_164002.out (fun _ hk => ⟨hk.1.1, ⟨hk.2, ⟨hk.1.2.1, hk.1.2.2⟩⟩⟩)), (by (with_reducible repeat (first | apply zn_ | apply zd_ | apply za_)); exact BK162.out), (by (with_reducible repeat (first | apply zn_ | apply zd_ | apply za_)); exact BK163.out), (by repeat (first | (with_reducible first | exact HB.out | apply pa_ | apply pd_ | apply p1_ | refine zs_ ?_ GE162.out | refine zs_ ?_ GE163.out) | exact HB.out))⟩)
                rintro v171 w51 ⟨hS_, h0_, h1_, h2_, h3_, h4_⟩
                have n0_ : Aside0 (Kd.N k28 28 w51 w.heap.size (fun k_ => (P1_2_ k_ ∨ w.heap.size ≤ k_) ∧ k_ ≠ gb162 ∧ k_ ≠ gb163) v171 y170) := ⟨h0_⟩
                have n1_ : Aside0 (Kd.V k49 49 w51 w.heap.size (fun k_ => (P1_2_ k_ ∨ w.heap.size ≤ k_) ∧ some k_ ≠ (v171 : Value).ownBlock ∧ k_ ≠ gb162 ∧ k_ ≠ gb163) (.slice A1_2 l1_2.length c1_2) l1_2) := ⟨h1_⟩
                have n2_ : Aside0 (w51.heap[gb162]? = some (.cells #[.slice A0_0 l0_0.length c0_0, .slice A0_1 l0_1.length c0_1, .int .i64 a0_2] 25 (0, 0))) := ⟨h2_⟩
                have n3_ : Aside0 (w51.heap[gb163]? = some (.cells #[.string a1_0, .int .i64 a1_1, .slice A1_2 l1_2.length c1_2] 28 (0, 0))) := ⟨h3_⟩
                have n4_ : Aside0 (Below w.heap.size w w51) := ⟨h4_⟩
                clear HO_164002
                clear BK162
                clear BK163
                clear HB
                clear h0_ h1_ h2_ h3_ h4_
                have HO172 := n0_
                have HO_164002 := n1_
                have BK162 := n2_
                have BK163 := n3_
                have HB := n4_
                clear n0_ n1_ n2_ n3_ n4_
                have hHeld : w51.cell? ⟨gb163, 0, none⟩ = some (.string a1_0) ∧ w51.cell? ⟨gb163, 1, none⟩ = some (.int .i64 a1_1) ∧ w51.cell? ⟨gb163, 2, none⟩ = some (.slice A1_2 l1_2.length c1_2) := hS_
                obtain ⟨Ao52, co52, eo52⟩ := Kd.N_slice HO172.out
                (first | subst eo52 | (injection eo52 with f1_ f2_ f3_; have f4_ := f1_.symm; have f5_ := f3_.symm; clear f1_ f2_ f3_; subst f4_; subst f5_))
                refine norm_ (a' := ?_) ?_ ?_
                rotate_left
                · simp only [putAll, Act.put, sa_, sz_, ss_]
                  rfl
                refine one_ (i := 8) (N := some 36) (b_ 11 511) rfl rfl (one_of HT_.out (by kernel_rfl)) (by decide) (fun K hK => ?_)
                refine goes_ Try.func12 (by kernel_rfl) rfl #[.slice Ao52 y170.length co52, .slice A2 l2.length c2] (by rfl) rfl rfl (by (try simp only [List.map_toArray, List.map_cons, List.map_nil]); first | done | rfl | (simp only [List.length_drop, List.length_take]; rfl)) ?_
                with_reducible refine (usufructref25_Longest.calls kj6 _ _ y170 _ _ l2 t173 _ ?side1 ?side2 ?side3 ?side4 A32.out).mono ?_
                (case side1 => repeat (first | exact (Kd.N_reads' HO172.out).2.2 | (with_reducible refine Kd.C_alloc ?_ _) | (with_reducible refine Kd.C_drewN ?_ _) | (with_reducible refine Kd.C_drew ?_)))
                (case side2 => exact (Kd.N_reads' HO172.out).2.1)
                (case side3 => repeat (first | exact (Kd.C_below HR2.out HB.out) | (with_reducible refine Kd.C_alloc ?_ _) | (with_reducible refine Kd.C_drewN ?_ _) | (with_reducible refine Kd.C_drew ?_)))
                (case side4 => exact HC2.out)
                rintro e w53 ⟨rfl, hb⟩
                refine ⟨_, rfl, ?_⟩
                have n0_ := ak_ (Kd.V_below (by (with_reducible repeat (first | apply Kd.V_alloc | apply Kd.V_drewN | apply Kd.V_drew)); exact HO_164002.out) hb)
                have n1_ := ak_ (Kd.N_below (by (with_reducible repeat (first | apply Kd.N_alloc | apply Kd.N_drewN | apply Kd.N_drew)); exact HO172.out) hb)
                have n2_ := ak_ (blk_below (g := gb162) (o := .cells #[.slice A0_0 l0_0.length c0_0, .slice A0_1 l0_1.length c0_1, .int .i64 a0_2] 25 (0, 0)) (by (with_reducible repeat (first | apply zn_ | apply zd_ | apply za_)); exact BK162.out) hb)
                have n3_ := ak_ (blk_below (g := gb163) (o := .cells #[.string a1_0, .int .i64 a1_1, .slice A1_2 l1_2.length c1_2] 28 (0, 0)) (by (with_reducible repeat (first | apply zn_ | apply zd_ | apply za_)); exact BK163.out) hb)
                have n4_ := ak_ (ps_ (by repeat (first | (with_reducible first | exact HB.out | apply pa_ | apply pd_ | apply p1_ | refine zs_ ?_ GE162.out | refine zs_ ?_ GE163.out) | exact HB.out)) hb)
                clear HO_164002
                clear HO172
                clear BK162
                clear BK163
                clear HB
                have HO_164002 := n0_
                have HO172 := n1_
                have BK162 := n2_
                have BK163 := n3_
                have HB := n4_
                clear n0_ n1_ n2_ n3_ n4_
                (try clear hb hk hi)
                refine hK.out _ _ ⟨(zc_ BK163.out 0).trans rfl, (zc_ BK163.out 1).trans rfl, (zc_ BK163.out 2).trans rfl⟩ (fun hHeld => ?_)
                clear hK K
                refine norm_ (a' := ?_) ?_ ?_
                rotate_left
                · show Act.put _ (some 36) _ = _
                  simp only [Act.put, sa_, sz_, ss_, i64_w, i32_w]
                  rfl
                refine one_ (i := 9) (N := some 37) (b_ 11 1023) rfl rfl (one_of HT_.out (by kernel_rfl)) (by decide) (fun K hK => ?_)
                refine goes_ Try.func9 (by kernel_rfl) rfl #[.int .i64 t169, .int .i64 t167, .int .i64 t173] (by rfl) rfl rfl (by (try simp only [List.map_toArray, List.map_cons, List.map_nil]); first | done | rfl | (simp only [List.length_drop, List.length_take]; rfl)) ?_
                with_reducible refine (usufructref25_All.calls kj6 t169 t167 t173 t174 _ A33.out).mono ?_
                rintro e w' ⟨rfl, ⟨nd, rfl⟩⟩
                refine ⟨_, rfl, ?_⟩
                refine hK.out _ _ ⟨(zc_ BK163.out 0).trans rfl, (zc_ BK163.out 1).trans rfl, (zc_ BK163.out 2).trans rfl⟩ (fun hHeld => ?_)
                clear hK K
                refine norm_ (a' := ?_) ?_ ?_
                rotate_left
                · show Act.put _ (some 37) _ = _
                  simp only [Act.put, sa_, sz_, ss_, i64_w, i32_w]
                  rfl
                refine pure_ (i := 10) (N := some 10) (v := ?_) (a' := ?_) (b_ 11 2047) rfl rfl (any_of HT_.out (by kernel_rfl)) (fun _ _ _ h => h) (Or.inl ⟨by rfl, ?_⟩) ?_ ?_; rotate_left; (· intro w'; go_simp; with_reducible rfl); rotate_left; (· simp only [Act.put, sa_, sz_, ss_, i64_w, i32_w]; rfl)
                refine done_ (done_of HT_.out (by kernel_rfl)) ?_
                try go_wp2
                (try (rw [drewN_self w53]; generalize hq_ : World.drewN w53 _ = w53; have n0_ : Aside0 (Kd.N k28 28 w53 w.heap.size (fun k_ => (P1_2_ k_ ∨ w.heap.size ≤ k_) ∧ k_ ≠ gb162 ∧ k_ ≠ gb163) (.slice Ao52 y170.length co52) y170) := ⟨by rw [← hq_]; exact (by (with_reducible repeat (first | apply Kd.N_alloc | apply Kd.N_drewN | apply Kd.N_drew)); exact HO172.out)⟩; have n1_ : Aside0 (Kd.V k49 49 w53 w.heap.size (fun k_ => (P1_2_ k_ ∨ w.heap.size ≤ k_) ∧ some k_ ≠ (.slice Ao52 y170.length co52 : Value).ownBlock ∧ k_ ≠ gb162 ∧ k_ ≠ gb163) (.slice A1_2 l1_2.length c1_2) l1_2) := ⟨by rw [← hq_]; exact (by (with_reducible repeat (first | apply Kd.V_alloc | apply Kd.V_drewN | apply Kd.V_drew)); exact HO_164002.out)⟩; have n2_ : Aside0 (w53.heap[gb162]? = some (.cells #[.slice A0_0 l0_0.length c0_0, .slice A0_1 l0_1.length c0_1, .int .i64 a0_2] 25 (0, 0))) := ⟨by rw [← hq_]; exact (by (with_reducible repeat (first | apply zn_ | apply zd_ | apply za_)); exact BK162.out)⟩; have n3_ : Aside0 (w53.heap[gb163]? = some (.cells #[.string a1_0, .int .i64 a1_1, .slice A1_2 l1_2.length c1_2] 28 (0, 0))) := ⟨by rw [← hq_]; exact (by (with_reducible repeat (first | apply zn_ | apply zd_ | apply za_)); exact BK163.out)⟩; have n4_ : Aside0 (Below w.heap.size w w53) := ⟨by rw [← hq_]; exact (by repeat (first | (with_reducible first | exact HB.out | apply pa_ | apply pd_ | apply p1_ | refine zs_ ?_ GE162.out | refine zs_ ?_ GE163.out) | exact HB.out))⟩; clear HO172 HO_164002 BK162 BK163 HB hq_; have HO172 := n0_; have HO_164002 := n1_; have BK162 := n2_; have BK163 := n3_; have HB := n4_; clear n0_ n1_ n2_ n3_ n4_))
                have n0_ := ak_ (Kd.V_drew HO_164002.out)
                have n1_ := ak_ (Kd.N_drew HO172.out)
                have n2_ := ak_ (zd_ BK162.out)
                have n3_ := ak_ (zd_ BK163.out)
                have n4_ := ak_ (p1_ HB.out)
                clear HO_164002
                clear HO172
                clear BK162
                clear BK163
                clear HB
                have HO_164002 := n0_
                have HO172 := n1_
                have BK162 := n2_
                have BK163 := n3_
                have HB := n4_
                clear n0_ n1_ n2_ n3_ n4_
                refine start_ (n := 41) (S := fun w' => w'.cell? ⟨gb163, 0, none⟩ = some (.string a1_0) ∧ w'.cell? ⟨gb163, 1, none⟩ = some (.int .i64 a1_1) ∧ w'.cell? ⟨gb163, 2, none⟩ = some (.slice A1_2 l1_2.length c1_2) ∧ w'.cell? ⟨gb162, 0, none⟩ = some (.slice A0_0 l0_0.length c0_0) ∧ w'.cell? ⟨gb162, 1, none⟩ = some (.slice A0_1 l0_1.length c0_1) ∧ w'.cell? ⟨gb162, 2, none⟩ = some (.int .i64 a0_2)) (ds := []) #[false, false, false, false, false, false, false, false, false, false, false, false, false, false, false, false, false, false, false, false, false, false, false, false, false, false, false, false, false, false, false, false, false, false, false, false, false, false, false, false, false] (by kernel_rfl) rfl rfl ⟨(zc_ BK163.out 0).trans rfl, (zc_ BK163.out 1).trans rfl, (zc_ BK163.out 2).trans rfl, (zc_ BK162.out 0).trans rfl, (zc_ BK162.out 1).trans rfl, (zc_ BK162.out 2).trans rfl⟩ (fun hHeld => ?_); refine with_tabW usufructlaw25_BoundTells.tab7 usufructlaw25_BoundTells.bits7 (fun HT_ HW_ => ?_)
                generalize w53.drew = w54 at HO_164002 HO172 BK162 BK163 HB hHeld ⊢
                refine take_ (i := 0) (N := some 38) (v := ?_) (a' := ?_) (b_ 41 1) rfl rfl (take_ofW HT_.out HW_.out (by kernel_rfl)) (fun _ _ _ h => h) (Or.inl ⟨by rfl, ?_⟩) hHeld ?_ ?_
                rotate_left
                · rintro w' ⟨s0, s1, s2, s3, s4, s5⟩
                  go_simp
                  with_reducible rfl
                rotate_left
                · simp only [Act.put, sa_, sz_, ss_, i64_w, i32_w]
                  rfl
                refine take_ (i := 2) (N := some 40) (v := ?_) (a' := ?_) (b_ 41 5) rfl rfl (take_ofW HT_.out HW_.out (by kernel_rfl)) (fun _ _ _ h => h) (Or.inl ⟨by rfl, ?_⟩) hHeld ?_ ?_
                rotate_left
                · rintro w' ⟨s0, s1, s2, s3, s4, s5⟩
                  go_simp
                  with_reducible rfl
                rotate_left
                · simp only [Act.put, sa_, sz_, ss_, i64_w, i32_w]
                  rfl
                refine one_ (i := 1) (N := some 39) (b_ 41 7) rfl rfl (one_of HT_.out (by kernel_rfl)) (by decide) (fun K hK => ?_)
                refine goes_ Try.func13 (by kernel_rfl) rfl #[.agg #[.string a1_0, .int .i64 a1_1, .slice A1_2 l1_2.length c1_2]] (by rfl) rfl rfl (by (try simp only [List.map_toArray, List.map_cons, List.map_nil]); first | done | rfl | (simp only [List.length_drop, List.length_take]; rfl)) ?_
                with_reducible refine (bound_Emissions.calls a1_0 a1_1 _ _ l1_2 t175 _ ?side1 ?side2 A34.out).mono ?_
                (case side1 => repeat (first | exact (Kd.V_reads' HO_164002.out).2.2 | (with_reducible refine Kd.C_alloc ?_ _) | (with_reducible refine Kd.C_drewN ?_ _) | (with_reducible refine Kd.C_drew ?_)))
                (case side2 => exact (Kd.V_reads' HO_164002.out).2.1)
                rintro e w55 ⟨rfl, hb⟩
                refine ⟨_, rfl, ?_⟩
                have n0_ := ak_ (Kd.V_below (by (with_reducible repeat (first | apply Kd.V_alloc | apply Kd.V_drewN | apply Kd.V_drew)); exact HO_164002.out) hb)
                have n1_ := ak_ (Kd.N_below (by (with_reducible repeat (first | apply Kd.N_alloc | apply Kd.N_drewN | apply Kd.N_drew)); exact HO172.out) hb)
                have n2_ := ak_ (blk_below (g := gb162) (o := .cells #[.slice A0_0 l0_0.length c0_0, .slice A0_1 l0_1.length c0_1, .int .i64 a0_2] 25 (0, 0)) (by (with_reducible repeat (first | apply zn_ | apply zd_ | apply za_)); exact BK162.out) hb)
                have n3_ := ak_ (blk_below (g := gb163) (o := .cells #[.string a1_0, .int .i64 a1_1, .slice A1_2 l1_2.length c1_2] 28 (0, 0)) (by (with_reducible repeat (first | apply zn_ | apply zd_ | apply za_)); exact BK163.out) hb)
                have n4_ := ak_ (ps_ (by repeat (first | (with_reducible first | exact HB.out | apply pa_ | apply pd_ | apply p1_ | refine zs_ ?_ GE162.out | refine zs_ ?_ GE163.out) | exact HB.out)) hb)
                clear HO_164002
                clear HO172
                clear BK162
                clear BK163
                clear HB
                have HO_164002 := n0_
                have HO172 := n1_
                have BK162 := n2_
                have BK163 := n3_
                have HB := n4_
                clear n0_ n1_ n2_ n3_ n4_
                (try clear hb hk hi)
                refine hK.out _ _ ⟨(zc_ BK163.out 0).trans rfl, (zc_ BK163.out 1).trans rfl, (zc_ BK163.out 2).trans rfl, (zc_ BK162.out 0).trans rfl, (zc_ BK162.out 1).trans rfl, (zc_ BK162.out 2).trans rfl⟩ (fun hHeld => ?_)
                clear hK K
                refine norm_ (a' := ?_) ?_ ?_
                rotate_left
                · show Act.put _ (some 39) _ = _
                  simp only [Act.put, sa_, sz_, ss_, i64_w, i32_w]
                  rfl
                refine one_ (i := 3) (N := some 41) (b_ 41 15) rfl rfl (one_of HT_.out (by kernel_rfl)) (by decide) (fun K hK => ?_)
                refine goes_ Try.func11 (by kernel_rfl) rfl #[.agg #[.string a1_0, .int .i64 a1_1, .slice A1_2 l1_2.length c1_2]] (by rfl) rfl rfl (by (try simp only [List.map_toArray, List.map_cons, List.map_nil]); first | done | rfl | (simp only [List.length_drop, List.length_take]; rfl)) ?_
                with_reducible refine (usufructref25_Emissions.calls kj6 a1_0 a1_1 _ _ l1_2 t176 _ ?side1 ?side2 A35.out).mono ?_
                (case side1 => repeat (first | exact (Kd.V_reads' HO_164002.out).2.2 | (with_reducible refine Kd.C_alloc ?_ _) | (with_reducible refine Kd.C_drewN ?_ _) | (with_reducible refine Kd.C_drew ?_)))
                (case side2 => exact (Kd.V_reads' HO_164002.out).2.1)
                rintro e w56 ⟨rfl, hb⟩
                refine ⟨_, rfl, ?_⟩
                have n0_ := ak_ (Kd.V_below (by (with_reducible repeat (first | apply Kd.V_alloc | apply Kd.V_drewN | apply Kd.V_drew)); exact HO_164002.out) hb)
                have n1_ := ak_ (Kd.N_below (by (with_reducible repeat (first | apply Kd.N_alloc | apply Kd.N_drewN | apply Kd.N_drew)); exact HO172.out) hb)
                have n2_ := ak_ (blk_below (g := gb162) (o := .cells #[.slice A0_0 l0_0.length c0_0, .slice A0_1 l0_1.length c0_1, .int .i64 a0_2] 25 (0, 0)) (by (with_reducible repeat (first | apply zn_ | apply zd_ | apply za_)); exact BK162.out) hb)
                have n3_ := ak_ (blk_below (g := gb163) (o := .cells #[.string a1_0, .int .i64 a1_1, .slice A1_2 l1_2.length c1_2] 28 (0, 0)) (by (with_reducible repeat (first | apply zn_ | apply zd_ | apply za_)); exact BK163.out) hb)
                have n4_ := ak_ (ps_ (by repeat (first | (with_reducible first | exact HB.out | apply pa_ | apply pd_ | apply p1_ | refine zs_ ?_ GE162.out | refine zs_ ?_ GE163.out) | exact HB.out)) hb)
                clear HO_164002
                clear HO172
                clear BK162
                clear BK163
                clear HB
                have HO_164002 := n0_
                have HO172 := n1_
                have BK162 := n2_
                have BK163 := n3_
                have HB := n4_
                clear n0_ n1_ n2_ n3_ n4_
                (try clear hb hk hi)
                refine hK.out _ _ ⟨(zc_ BK163.out 0).trans rfl, (zc_ BK163.out 1).trans rfl, (zc_ BK163.out 2).trans rfl, (zc_ BK162.out 0).trans rfl, (zc_ BK162.out 1).trans rfl, (zc_ BK162.out 2).trans rfl⟩ (fun hHeld => ?_)
                clear hK K
                refine norm_ (a' := ?_) ?_ ?_
                rotate_left
                · show Act.put _ (some 41) _ = _
                  simp only [Act.put, sa_, sz_, ss_, i64_w, i32_w]
                  rfl
                refine pure_ (i := 4) (N := some 42) (v := ?_) (a' := ?_) (b_ 41 31) rfl rfl (any_of HT_.out (by kernel_rfl)) (fun _ _ _ h => h) (Or.inl ⟨by rfl, ?_⟩) ?_ ?_; rotate_left; (· intro w'; go_simp; with_reducible rfl); rotate_left; (· simp only [Act.put, sa_, sz_, ss_, i64_w, i32_w]; rfl)
                refine pure_ (i := 5) (N := some 43) (v := ?_) (a' := ?_) (b_ 41 63) rfl rfl (any_of HT_.out (by kernel_rfl)) (fun _ _ _ h => h) (Or.inl ⟨by rfl, ?_⟩) ?_ ?_; rotate_left; (· intro w'; go_simp; with_reducible rfl); rotate_left; (· simp only [Act.put, sa_, sz_, ss_, i64_w, i32_w]; rfl)
                refine pure_ (i := 6) (N := some 44) (v := ?_) (a' := ?_) (b_ 41 127) rfl rfl (any_of HT_.out (by kernel_rfl)) (fun _ _ _ h => h) (Or.inl ⟨by rfl, ?_⟩) ?_ ?_; rotate_left; (· intro w'; go_simp; with_reducible rfl); rotate_left; (· simp only [Act.put, sa_, sz_, ss_, i64_w, i32_w]; rfl)
                refine pure_ (i := 8) (N := some 46) (v := ?_) (a' := ?_) (b_ 41 383) rfl rfl (any_of HT_.out (by kernel_rfl)) (fun _ _ _ h => h) (Or.inl ⟨by rfl, ?_⟩) ?_ ?_; rotate_left; (· intro w'; go_simp; with_reducible rfl); rotate_left; (· simp only [Act.put, sa_, sz_, ss_, i64_w, i32_w]; rfl)
                refine pure_ (i := 10) (N := some 48) (v := ?_) (a' := ?_) (b_ 41 1407) rfl rfl (any_of HT_.out (by kernel_rfl)) (fun _ _ _ h => h) (Or.inl ⟨by rfl, ?_⟩) ?_ ?_; rotate_left; (· intro w'; go_simp; with_reducible rfl); rotate_left; (· simp only [Act.put, sa_, sz_, ss_, i64_w, i32_w]; rfl)
                refine pure_ (i := 12) (N := some 50) (v := ?_) (a' := ?_) (b_ 41 5503) rfl rfl (any_of HT_.out (by kernel_rfl)) (fun _ _ _ h => h) (Or.inl ⟨by rfl, ?_⟩) ?_ ?_; rotate_left; (· intro w'; go_simp; with_reducible rfl); rotate_left; (· simp only [Act.put, sa_, sz_, ss_, i64_w, i32_w]; rfl)
                refine take_ (i := 7) (N := some 45) (v := ?_) (a' := ?_) (b_ 41 5631) rfl rfl (take_ofW HT_.out HW_.out (by kernel_rfl)) (fun _ _ _ h => h) (Or.inl ⟨by rfl, ?_⟩) hHeld ?_ ?_
                rotate_left
                · rintro w' ⟨s0, s1, s2, s3, s4, s5⟩
                  go_simp
                  with_reducible rfl
                rotate_left
                · simp only [Act.put, sa_, sz_, ss_, i64_w, i32_w]
                  rfl
                refine take_ (i := 11) (N := some 49) (v := ?_) (a' := ?_) (b_ 41 7679) rfl rfl (take_ofW HT_.out HW_.out (by kernel_rfl)) (fun _ _ _ h => h) (Or.inl ⟨by rfl, ?_⟩) hHeld ?_ ?_
                rotate_left
                · rintro w' ⟨s0, s1, s2, s3, s4, s5⟩
                  go_simp
                  with_reducible rfl
                rotate_left
                · simp only [Act.put, sa_, sz_, ss_, i64_w, i32_w]
                  rfl
                refine one_ (i := 9) (N := some 47) (b_ 41 8191) rfl rfl (one_of HT_.out (by kernel_rfl)) (by decide) (fun K hK => ?_)
                refine goes_ Try.func14 (by kernel_rfl) rfl #[.slice A0_0 l0_0.length c0_0, .slice A2 l2.length c2] (by rfl) rfl rfl (by (try simp only [List.map_toArray, List.map_cons, List.map_nil]); first | done | rfl | (simp only [List.length_drop, List.length_take]; rfl)) ?_
                with_reducible refine (bound_Longest.calls _ _ l0_0 _ _ l2 t177 _ ?side1 ?side2 ?side3 ?side4 A37.out).mono ?_
                (case side1 => repeat (first | exact (Kd.C_below HR0_0.out HB.out) | (with_reducible refine Kd.C_alloc ?_ _) | (with_reducible refine Kd.C_drewN ?_ _) | (with_reducible refine Kd.C_drew ?_)))
                (case side2 => exact HC0_0.out)
                (case side3 => repeat (first | exact (Kd.C_below HR2.out HB.out) | (with_reducible refine Kd.C_alloc ?_ _) | (with_reducible refine Kd.C_drewN ?_ _) | (with_reducible refine Kd.C_drew ?_)))
                (case side4 => exact HC2.out)
                rintro e w57 ⟨rfl, hb⟩
                refine ⟨_, rfl, ?_⟩
                have n0_ := ak_ (Kd.V_below (by (with_reducible repeat (first | apply Kd.V_alloc | apply Kd.V_drewN | apply Kd.V_drew)); exact HO_164002.out) hb)
                have n1_ := ak_ (Kd.N_below (by (with_reducible repeat (first | apply Kd.N_alloc | apply Kd.N_drewN | apply Kd.N_drew)); exact HO172.out) hb)
                have n2_ := ak_ (blk_below (g := gb162) (o := .cells #[.slice A0_0 l0_0.length c0_0, .slice A0_1 l0_1.length c0_1, .int .i64 a0_2] 25 (0, 0)) (by (with_reducible repeat (first | apply zn_ | apply zd_ | apply za_)); exact BK162.out) hb)
                have n3_ := ak_ (blk_below (g := gb163) (o := .cells #[.string a1_0, .int .i64 a1_1, .slice A1_2 l1_2.length c1_2] 28 (0, 0)) (by (with_reducible repeat (first | apply zn_ | apply zd_ | apply za_)); exact BK163.out) hb)
                have n4_ := ak_ (ps_ (by repeat (first | (with_reducible first | exact HB.out | apply pa_ | apply pd_ | apply p1_ | refine zs_ ?_ GE162.out | refine zs_ ?_ GE163.out) | exact HB.out)) hb)
                clear HO_164002
                clear HO172
                clear BK162
                clear BK163
                clear HB
                have HO_164002 := n0_
                have HO172 := n1_
                have BK162 := n2_
                have BK163 := n3_
                have HB := n4_
                clear n0_ n1_ n2_ n3_ n4_
                (try clear hb hk hi)
                refine hK.out _ _ ⟨(zc_ BK163.out 0).trans rfl, (zc_ BK163.out 1).trans rfl, (zc_ BK163.out 2).trans rfl, (zc_ BK162.out 0).trans rfl, (zc_ BK162.out 1).trans rfl, (zc_ BK162.out 2).trans rfl⟩ (fun hHeld => ?_)
                clear hK K
                refine norm_ (a' := ?_) ?_ ?_
                rotate_left
                · show Act.put _ (some 47) _ = _
                  simp only [Act.put, sa_, sz_, ss_, i64_w, i32_w]
                  rfl
                refine one_ (i := 13) (N := some 51) (b_ 41 16383) rfl rfl (one_of HT_.out (by kernel_rfl)) (by decide) (fun K hK => ?_)
                refine goes_ Try.func12 (by kernel_rfl) rfl #[.slice A0_0 l0_0.length c0_0, .slice A2 l2.length c2] (by rfl) rfl rfl (by (try simp only [List.map_toArray, List.map_cons, List.map_nil]); first | done | rfl | (simp only [List.length_drop, List.length_take]; rfl)) ?_
                with_reducible refine (usufructref25_Longest.calls kj6 _ _ l0_0 _ _ l2 t178 _ ?side1 ?side2 ?side3 ?side4 A38.out).mono ?_
                (case side1 => repeat (first | exact (Kd.C_below HR0_0.out HB.out) | (with_reducible refine Kd.C_alloc ?_ _) | (with_reducible refine Kd.C_drewN ?_ _) | (with_reducible refine Kd.C_drew ?_)))
                (case side2 => exact HC0_0.out)
                (case side3 => repeat (first | exact (Kd.C_below HR2.out HB.out) | (with_reducible refine Kd.C_alloc ?_ _) | (with_reducible refine Kd.C_drewN ?_ _) | (with_reducible refine Kd.C_drew ?_)))
                (case side4 => exact HC2.out)
                rintro e w58 ⟨rfl, hb⟩
                refine ⟨_, rfl, ?_⟩
                have n0_ := ak_ (Kd.V_below (by (with_reducible repeat (first | apply Kd.V_alloc | apply Kd.V_drewN | apply Kd.V_drew)); exact HO_164002.out) hb)
                have n1_ := ak_ (Kd.N_below (by (with_reducible repeat (first | apply Kd.N_alloc | apply Kd.N_drewN | apply Kd.N_drew)); exact HO172.out) hb)
                have n2_ := ak_ (blk_below (g := gb162) (o := .cells #[.slice A0_0 l0_0.length c0_0, .slice A0_1 l0_1.length c0_1, .int .i64 a0_2] 25 (0, 0)) (by (with_reducible repeat (first | apply zn_ | apply zd_ | apply za_)); exact BK162.out) hb)
                have n3_ := ak_ (blk_below (g := gb163) (o := .cells #[.string a1_0, .int .i64 a1_1, .slice A1_2 l1_2.length c1_2] 28 (0, 0)) (by (with_reducible repeat (first | apply zn_ | apply zd_ | apply za_)); exact BK163.out) hb)
                have n4_ := ak_ (ps_ (by repeat (first | (with_reducible first | exact HB.out | apply pa_ | apply pd_ | apply p1_ | refine zs_ ?_ GE162.out | refine zs_ ?_ GE163.out) | exact HB.out)) hb)
                clear HO_164002
                clear HO172
                clear BK162
                clear BK163
                clear HB
                have HO_164002 := n0_
                have HO172 := n1_
                have BK162 := n2_
                have BK163 := n3_
                have HB := n4_
                clear n0_ n1_ n2_ n3_ n4_
                (try clear hb hk hi)
                refine hK.out _ _ ⟨(zc_ BK163.out 0).trans rfl, (zc_ BK163.out 1).trans rfl, (zc_ BK163.out 2).trans rfl, (zc_ BK162.out 0).trans rfl, (zc_ BK162.out 1).trans rfl, (zc_ BK162.out 2).trans rfl⟩ (fun hHeld => ?_)
                clear hK K
                refine norm_ (a' := ?_) ?_ ?_
                rotate_left
                · show Act.put _ (some 51) _ = _
                  simp only [Act.put, sa_, sz_, ss_, i64_w, i32_w]
                  rfl
                refine pure_ (i := 14) (N := some 52) (v := ?_) (a' := ?_) (b_ 41 32767) rfl rfl (any_of HT_.out (by kernel_rfl)) (fun _ _ _ h => h) (Or.inl ⟨by rfl, ?_⟩) ?_ ?_; rotate_left; (· intro w'; go_simp; with_reducible rfl); rotate_left; (· simp only [Act.put, sa_, sz_, ss_, i64_w, i32_w]; rfl)
                refine pure_ (i := 15) (N := some 53) (v := ?_) (a' := ?_) (b_ 41 65535) rfl rfl (any_of HT_.out (by kernel_rfl)) (fun _ _ _ h => h) (Or.inl ⟨by rfl, ?_⟩) ?_ ?_; rotate_left; (· intro w'; go_simp; with_reducible rfl); rotate_left; (· simp only [Act.put, sa_, sz_, ss_, i64_w, i32_w]; rfl)
                refine pure_ (i := 16) (N := some 54) (v := ?_) (a' := ?_) (b_ 41 131071) rfl rfl (any_of HT_.out (by kernel_rfl)) (fun _ _ _ h => h) (Or.inl ⟨by rfl, ?_⟩) ?_ ?_; rotate_left; (· intro w'; go_simp; with_reducible rfl); rotate_left; (· simp only [Act.put, sa_, sz_, ss_, i64_w, i32_w]; rfl)
                refine take_ (i := 17) (N := some 55) (v := ?_) (a' := ?_) (b_ 41 262143) rfl rfl (take_ofW HT_.out HW_.out (by kernel_rfl)) (fun _ _ _ h => h) (Or.inl ⟨by rfl, ?_⟩) hHeld ?_ ?_
                rotate_left
                · rintro w' ⟨s0, s1, s2, s3, s4, s5⟩
                  go_simp
                  with_reducible rfl
                rotate_left
                · simp only [Act.put, sa_, sz_, ss_, i64_w, i32_w]
                  rfl
                refine take_ (i := 19) (N := some 57) (v := ?_) (a' := ?_) (b_ 41 786431) rfl rfl (take_ofW HT_.out HW_.out (by kernel_rfl)) (fun _ _ _ h => h) (Or.inl ⟨by rfl, ?_⟩) hHeld ?_ ?_
                rotate_left
                · rintro w' ⟨s0, s1, s2, s3, s4, s5⟩
                  go_simp
                  with_reducible rfl
                rotate_left
                · simp only [Act.put, sa_, sz_, ss_, i64_w, i32_w]
                  rfl
                refine one_ (i := 18) (N := some 56) (b_ 41 1048575) rfl rfl (one_of HT_.out (by kernel_rfl)) (by decide) (fun K hK => ?_)
                refine goes_ Try.func15 (by kernel_rfl) rfl #[.agg #[.slice A0_0 l0_0.length c0_0, .slice A0_1 l0_1.length c0_1, .int .i64 a0_2]] (by rfl) rfl rfl (by (try simp only [List.map_toArray, List.map_cons, List.map_nil]); first | done | rfl | (simp only [List.length_drop, List.length_take]; rfl)) ?_
                with_reducible refine (bound_Live.calls _ _ l0_0 _ _ l0_1 a0_2 t179 _ ?side1 ?side2 ?side3 ?side4 A40.out).mono ?_
                (case side1 => repeat (first | exact (Kd.C_below HR0_0.out HB.out) | (with_reducible refine Kd.C_alloc ?_ _) | (with_reducible refine Kd.C_drewN ?_ _) | (with_reducible refine Kd.C_drew ?_)))
                (case side2 => exact HC0_0.out)
                (case side3 => repeat (first | exact (Kd.C_below HR0_1.out HB.out) | (with_reducible refine Kd.C_alloc ?_ _) | (with_reducible refine Kd.C_drewN ?_ _) | (with_reducible refine Kd.C_drew ?_)))
                (case side4 => exact HC0_1.out)
                rintro e w59 ⟨rfl, hb⟩
                refine ⟨_, rfl, ?_⟩
                have n0_ := ak_ (Kd.V_below (by (with_reducible repeat (first | apply Kd.V_alloc | apply Kd.V_drewN | apply Kd.V_drew)); exact HO_164002.out) hb)
                have n1_ := ak_ (Kd.N_below (by (with_reducible repeat (first | apply Kd.N_alloc | apply Kd.N_drewN | apply Kd.N_drew)); exact HO172.out) hb)
                have n2_ := ak_ (blk_below (g := gb162) (o := .cells #[.slice A0_0 l0_0.length c0_0, .slice A0_1 l0_1.length c0_1, .int .i64 a0_2] 25 (0, 0)) (by (with_reducible repeat (first | apply zn_ | apply zd_ | apply za_)); exact BK162.out) hb)
                have n3_ := ak_ (blk_below (g := gb163) (o := .cells #[.string a1_0, .int .i64 a1_1, .slice A1_2 l1_2.length c1_2] 28 (0, 0)) (by (with_reducible repeat (first | apply zn_ | apply zd_ | apply za_)); exact BK163.out) hb)
                have n4_ := ak_ (ps_ (by repeat (first | (with_reducible first | exact HB.out | apply pa_ | apply pd_ | apply p1_ | refine zs_ ?_ GE162.out | refine zs_ ?_ GE163.out) | exact HB.out)) hb)
                clear HO_164002
                clear HO172
                clear BK162
                clear BK163
                clear HB
                have HO_164002 := n0_
                have HO172 := n1_
                have BK162 := n2_
                have BK163 := n3_
                have HB := n4_
                clear n0_ n1_ n2_ n3_ n4_
                (try clear hb hk hi)
                refine hK.out _ _ ⟨(zc_ BK163.out 0).trans rfl, (zc_ BK163.out 1).trans rfl, (zc_ BK163.out 2).trans rfl, (zc_ BK162.out 0).trans rfl, (zc_ BK162.out 1).trans rfl, (zc_ BK162.out 2).trans rfl⟩ (fun hHeld => ?_)
                clear hK K
                refine norm_ (a' := ?_) ?_ ?_
                rotate_left
                · show Act.put _ (some 56) _ = _
                  simp only [Act.put, sa_, sz_, ss_, i64_w, i32_w]
                  rfl
                refine one_ (i := 20) (N := some 58) (b_ 41 2097151) rfl rfl (one_of HT_.out (by kernel_rfl)) (by decide) (fun K hK => ?_)
                refine goes_ Try.func16 (by kernel_rfl) rfl #[.agg #[.slice A0_0 l0_0.length c0_0, .slice A0_1 l0_1.length c0_1, .int .i64 a0_2]] (by rfl) rfl rfl (by (try simp only [List.map_toArray, List.map_cons, List.map_nil]); first | done | rfl | (simp only [List.length_drop, List.length_take]; rfl)) ?_
                with_reducible refine (usufructref25_Live.calls kj6 _ _ l0_0 _ _ l0_1 a0_2 t180 _ ?side1 ?side2 ?side3 ?side4 A41.out).mono ?_
                (case side1 => repeat (first | exact (Kd.C_below HR0_0.out HB.out) | (with_reducible refine Kd.C_alloc ?_ _) | (with_reducible refine Kd.C_drewN ?_ _) | (with_reducible refine Kd.C_drew ?_)))
                (case side2 => exact HC0_0.out)
                (case side3 => repeat (first | exact (Kd.C_below HR0_1.out HB.out) | (with_reducible refine Kd.C_alloc ?_ _) | (with_reducible refine Kd.C_drewN ?_ _) | (with_reducible refine Kd.C_drew ?_)))
                (case side4 => exact HC0_1.out)
                rintro e w60 ⟨rfl, hb⟩
                refine ⟨_, rfl, ?_⟩
                have n0_ := ak_ (Kd.V_below (by (with_reducible repeat (first | apply Kd.V_alloc | apply Kd.V_drewN | apply Kd.V_drew)); exact HO_164002.out) hb)
                have n1_ := ak_ (Kd.N_below (by (with_reducible repeat (first | apply Kd.N_alloc | apply Kd.N_drewN | apply Kd.N_drew)); exact HO172.out) hb)
                have n2_ := ak_ (blk_below (g := gb162) (o := .cells #[.slice A0_0 l0_0.length c0_0, .slice A0_1 l0_1.length c0_1, .int .i64 a0_2] 25 (0, 0)) (by (with_reducible repeat (first | apply zn_ | apply zd_ | apply za_)); exact BK162.out) hb)
                have n3_ := ak_ (blk_below (g := gb163) (o := .cells #[.string a1_0, .int .i64 a1_1, .slice A1_2 l1_2.length c1_2] 28 (0, 0)) (by (with_reducible repeat (first | apply zn_ | apply zd_ | apply za_)); exact BK163.out) hb)
                have n4_ := ak_ (ps_ (by repeat (first | (with_reducible first | exact HB.out | apply pa_ | apply pd_ | apply p1_ | refine zs_ ?_ GE162.out | refine zs_ ?_ GE163.out) | exact HB.out)) hb)
                clear HO_164002
                clear HO172
                clear BK162
                clear BK163
                clear HB
                have HO_164002 := n0_
                have HO172 := n1_
                have BK162 := n2_
                have BK163 := n3_
                have HB := n4_
                clear n0_ n1_ n2_ n3_ n4_
                (try clear hb hk hi)
                refine hK.out _ _ ⟨(zc_ BK163.out 0).trans rfl, (zc_ BK163.out 1).trans rfl, (zc_ BK163.out 2).trans rfl, (zc_ BK162.out 0).trans rfl, (zc_ BK162.out 1).trans rfl, (zc_ BK162.out 2).trans rfl⟩ (fun hHeld => ?_)
                clear hK K
                refine norm_ (a' := ?_) ?_ ?_
                rotate_left
                · show Act.put _ (some 58) _ = _
                  simp only [Act.put, sa_, sz_, ss_, i64_w, i32_w]
                  rfl
                refine pure_ (i := 21) (N := some 59) (v := ?_) (a' := ?_) (b_ 41 4194303) rfl rfl (any_of HT_.out (by kernel_rfl)) (fun _ _ _ h => h) (Or.inl ⟨by rfl, ?_⟩) ?_ ?_; rotate_left; (· intro w'; go_simp; with_reducible rfl); rotate_left; (· simp only [Act.put, sa_, sz_, ss_, i64_w, i32_w]; rfl)
                refine pure_ (i := 22) (N := some 60) (v := ?_) (a' := ?_) (b_ 41 8388607) rfl rfl (any_of HT_.out (by kernel_rfl)) (fun _ _ _ h => h) (Or.inl ⟨by rfl, ?_⟩) ?_ ?_; rotate_left; (· intro w'; go_simp; with_reducible rfl); rotate_left; (· simp only [Act.put, sa_, sz_, ss_, i64_w, i32_w]; rfl)
                refine pure_ (i := 23) (N := some 61) (v := ?_) (a' := ?_) (b_ 41 16777215) rfl rfl (any_of HT_.out (by kernel_rfl)) (fun _ _ _ h => h) (Or.inl ⟨by rfl, ?_⟩) ?_ ?_; rotate_left; (· intro w'; go_simp; with_reducible rfl); rotate_left; (· simp only [Act.put, sa_, sz_, ss_, i64_w, i32_w]; rfl)
                refine pure_ (i := 25) (N := some 63) (v := ?_) (a' := ?_) (b_ 41 50331647) rfl rfl (any_of HT_.out (by kernel_rfl)) (fun _ _ _ h => h) (Or.inl ⟨by rfl, ?_⟩) ?_ ?_; rotate_left; (· intro w'; go_simp; with_reducible rfl); rotate_left; (· simp only [Act.put, sa_, sz_, ss_, i64_w, i32_w]; rfl)
                refine pure_ (i := 28) (N := some 66) (v := ?_) (a' := ?_) (b_ 41 318767103) rfl rfl (any_of HT_.out (by kernel_rfl)) (fun _ _ _ h => h) (Or.inl ⟨by rfl, ?_⟩) ?_ ?_; rotate_left; (· intro w'; go_simp; with_reducible rfl); rotate_left; (· simp only [Act.put, sa_, sz_, ss_, i64_w, i32_w]; rfl)
                refine take_ (i := 24) (N := some 62) (v := ?_) (a' := ?_) (b_ 41 335544319) rfl rfl (take_ofW HT_.out HW_.out (by kernel_rfl)) (fun _ _ _ h => h) (Or.inl ⟨by rfl, ?_⟩) hHeld ?_ ?_
                rotate_left
                · rintro w' ⟨s0, s1, s2, s3, s4, s5⟩
                  go_simp
                  with_reducible rfl
                rotate_left
                · simp only [Act.put, sa_, sz_, ss_, i64_w, i32_w]
                  rfl
                refine take_ (i := 27) (N := some 65) (v := ?_) (a' := ?_) (b_ 41 469762047) rfl rfl (take_ofW HT_.out HW_.out (by kernel_rfl)) (fun _ _ _ h => h) (Or.inl ⟨by rfl, ?_⟩) hHeld ?_ ?_
                rotate_left
                · rintro w' ⟨s0, s1, s2, s3, s4, s5⟩
                  go_simp
                  with_reducible rfl
                rotate_left
                · simp only [Act.put, sa_, sz_, ss_, i64_w, i32_w]
                  rfl
                refine one_ (i := 26) (N := some 64) (b_ 41 536870911) rfl rfl (one_of HT_.out (by kernel_rfl)) (by decide) (fun K hK => ?_)
                refine goes_ Try.func17 (by kernel_rfl) rfl #[.agg #[.slice A0_0 l0_0.length c0_0, .slice A0_1 l0_1.length c0_1, .int .i64 a0_2], .slice A2 l2.length c2] (by rfl) rfl rfl (by (try simp only [List.map_toArray, List.map_cons, List.map_nil]); first | done | rfl | (simp only [List.length_drop, List.length_take]; rfl)) ?_
                with_reducible refine (bound_Ticks.calls _ _ l0_0 _ _ l0_1 a0_2 _ _ l2 t181 _ ?side1 ?side2 ?side3 ?side4 ?side5 ?side6 A43.out).mono ?_
                (case side1 => repeat (first | exact (Kd.C_below HR0_0.out HB.out) | (with_reducible refine Kd.C_alloc ?_ _) | (with_reducible refine Kd.C_drewN ?_ _) | (with_reducible refine Kd.C_drew ?_)))
                (case side2 => exact HC0_0.out)
                (case side3 => repeat (first | exact (Kd.C_below HR0_1.out HB.out) | (with_reducible refine Kd.C_alloc ?_ _) | (with_reducible refine Kd.C_drewN ?_ _) | (with_reducible refine Kd.C_drew ?_)))
                (case side4 => exact HC0_1.out)
                (case side5 => repeat (first | exact (Kd.C_below HR2.out HB.out) | (with_reducible refine Kd.C_alloc ?_ _) | (with_reducible refine Kd.C_drewN ?_ _) | (with_reducible refine Kd.C_drew ?_)))
                (case side6 => exact HC2.out)
                rintro e w61 ⟨rfl, hb⟩
                refine ⟨_, rfl, ?_⟩
                have n0_ := ak_ (Kd.V_below (by (with_reducible repeat (first | apply Kd.V_alloc | apply Kd.V_drewN | apply Kd.V_drew)); exact HO_164002.out) hb)
                have n1_ := ak_ (Kd.N_below (by (with_reducible repeat (first | apply Kd.N_alloc | apply Kd.N_drewN | apply Kd.N_drew)); exact HO172.out) hb)
                have n2_ := ak_ (blk_below (g := gb162) (o := .cells #[.slice A0_0 l0_0.length c0_0, .slice A0_1 l0_1.length c0_1, .int .i64 a0_2] 25 (0, 0)) (by (with_reducible repeat (first | apply zn_ | apply zd_ | apply za_)); exact BK162.out) hb)
                have n3_ := ak_ (blk_below (g := gb163) (o := .cells #[.string a1_0, .int .i64 a1_1, .slice A1_2 l1_2.length c1_2] 28 (0, 0)) (by (with_reducible repeat (first | apply zn_ | apply zd_ | apply za_)); exact BK163.out) hb)
                have n4_ := ak_ (ps_ (by repeat (first | (with_reducible first | exact HB.out | apply pa_ | apply pd_ | apply p1_ | refine zs_ ?_ GE162.out | refine zs_ ?_ GE163.out) | exact HB.out)) hb)
                clear HO_164002
                clear HO172
                clear BK162
                clear BK163
                clear HB
                have HO_164002 := n0_
                have HO172 := n1_
                have BK162 := n2_
                have BK163 := n3_
                have HB := n4_
                clear n0_ n1_ n2_ n3_ n4_
                (try clear hb hk hi)
                refine hK.out _ _ ⟨(zc_ BK163.out 0).trans rfl, (zc_ BK163.out 1).trans rfl, (zc_ BK163.out 2).trans rfl, (zc_ BK162.out 0).trans rfl, (zc_ BK162.out 1).trans rfl, (zc_ BK162.out 2).trans rfl⟩ (fun hHeld => ?_)
                clear hK K
                refine norm_ (a' := ?_) ?_ ?_
                rotate_left
                · show Act.put _ (some 64) _ = _
                  simp only [Act.put, sa_, sz_, ss_, i64_w, i32_w]
                  rfl
                refine one_ (i := 29) (N := some 67) (b_ 41 1073741823) rfl rfl (one_of HT_.out (by kernel_rfl)) (by decide) (fun K hK => ?_)
                refine goes_ Try.func18 (by kernel_rfl) rfl #[.agg #[.slice A0_0 l0_0.length c0_0, .slice A0_1 l0_1.length c0_1, .int .i64 a0_2], .slice A2 l2.length c2] (by rfl) rfl rfl (by (try simp only [List.map_toArray, List.map_cons, List.map_nil]); first | done | rfl | (simp only [List.length_drop, List.length_take]; rfl)) ?_
                with_reducible refine (usufructref25_Ticks.calls kj6 _ _ l0_0 _ _ l0_1 a0_2 _ _ l2 t182 _ ?side1 ?side2 ?side3 ?side4 ?side5 ?side6 A44.out).mono ?_
                (case side1 => repeat (first | exact (Kd.C_below HR0_0.out HB.out) | (with_reducible refine Kd.C_alloc ?_ _) | (with_reducible refine Kd.C_drewN ?_ _) | (with_reducible refine Kd.C_drew ?_)))
                (case side2 => exact HC0_0.out)
                (case side3 => repeat (first | exact (Kd.C_below HR0_1.out HB.out) | (with_reducible refine Kd.C_alloc ?_ _) | (with_reducible refine Kd.C_drewN ?_ _) | (with_reducible refine Kd.C_drew ?_)))
                (case side4 => exact HC0_1.out)
                (case side5 => repeat (first | exact (Kd.C_below HR2.out HB.out) | (with_reducible refine Kd.C_alloc ?_ _) | (with_reducible refine Kd.C_drewN ?_ _) | (with_reducible refine Kd.C_drew ?_)))
                (case side6 => exact HC2.out)
                rintro e w62 ⟨rfl, hb⟩
                refine ⟨_, rfl, ?_⟩
                have n0_ := ak_ (Kd.V_below (by (with_reducible repeat (first | apply Kd.V_alloc | apply Kd.V_drewN | apply Kd.V_drew)); exact HO_164002.out) hb)
                have n1_ := ak_ (Kd.N_below (by (with_reducible repeat (first | apply Kd.N_alloc | apply Kd.N_drewN | apply Kd.N_drew)); exact HO172.out) hb)
                have n2_ := ak_ (blk_below (g := gb162) (o := .cells #[.slice A0_0 l0_0.length c0_0, .slice A0_1 l0_1.length c0_1, .int .i64 a0_2] 25 (0, 0)) (by (with_reducible repeat (first | apply zn_ | apply zd_ | apply za_)); exact BK162.out) hb)
                have n3_ := ak_ (blk_below (g := gb163) (o := .cells #[.string a1_0, .int .i64 a1_1, .slice A1_2 l1_2.length c1_2] 28 (0, 0)) (by (with_reducible repeat (first | apply zn_ | apply zd_ | apply za_)); exact BK163.out) hb)
                have n4_ := ak_ (ps_ (by repeat (first | (with_reducible first | exact HB.out | apply pa_ | apply pd_ | apply p1_ | refine zs_ ?_ GE162.out | refine zs_ ?_ GE163.out) | exact HB.out)) hb)
                clear HO_164002
                clear HO172
                clear BK162
                clear BK163
                clear HB
                have HO_164002 := n0_
                have HO172 := n1_
                have BK162 := n2_
                have BK163 := n3_
                have HB := n4_
                clear n0_ n1_ n2_ n3_ n4_
                (try clear hb hk hi)
                refine hK.out _ _ ⟨(zc_ BK163.out 0).trans rfl, (zc_ BK163.out 1).trans rfl, (zc_ BK163.out 2).trans rfl, (zc_ BK162.out 0).trans rfl, (zc_ BK162.out 1).trans rfl, (zc_ BK162.out 2).trans rfl⟩ (fun hHeld => ?_)
                clear hK K
                refine norm_ (a' := ?_) ?_ ?_
                rotate_left
                · show Act.put _ (some 67) _ = _
                  simp only [Act.put, sa_, sz_, ss_, i64_w, i32_w]
                  rfl
                refine pure_ (i := 30) (N := some 68) (v := ?_) (a' := ?_) (b_ 41 2147483647) rfl rfl (any_of HT_.out (by kernel_rfl)) (fun _ _ _ h => h) (Or.inl ⟨by rfl, ?_⟩) ?_ ?_; rotate_left; (· intro w'; go_simp; with_reducible rfl); rotate_left; (· simp only [Act.put, sa_, sz_, ss_, i64_w, i32_w]; rfl)
                refine pure_ (i := 31) (N := some 69) (v := ?_) (a' := ?_) (b_ 41 4294967295) rfl rfl (any_of HT_.out (by kernel_rfl)) (fun _ _ _ h => h) (Or.inl ⟨by rfl, ?_⟩) ?_ ?_; rotate_left; (· intro w'; go_simp; with_reducible rfl); rotate_left; (· simp only [Act.put, sa_, sz_, ss_, i64_w, i32_w]; rfl)
                refine pure_ (i := 32) (N := some 70) (v := ?_) (a' := ?_) (b_ 41 8589934591) rfl rfl (any_of HT_.out (by kernel_rfl)) (fun _ _ _ h => h) (Or.inl ⟨by rfl, ?_⟩) ?_ ?_; rotate_left; (· intro w'; go_simp; with_reducible rfl); rotate_left; (· simp only [Act.put, sa_, sz_, ss_, i64_w, i32_w]; rfl)
                refine pure_ (i := 34) (N := some 72) (v := ?_) (a' := ?_) (b_ 41 25769803775) rfl rfl (any_of HT_.out (by kernel_rfl)) (fun _ _ _ h => h) (Or.inl ⟨by rfl, ?_⟩) ?_ ?_; rotate_left; (· intro w'; go_simp; with_reducible rfl); rotate_left; (· simp only [Act.put, sa_, sz_, ss_, i64_w, i32_w]; rfl)
                refine pure_ (i := 35) (N := some 73) (v := ?_) (a' := ?_) (b_ 41 60129542143) rfl rfl (any_of HT_.out (by kernel_rfl)) (fun _ _ _ h => h) (Or.inl ⟨by rfl, ?_⟩) ?_ ?_; rotate_left; (· intro w'; go_simp; with_reducible rfl); rotate_left; (· simp only [Act.put, sa_, sz_, ss_, i64_w, i32_w]; rfl)
                refine pure_ (i := 37) (N := some 75) (v := ?_) (a' := ?_) (b_ 41 197568495615) rfl rfl (any_of HT_.out (by kernel_rfl)) (fun _ _ _ h => h) (Or.inl ⟨by rfl, ?_⟩) ?_ ?_; rotate_left; (· intro w'; go_simp; with_reducible rfl); rotate_left; (· simp only [Act.put, sa_, sz_, ss_, i64_w, i32_w]; rfl)
                refine take_ (i := 33) (N := some 71) (v := ?_) (a' := ?_) (b_ 41 206158430207) rfl rfl (take_ofW HT_.out HW_.out (by kernel_rfl)) (fun _ _ _ h => h) (Or.inl ⟨by rfl, ?_⟩) hHeld ?_ ?_
                rotate_left
                · rintro w' ⟨s0, s1, s2, s3, s4, s5⟩
                  go_simp
                  with_reducible rfl
                rotate_left
                · simp only [Act.put, sa_, sz_, ss_, i64_w, i32_w]
                  rfl
                refine one_ (i := 36) (N := some 74) (b_ 41 274877906943) rfl rfl (one_of HT_.out (by kernel_rfl)) (by decide) (fun K hK => ?_)
                refine goes_ Try.func19 (by kernel_rfl) rfl #[.agg #[.string a1_0, .int .i64 a1_1, .slice A1_2 l1_2.length c1_2], .slice A2 l2.length c2, .int .i64 a3] (by rfl) rfl rfl (by (try simp only [List.map_toArray, List.map_cons, List.map_nil]); first | done | rfl | (simp only [List.length_drop, List.length_take]; rfl)) ?_
                with_reducible refine (bound_Total.calls a1_0 a1_1 _ _ l1_2 _ _ l2 a3 t183 _ ?side1 ?side2 ?side3 ?side4 A46.out).mono ?_
                (case side1 => repeat (first | exact (Kd.V_reads' HO_164002.out).2.2 | (with_reducible refine Kd.C_alloc ?_ _) | (with_reducible refine Kd.C_drewN ?_ _) | (with_reducible refine Kd.C_drew ?_)))
                (case side2 => exact (Kd.V_reads' HO_164002.out).2.1)
                (case side3 => repeat (first | exact (Kd.C_below HR2.out HB.out) | (with_reducible refine Kd.C_alloc ?_ _) | (with_reducible refine Kd.C_drewN ?_ _) | (with_reducible refine Kd.C_drew ?_)))
                (case side4 => exact HC2.out)
                rintro e w63 ⟨rfl, hb⟩
                refine ⟨_, rfl, ?_⟩
                have n0_ := ak_ (Kd.V_below (by (with_reducible repeat (first | apply Kd.V_alloc | apply Kd.V_drewN | apply Kd.V_drew)); exact HO_164002.out) hb)
                have n1_ := ak_ (Kd.N_below (by (with_reducible repeat (first | apply Kd.N_alloc | apply Kd.N_drewN | apply Kd.N_drew)); exact HO172.out) hb)
                have n2_ := ak_ (blk_below (g := gb162) (o := .cells #[.slice A0_0 l0_0.length c0_0, .slice A0_1 l0_1.length c0_1, .int .i64 a0_2] 25 (0, 0)) (by (with_reducible repeat (first | apply zn_ | apply zd_ | apply za_)); exact BK162.out) hb)
                have n3_ := ak_ (blk_below (g := gb163) (o := .cells #[.string a1_0, .int .i64 a1_1, .slice A1_2 l1_2.length c1_2] 28 (0, 0)) (by (with_reducible repeat (first | apply zn_ | apply zd_ | apply za_)); exact BK163.out) hb)
                have n4_ := ak_ (ps_ (by repeat (first | (with_reducible first | exact HB.out | apply pa_ | apply pd_ | apply p1_ | refine zs_ ?_ GE162.out | refine zs_ ?_ GE163.out) | exact HB.out)) hb)
                clear HO_164002
                clear HO172
                clear BK162
                clear BK163
                clear HB
                have HO_164002 := n0_
                have HO172 := n1_
                have BK162 := n2_
                have BK163 := n3_
                have HB := n4_
                clear n0_ n1_ n2_ n3_ n4_
                (try clear hb hk hi)
                refine hK.out _ _ ⟨(zc_ BK163.out 0).trans rfl, (zc_ BK163.out 1).trans rfl, (zc_ BK163.out 2).trans rfl, (zc_ BK162.out 0).trans rfl, (zc_ BK162.out 1).trans rfl, (zc_ BK162.out 2).trans rfl⟩ (fun hHeld => ?_)
                clear hK K
                refine norm_ (a' := ?_) ?_ ?_
                rotate_left
                · show Act.put _ (some 74) _ = _
                  simp only [Act.put, sa_, sz_, ss_, i64_w, i32_w]
                  rfl
                refine pure_ (i := 38) (N := some 76) (v := ?_) (a' := ?_) (b_ 41 549755813887) rfl rfl (any_of HT_.out (by kernel_rfl)) (fun _ _ _ h => h) (Or.inl ⟨by rfl, ?_⟩) ?_ ?_; rotate_left; (· intro w'; go_simp; with_reducible rfl); rotate_left; (· simp only [Act.put, sa_, sz_, ss_, i64_w, i32_w]; rfl)
                refine pure_ (i := 39) (N := some 77) (v := ?_) (a' := ?_) (b_ 41 1099511627775) rfl rfl (any_of HT_.out (by kernel_rfl)) (fun _ _ _ h => h) (Or.inl ⟨by rfl, ?_⟩) ?_ ?_; rotate_left; (· intro w'; go_simp; with_reducible rfl); rotate_left; (· simp only [Act.put, sa_, sz_, ss_, i64_w, i32_w]; rfl)
                refine pure_ (i := 40) (N := some 8) (v := ?_) (a' := ?_) (b_ 41 2199023255551) rfl rfl (any_of HT_.out (by kernel_rfl)) (fun _ _ _ h => h) (Or.inl ⟨by rfl, ?_⟩) ?_ ?_; rotate_left; (· intro w'; go_simp; with_reducible rfl); rotate_left; (· simp only [Act.put, sa_, sz_, ss_, i64_w, i32_w]; rfl)
                refine done_ (done_of HT_.out (by kernel_rfl)) ?_
                try go_wp2
                go_ret
                exact ⟨by first | rfl | (simp only [E35.out]; done) | (simp only [E35.out]; rfl) | (simp [errW_none, errW_some] <;> rfl) | (simp [*, errW_none, errW_some] <;> rfl), by repeat (first | (with_reducible first | exact HB.out | apply pa_ | apply pd_ | apply p1_ | refine zs_ ?_ GE162.out | refine zs_ ?_ GE163.out) | exact HB.out)⟩
              rw [if_neg c45] at H
              have c45b0 : (t181 == t182) = false := beq_eq_false_iff_ne.mpr c45
              have c45b1 : (t181 != t182) = true := bne_iff_ne.mpr c45
              exact absurd ((Option.some.inj H).trans HTR_.out) (by decide)
            rw [if_neg c42] at H
            have c42b0 : (t179 == t180) = false := beq_eq_false_iff_ne.mpr c42
            have c42b1 : (t179 != t180) = true := bne_iff_ne.mpr c42
            exact absurd ((Option.some.inj H).trans HTR_.out) (by decide)
          rw [if_neg c39] at H
          have c39b0 : (t177 == t178) = false := beq_eq_false_iff_ne.mpr c39
          have c39b1 : (t177 != t178) = true := bne_iff_ne.mpr c39
          exact absurd ((Option.some.inj H).trans HTR_.out) (by decide)
        rw [if_neg c36] at H
        have c36b0 : (t175 == t176) = false := beq_eq_false_iff_ne.mpr c36
        have c36b1 : (t175 != t176) = true := bne_iff_ne.mpr c36
        exact absurd ((Option.some.inj H).trans HTR_.out) (by decide)
  replace c6 := Bool.eq_false_iff.mpr c6
  subst c6
  have H1 : (some false) = some r := by rw [if_neg (show ¬ (false = true) by decide)] at H; exact H
  clear H
  have H := H1
  clear H1
  exact absurd ((Option.some.inj H).trans HTR_.out) (by decide)

end Go.Proofs.Ytookpfpmobbhiaa.Q
